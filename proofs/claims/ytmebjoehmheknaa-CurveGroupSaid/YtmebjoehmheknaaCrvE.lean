/-
  Layer 6: points: any multiple; a multiple and one of the base; the sum of points.
-/
import Derived.Test.YtmebjoehmheknaaCrvD
namespace Go.Proofs.Ytmebjoehmheknaa
open Go.RowKit
set_option linter.unusedVariables false
set_option linter.unusedSimpArgs false

theorem nib_of_byte {b : List Nat} (db : Digs 256 b) (j : Nat) : b.getD (j / 2) 0 / 2 ^ (4 * (j % 2)) % 16 = val 256 b / 16 ^ j % 16 := by
  rw [← val_div_mod db (by decide), show (256 : Nat) = 16 ^ 2 from rfl, ← Nat.pow_mul, Nat.pow_mul 2 4, show (2 : Nat) ^ 4 = 16 from rfl, mod_pow_div_mod (B := 16) _ 2 (j % 2) (Nat.mod_lt _ (by decide)), Nat.div_div_eq_div_mul, ← Nat.pow_add, show 2 * (j / 2) + j % 2 = j by omega]
noncomputable def dblsL (x : List Nat) : Nat → List Nat
  | 0 => x
  | t + 1 => dblP (dblsL x t)
theorem dblsL_ok {x : List Nat} {Q : Pt} (h : PRep x Q) : ∀ t, PRep (dblsL x t) (smul (2 ^ t) Q)
  | 0 => by
    rw [Nat.pow_zero, smul_one]
    exact h
  | t + 1 => by
    rw [Nat.pow_succ, Nat.mul_comm, smul_two]
    exact (dblP_ok (dblsL_ok h t)).1
/-- The multiple, window by window. -/
noncomputable def winL (l : List Nat) (N : Nat) : Nat → List Nat
  | 0 => zeroL
  | r + 1 => addP (dblsL (winL l N r) 4) (mulsL l (N / 16 ^ (63 - r) % 16))
theorem win_step (N r : Nat) (h : r < 64) : 2 ^ 4 * (N / 16 ^ (64 - r)) + N / 16 ^ (63 - r) % 16 = N / 16 ^ (63 - r) := by
  have e : 64 - r = (63 - r) + 1 := by omega
  rw [e, Nat.pow_succ 16, ← Nat.div_div_eq_div_mul, show (2 : Nat) ^ 4 = 16 from rfl]
  omega
theorem winL_ok {l : List Nat} {P : Pt} (h : PRep l P) {N : Nat} (hN : N < 16 ^ 64) : ∀ r, r ≤ 64 → PRep (winL l N r) (smul (N / 16 ^ (64 - r)) P)
  | 0, _ => by
    rw [Nat.sub_zero, Nat.div_eq_of_lt hN]
    exact PRep_zero
  | r + 1, hr => by
    have h1 := dblsL_ok (winL_ok h hN r (by omega)) 4
    have h2 := (addP_ok h1 (mulsL_ok h (N / 16 ^ (63 - r) % 16))).1
    rw [← smul_mul, ← smul_add, Nat.mul_comm, win_step N r (by omega)] at h2
    have e : 64 - (r + 1) = 63 - r := by omega
    rw [e]
    exact h2

set_option maxRecDepth 100000 in
set_option maxHeartbeats 8000000 in
theorem PMul_walk {l b : List Nat} {P : Pt} (h : PRep l P) (hb : b.length = 32) (db : Digs 256 b) (w : World) : Gives 9 #[pt l, .agg (ints .u8 b)] w (pt (winL l (val 256 b) 64)) := by
  have len := h.len
  have hN : val 256 b < 16 ^ 64 := by
    have := val_lt db
    rw [hb] at this
    exact this
  have Hnib := Lib.hid (fun j => nib_of_byte db j)
  have Hbyte := Lib.hid (fun j => db.getD (by decide) j)
  obtain ⟨N, hNe⟩ : ∃ N, val 256 b = N := ⟨_, rfl⟩
  rw [hNe] at Hnib hN ⊢
  have Hok := Lib.hid (fun r hr => winL_ok h hN r hr)
  have HM := Lib.hid (fun w => multiples_any h w)
  have Hg := Lib.hid (fun i (hi : i < 16) => tabAt_get h (J := 16) (i := i) hi (Nat.le_refl _))
  have hTl : (tabL l).length = 320 := tabAt_flen h 16
  have Hmul := Lib.hid (fun j => mulsL_ok h j)
  have HP := Lib.hid h
  have HZ := Lib.hid PZero_any
  have lz : zeroL.length = 20 := rfl
  clear h hN db hNe
  have hE0 := Env.nil w
  go_enter Try.func9, Try.ntmps9
  repeat ((fail_if_success (with_reducible show wpList _ _ _ (List.cons _ _) _ _)); (fail_if_success (with_reducible show Code.wp _ (Code.region _ _ true) _ _ _)); go_step)
  refine wl_step (st_boxA hE0 rfl rfl rfl ?_)
  intro g0 w1 hb1 hE1
  clear hE0
  simp only [Act.put, List.setIfInBounds_toArray, List.set_cons_zero, List.set_cons_succ]
  refine wl_step (st_boxA hE1 rfl rfl rfl ?_)
  intro g1 w2 hb2 hE2
  clear hE1
  simp only [Act.put, List.setIfInBounds_toArray, List.set_cons_zero, List.set_cons_succ]
  refine wl_step (st_alloc (zs := ints .u64 (List.replicate 20 0)) hE2 rfl rfl (fun w => by kernel_rfl) ?_)
  intro g2 w3 hb3 hE3
  clear hE2
  simp only [Act.put, List.setIfInBounds_toArray, List.set_cons_zero, List.set_cons_succ]
  repeat ((fail_if_success (with_reducible show wpList _ _ _ (List.cons _ _) _ _)); (fail_if_success (with_reducible show Code.wp _ (Code.region _ _ true) _ _ _)); go_step)
  refine wl_step (st_val rfl (v_load (i := 2) hE3 rfl rfl rfl Try.underlying28 rfl (sz_of (n := 20) (by kernel_rfl) (by first | (simp only [ints_size, digs_length, List.length_replicate, List.length_cons, List.length_nil]; done) | (simp only [ints_size, digs_length, List.length_replicate, List.length_cons, List.length_nil, List.length_set, List.length_append]; omega) | rfl))) ?_)
  simp only [Act.put, List.setIfInBounds_toArray, List.set_cons_zero, List.set_cons_succ]
  refine wl_step (st_gives hE3 rfl (run_call rfl Try.call32) (HM.out _) ?_)
  intro w4 hb4 hE4
  clear hE3
  simp only [Act.put, List.setIfInBounds_toArray, List.set_cons_zero, List.set_cons_succ]
  refine wl_step (st_alloc (zs := ints .u64 (List.replicate 320 0)) hE4 rfl rfl (fun w => by kernel_rfl) ?_)
  intro g3 w5 hb5 hE5
  clear hE4
  simp only [Act.put, List.setIfInBounds_toArray, List.set_cons_zero, List.set_cons_succ]
  refine wl_step (st_store (i := 0) hE5 rfl rfl rfl rfl rfl (sz_of (n := 320) (by kernel_rfl) (by first | (simp only [ints_size, digs_length, List.length_replicate, List.length_cons, List.length_nil]; done) | (simp only [ints_size, digs_length, List.length_replicate, List.length_cons, List.length_nil, List.length_set, List.length_append]; omega) | rfl)) (by first | (simp only [ints_size, digs_length, List.length_replicate, List.length_cons, List.length_nil]; done) | (simp only [ints_size, digs_length, List.length_replicate, List.length_cons, List.length_nil, List.length_set, List.length_append]; omega) | rfl) (by first | exact ints_one _ _ | decide | simp [*]) ?_)
  intro w6 hE6
  clear hE5
  simp only [List.set_cons_zero, List.set_cons_succ] at hE6
  simp only [Act.put, List.setIfInBounds_toArray, List.set_cons_zero, List.set_cons_succ]
  repeat ((fail_if_success (with_reducible show wpList _ _ _ (List.cons _ _) _ _)); (fail_if_success (with_reducible show Code.wp _ (Code.region _ _ true) _ _ _)); go_step)
  refine wl_step (st_gives hE6 rfl (run_call rfl Try.call12) (HZ.out _) ?_)
  intro w7 hb7 hE7
  clear hE6
  simp only [Act.put, List.setIfInBounds_toArray, List.set_cons_zero, List.set_cons_succ]
  refine wl_step (st_alloc (zs := ints .u64 (List.replicate 20 0)) hE7 rfl rfl (fun w => by kernel_rfl) ?_)
  intro g4 w8 hb8 hE8
  clear hE7
  simp only [Act.put, List.setIfInBounds_toArray, List.set_cons_zero, List.set_cons_succ]
  refine wl_step (st_store (i := 0) hE8 rfl rfl rfl rfl rfl (sz_of (n := 20) (by kernel_rfl) (by first | (simp only [ints_size, digs_length, List.length_replicate, List.length_cons, List.length_nil]; done) | (simp only [ints_size, digs_length, List.length_replicate, List.length_cons, List.length_nil, List.length_set, List.length_append]; omega) | rfl)) (by first | (simp only [ints_size, digs_length, List.length_replicate, List.length_cons, List.length_nil]; done) | (simp only [ints_size, digs_length, List.length_replicate, List.length_cons, List.length_nil, List.length_set, List.length_append]; omega) | rfl) (by first | exact ints_one _ _ | decide | simp [*]) ?_)
  intro w9 hE9
  clear hE8
  simp only [List.set_cons_zero, List.set_cons_succ] at hE9
  simp only [Act.put, List.setIfInBounds_toArray, List.set_cons_zero, List.set_cons_succ]
  repeat ((fail_if_success (with_reducible show wpList _ _ _ (List.cons _ _) _ _)); (fail_if_success (with_reducible show Code.wp _ (Code.region _ _ true) _ _ _)); go_step)
  refine wl_step (st_val rfl (v_moveC (.inr rfl)) ?_)
  simp only [Act.put, List.setIfInBounds_toArray, List.set_cons_zero, List.set_cons_succ]
  go_wp2
  go_loopw [7] (fun i wr => ∃ K : Nat, K ≤ 64 ∧ i = .int .i64 ((K : Int) - 1) ∧ Env w [⟨g4, 28, ints .u64 (winL l N (64 - K))⟩, ⟨g3, 61, ints .u64 (tabL l)⟩, ⟨g2, 28, ints .u64 (List.replicate 20 0)⟩, ⟨g1, 22, ints .u8 b⟩, ⟨g0, 28, ints .u64 l⟩] wr) (fun i _ => (intOf i + 1).toNat)
  case atStart => exact ⟨64, Nat.le_refl _, rfl, hE9⟩
  case round =>
    clear hE9
    obtain ⟨K, hK, rfl, hE0⟩ := hrel
    have hX := (Hok.out (64 - K) (by omega)).len
    cases K with
    | zero =>
      repeat ((fail_if_success (with_reducible show wpList _ _ _ (List.cons _ _) _ _)); (fail_if_success (with_reducible show Code.wp _ (Code.region _ _ true) _ _ _)); go_step)
      refine wl_step (st_val rfl (v_moveT (.inl rfl) rfl) ?_)
      simp only [Act.put, List.setIfInBounds_toArray, List.set_cons_zero, List.set_cons_succ]
      refine wl_step (st_val rfl (v_geqI rfl rfl rfl) ?_)
      simp only [Act.put, List.setIfInBounds_toArray, List.set_cons_zero, List.set_cons_succ]
      repeat ((fail_if_success (with_reducible show wpList _ _ _ (List.cons _ _) _ _)); (fail_if_success (with_reducible show Code.wp _ (Code.region _ _ true) _ _ _)); go_step)
      refine wl_step (st_val rfl (v_load (i := 0) hE0 rfl rfl rfl Try.underlying28 rfl (sz_of (n := 20) (by kernel_rfl) (by first | (simp only [ints_size, digs_length, List.length_replicate, List.length_cons, List.length_nil]; done) | (simp only [ints_size, digs_length, List.length_replicate, List.length_cons, List.length_nil, List.length_set, List.length_append]; omega) | rfl))) ?_)
      simp only [Act.put, List.setIfInBounds_toArray, List.set_cons_zero, List.set_cons_succ]
      refine wl_step (st_store (i := 2) hE0 rfl rfl rfl rfl rfl (sz_of (n := 20) (by kernel_rfl) (by first | (simp only [ints_size, digs_length, List.length_replicate, List.length_cons, List.length_nil]; done) | (simp only [ints_size, digs_length, List.length_replicate, List.length_cons, List.length_nil, List.length_set, List.length_append]; omega) | rfl)) (by first | (simp only [ints_size, digs_length, List.length_replicate, List.length_cons, List.length_nil]; done) | (simp only [ints_size, digs_length, List.length_replicate, List.length_cons, List.length_nil, List.length_set, List.length_append]; omega) | rfl) (by first | exact ints_one _ _ | decide | simp [*]) ?_)
      intro w1 hE1
      clear hE0
      simp only [List.set_cons_zero, List.set_cons_succ] at hE1
      simp only [Act.put, List.setIfInBounds_toArray, List.set_cons_zero, List.set_cons_succ]
      repeat ((fail_if_success (with_reducible show wpList _ _ _ (List.cons _ _) _ _)); (fail_if_success (with_reducible show Code.wp _ (Code.region _ _ true) _ _ _)); go_step)
      refine bodyPost_ret (results_cell_row rfl _ _ _ _ _ (0, 0) _ rfl (hE1.get (i := 2) rfl) Try.underlying28 rfl (sz_of (n := 20) (by kernel_rfl) (by first | (simp only [ints_size, digs_length, List.length_replicate, List.length_cons, List.length_nil]; done) | (simp only [ints_size, digs_length, List.length_replicate, List.length_cons, List.length_nil, List.length_set, List.length_append]; omega) | rfl))) rfl ⟨rfl, hE1.below⟩
    | succ j =>
      have hj : ((j + 1 : Nat) : Int) - 1 = (j : Int) := by omega
      rw [hj]
      clear hj
      have hj64 : j < 64 := by omega
      have e1 : 64 - (j + 1) = 63 - j := by omega
      rw [e1] at hE0 hX
      have hXr := Hok.out (63 - j) (by omega)
      have e2 : 64 - j = (63 - j) + 1 := by omega
      have e3 : 63 - (63 - j) = j := by omega
      have hnext : winL l N (64 - j) = addP (dblsL (winL l N (63 - j)) 4) (mulsL l (N / 16 ^ j % 16)) := by
        rw [e2, winL, e3]
      obtain ⟨X, hXe⟩ : ∃ X, winL l N (63 - j) = X := ⟨_, rfl⟩
      rw [hXe] at hE0 hX hXr hnext
      have Hd := Lib.hid (fun t => dblsL_ok hXr t)
      have Hn := Lib.hid hnext
      clear e1 e2 e3 hnext hXe hXr
      have hst : Env w [⟨g4, 28, ints .u64 (dblsL X 0)⟩, ⟨g3, 61, ints .u64 (tabL l)⟩, ⟨g2, 28, ints .u64 (List.replicate 20 0)⟩, ⟨g1, 22, ints .u8 b⟩, ⟨g0, 28, ints .u64 l⟩] wr := hE0
      clear hE0
      have hE0 := hst
      clear hst
      repeat ((fail_if_success (with_reducible show wpList _ _ _ (List.cons _ _) _ _)); (fail_if_success (with_reducible show Code.wp _ (Code.region _ _ true) _ _ _)); go_step)
      refine wl_step (st_val rfl (v_moveT (.inl rfl) rfl) ?_)
      simp only [Act.put, List.setIfInBounds_toArray, List.set_cons_zero, List.set_cons_succ]
      refine wl_step (st_val rfl (v_geqI rfl rfl rfl) ?_)
      simp only [Act.put, List.setIfInBounds_toArray, List.set_cons_zero, List.set_cons_succ]
      repeat ((fail_if_success (with_reducible show wpList _ _ _ (List.cons _ _) _ _)); (fail_if_success (with_reducible show Code.wp _ (Code.region _ _ true) _ _ _)); go_step)
      refine wl_step (st_val rfl (v_moveC (.inl rfl)) ?_)
      simp only [Act.put, List.setIfInBounds_toArray, List.set_cons_zero, List.set_cons_succ]
      go_wp2
      go_loopw [15] (fun i wr => ∃ T : Nat, T ≤ 4 ∧ i = .int .i64 T ∧ Env w [⟨g4, 28, ints .u64 (dblsL X T)⟩, ⟨g3, 61, ints .u64 (tabL l)⟩, ⟨g2, 28, ints .u64 (List.replicate 20 0)⟩, ⟨g1, 22, ints .u8 b⟩, ⟨g0, 28, ints .u64 l⟩] wr) (fun i _ => 4 - (intOf i).toNat)
      case atStart => exact ⟨0, Nat.zero_le _, rfl, hE0⟩
      case round =>
        clear hE0
        obtain ⟨T, hT, rfl, hE0⟩ := hrel
        have hXt := Hd.out T
        have lXt := hXt.len
        by_cases hT4 : T < 4
        · have hXs := dblP_ok hXt
          have e : dblP (dblsL X T) = dblsL X (T + 1) := rfl
          rw [e] at hXs
          have lXs := hXs.1.len
          have HD := Lib.hid hXs.2
          clear hXt hXs e
          repeat ((fail_if_success (with_reducible show wpList _ _ _ (List.cons _ _) _ _)); (fail_if_success (with_reducible show Code.wp _ (Code.region _ _ true) _ _ _)); go_step)
          refine wl_step (st_val rfl (v_lss (n := 4) rfl rfl rfl) ?_)
          simp only [Act.put, List.setIfInBounds_toArray, List.set_cons_zero, List.set_cons_succ]
          repeat ((fail_if_success (with_reducible show wpList _ _ _ (List.cons _ _) _ _)); (fail_if_success (with_reducible show Code.wp _ (Code.region _ _ true) _ _ _)); go_step)
          refine wl_step (st_val rfl (v_load (i := 0) hE0 rfl rfl rfl Try.underlying28 rfl (sz_of (n := 20) (by kernel_rfl) (by first | (simp only [ints_size, digs_length, List.length_replicate, List.length_cons, List.length_nil]; done) | (simp only [ints_size, digs_length, List.length_replicate, List.length_cons, List.length_nil, List.length_set, List.length_append]; omega) | rfl))) ?_)
          simp only [Act.put, List.setIfInBounds_toArray, List.set_cons_zero, List.set_cons_succ]
          refine wl_step (st_gives hE0 rfl (run_call rfl Try.call14) (HD.out _) ?_)
          intro w1 hb1 hE1
          clear hE0
          simp only [Act.put, List.setIfInBounds_toArray, List.set_cons_zero, List.set_cons_succ]
          refine wl_step (st_store (i := 0) hE1 rfl rfl rfl rfl rfl (sz_of (n := 20) (by kernel_rfl) (by first | (simp only [ints_size, digs_length, List.length_replicate, List.length_cons, List.length_nil]; done) | (simp only [ints_size, digs_length, List.length_replicate, List.length_cons, List.length_nil, List.length_set, List.length_append]; omega) | rfl)) (by first | (simp only [ints_size, digs_length, List.length_replicate, List.length_cons, List.length_nil]; done) | (simp only [ints_size, digs_length, List.length_replicate, List.length_cons, List.length_nil, List.length_set, List.length_append]; omega) | rfl) (by first | exact ints_one _ _ | decide | simp [*]) ?_)
          intro w2 hE2
          clear hE1
          simp only [List.set_cons_zero, List.set_cons_succ] at hE2
          simp only [Act.put, List.setIfInBounds_toArray, List.set_cons_zero, List.set_cons_succ]
          repeat ((fail_if_success (with_reducible show wpList _ _ _ (List.cons _ _) _ _)); (fail_if_success (with_reducible show Code.wp _ (Code.region _ _ true) _ _ _)); go_step)
          refine wl_step (st_val rfl (v_add (n := 1) rfl rfl rfl (w_i64 (by omega))) ?_)
          simp only [Act.put, List.setIfInBounds_toArray, List.set_cons_zero, List.set_cons_succ]
          refine wl_step (st_val rfl (v_moveT (.inl rfl) rfl) ?_)
          simp only [Act.put, List.setIfInBounds_toArray, List.set_cons_zero, List.set_cons_succ]
          go_wp2
          go_roundw
          case rel => exact ⟨T + 1, by omega, rfl, hE2⟩
          case measure => simp [intOf]; omega
        · have hT' : T = 4 := by omega
          subst hT'
          have hnb := Hnib.out j
          have hbl := Hbyte.out (j / 2)
          have hi32 : j / 2 < b.length := by omega
          have hi32' : j / 2 < 32 := by omega
          obtain ⟨c, hc⟩ : ∃ c, b.getD (j / 2) 0 = c := ⟨_, rfl⟩
          rw [hc] at hnb hbl
          have hsh : c / 2 ^ (4 * (j % 2)) < 2 ^ IntKind.u8.bits := by
            have := Nat.div_le_self c (2 ^ (4 * (j % 2)))
            simp only [IntKind.bits]
            omega
          have h48 : 4 * (j % 2) ≤ IntKind.u8.bits := by simp only [IntKind.bits]; omega
          have hm16 : N / 16 ^ j % 16 < 16 := Nat.mod_lt _ (by decide)
          have hget := Hg.out _ hm16
          have hmm := Hmul.out (N / 16 ^ j % 16)
          have hadd := addP_ok hXt hmm
          rw [← Hn.out] at hadd
          obtain ⟨m, hme⟩ : ∃ m, N / 16 ^ j % 16 = m := ⟨_, rfl⟩
          rw [hme] at hnb hm16 hget hadd hmm
          obtain ⟨Y, hYe⟩ : ∃ Y, mulsL l m = Y := ⟨_, rfl⟩
          have hget' : List.take 20 (List.drop (m * 20) (tabL l)) = mulsL l m := hget
          rw [hYe] at hget' hadd hmm
          have lY := hmm.len
          have lR := hadd.1.len
          have HA := Lib.hid hadd.2
          have HG := Lib.hid hget'
          have HNb := Lib.hid hnb
          have HC := Lib.hid hc
          have hbb : m * 20 + 20 ≤ (tabL l).length := by omega
          clear hget hget' hmm hadd hme hYe hnb hc hXt
          repeat ((fail_if_success (with_reducible show wpList _ _ _ (List.cons _ _) _ _)); (fail_if_success (with_reducible show Code.wp _ (Code.region _ _ true) _ _ _)); go_step)
          refine wl_step (st_val rfl (v_lss (n := 4) rfl rfl rfl) ?_)
          simp only [Act.put, List.setIfInBounds_toArray, List.set_cons_zero, List.set_cons_succ]
          repeat ((fail_if_success (with_reducible show wpList _ _ _ (List.cons _ _) _ _)); (fail_if_success (with_reducible show Code.wp _ (Code.region _ _ true) _ _ _)); go_step)
          refine wp_region_B (n := 14) 13 (by kernel_rfl) rfl hE0 ?_
          intro w1 hb1 hE1
          clear hE0
          refine wpB_take (i := 0) (by kernel_rfl) rfl (by kernel_rfl) (fun _ _ _ h => h) rfl (v_load (i := 0) hE1 rfl rfl rfl Try.underlying28 rfl (sz_of (n := 20) (by kernel_rfl) (by first | (simp only [ints_size, digs_length, List.length_replicate, List.length_cons, List.length_nil]; done) | (simp only [ints_size, digs_length, List.length_replicate, List.length_cons, List.length_nil, List.length_set, List.length_append]; omega) | rfl))) ?_
          simp only [Act.put, List.setIfInBounds_toArray, List.set_cons_zero, List.set_cons_succ]
          refine wpB_take (i := 1) (by kernel_rfl) rfl (by kernel_rfl) (fun _ _ _ h => h) rfl (v_moveT (.inl rfl) rfl) ?_
          simp only [Act.put, List.setIfInBounds_toArray, List.set_cons_zero, List.set_cons_succ]
          refine wpB_take (i := 2) (by kernel_rfl) rfl (by kernel_rfl) (fun _ _ _ h => h) rfl (v_quo (n := 2) rfl rfl rfl (by omega) (w_i64 (by omega))) ?_
          simp only [Act.put, List.setIfInBounds_toArray, List.set_cons_zero, List.set_cons_succ]
          refine wpB_take (i := 3) (by kernel_rfl) rfl (by kernel_rfl) (fun _ _ _ h => h) rfl (v_indexA0 rfl rfl rfl Try.underlying22 (by kernel_rfl) (by first | assumption | omega)) ?_
          simp only [Act.put, List.setIfInBounds_toArray, List.set_cons_zero, List.set_cons_succ]
          refine wpB_take (i := 4) (by kernel_rfl) rfl (by kernel_rfl) (fun _ _ _ h => h) rfl (v_cell rfl rfl Try.underlying5 rfl (Env.cellv (i := 3) hE1 rfl (ints_get? _ _ _ (by first | assumption | omega | (simp; done) | (simp; omega))))) ?_
          simp only [Act.put, List.setIfInBounds_toArray, List.set_cons_zero, List.set_cons_succ]
          rw [HC.out]
          refine wpB_take (i := 5) (by kernel_rfl) rfl (by kernel_rfl) (fun _ _ _ h => h) rfl (v_moveT (.inl rfl) rfl) ?_
          simp only [Act.put, List.setIfInBounds_toArray, List.set_cons_zero, List.set_cons_succ]
          refine wpB_take (i := 6) (by kernel_rfl) rfl (by kernel_rfl) (fun _ _ _ h => h) rfl (v_rem (n := 2) rfl rfl rfl (by omega)) ?_
          simp only [Act.put, List.setIfInBounds_toArray, List.set_cons_zero, List.set_cons_succ]
          refine wpB_take (i := 7) (by kernel_rfl) rfl (by kernel_rfl) (fun _ _ _ h => h) rfl (v_mul (m := 4) rfl rfl rfl (w_i64 (by omega))) ?_
          simp only [Act.put, List.setIfInBounds_toArray, List.set_cons_zero, List.set_cons_succ]
          refine wpB_take (i := 8) (by kernel_rfl) rfl (by kernel_rfl) (fun _ _ _ h => h) rfl (v_shr rfl rfl rfl h48) ?_
          simp only [Act.put, List.setIfInBounds_toArray, List.set_cons_zero, List.set_cons_succ]
          refine wpB_take (i := 9) (by kernel_rfl) rfl (by kernel_rfl) (fun _ _ _ h => h) rfl (v_mask (c := 15) (s := 4) (d := 16) rfl rfl rfl (by decide) (by decide) rfl hsh (by decide)) ?_
          simp only [Act.put, List.setIfInBounds_toArray, List.set_cons_zero, List.set_cons_succ]
          rw [HNb.out]
          refine wpB_take (i := 10) (by kernel_rfl) rfl (by kernel_rfl) (fun _ _ _ h => h) rfl (v_indexAs (s := 20) rfl rfl rfl Try.underlying61 (by kernel_rfl) (by first | assumption | omega)) ?_
          simp only [Act.put, List.setIfInBounds_toArray, List.set_cons_zero, List.set_cons_succ]
          refine wpB_take (i := 11) (by kernel_rfl) rfl (by kernel_rfl) (fun _ _ _ h => h) rfl (v_loadPart (i := 1) (n := 20) hE1 rfl rfl rfl Try.underlying28 rfl (by kernel_rfl) (by first | assumption | (simp only [List.length_append, *]; try omega))) ?_
          simp only [Act.put, List.setIfInBounds_toArray, List.set_cons_zero, List.set_cons_succ]
          rw [HG.out]
          refine wpB_step (i := 12) (by kernel_rfl) rfl (st_gives hE1 rfl (run_call rfl Try.call10) (HA.out _) ?_)
          intro w2 hb2 hE2
          clear hE1
          refine ⟨fun _ => hb2, ?_⟩
          simp only [Act.put, List.setIfInBounds_toArray, List.set_cons_zero, List.set_cons_succ]
          refine wpB_step (i := 13) (by kernel_rfl) rfl (st_store (i := 0) hE2 rfl rfl rfl rfl rfl (sz_of (n := 20) (by kernel_rfl) (by first | (simp only [ints_size, digs_length, List.length_replicate, List.length_cons, List.length_nil]; done) | (simp only [ints_size, digs_length, List.length_replicate, List.length_cons, List.length_nil, List.length_set, List.length_append]; omega) | rfl)) (by first | (simp only [ints_size, digs_length, List.length_replicate, List.length_cons, List.length_nil]; done) | (simp only [ints_size, digs_length, List.length_replicate, List.length_cons, List.length_nil, List.length_set, List.length_append]; omega) | rfl) (by first | exact ints_one _ _ | decide | simp [*]) ?_)
          intro w3 hE3
          clear hE2
          simp only [List.set_cons_zero, List.set_cons_succ] at hE3
          refine ⟨fun h => absurd h (by decide), ?_⟩
          simp only [Act.put, List.setIfInBounds_toArray, List.set_cons_zero, List.set_cons_succ]
          refine wpB_done (by kernel_rfl) ?_ _
          repeat ((fail_if_success (with_reducible show wpList _ _ _ (List.cons _ _) _ _)); (fail_if_success (with_reducible show Code.wp _ (Code.region _ _ true) _ _ _)); go_step)
          refine wl_step (st_val rfl (v_moveT (.inl rfl) rfl) ?_)
          simp only [Act.put, List.setIfInBounds_toArray, List.set_cons_zero, List.set_cons_succ]
          refine wl_step (st_val rfl (v_sub (n := 1) rfl rfl rfl (by first | exact w_i64s (by omega) (by omega) | exact w_i64I (by omega) (by omega))) ?_)
          simp only [Act.put, List.setIfInBounds_toArray, List.set_cons_zero, List.set_cons_succ]
          refine wl_step (st_val rfl (v_moveT (.inr rfl) rfl) ?_)
          simp only [Act.put, List.setIfInBounds_toArray, List.set_cons_zero, List.set_cons_succ]
          go_wp2
          go_roundw
          case rel => exact ⟨j, by omega, rfl, hE3⟩
          case measure => simp [intOf]
theorem PMul_any {l b : List Nat} {P : Pt} (h : PRep l P) (hb : b.length = 32) (db : Digs 256 b) : ∃ c, PRep c (smul (val 256 b) P) ∧ ∀ w, Gives 9 #[pt l, .agg (ints .u8 b)] w (pt c) := by
  have hN : val 256 b < 16 ^ 64 := by
    have := val_lt db
    rw [hb] at this
    exact this
  have h1 := winL_ok h hN 64 (Nat.le_refl _)
  rw [Nat.sub_self, Nat.pow_zero, Nat.div_one] at h1
  exact ⟨_, h1, fun w => PMul_walk h hb db w⟩

theorem PBoth_any {l b c : List Nat} {P : Pt} (h : PRep l P) (hb : b.length = 32) (db : Digs 256 b) (hc : c.length = 32) (dc : Digs 256 c) :
    ∃ r, PRep r (padd (smul (val 256 b) P) (smul (val 256 c) baseP)) ∧ ∀ w, Gives 28 #[.agg (ints .u8 b), pt l, .agg (ints .u8 c)] w (pt r) := by
  obtain ⟨g, hg, Gg⟩ := PBase_any
  obtain ⟨x, hx, Gx⟩ := PMul_any h hb db
  obtain ⟨y, hy, Gy⟩ := PMul_any hg hc dc
  obtain ⟨r, hr, Gr⟩ := PAdd_any hx hy
  refine ⟨r, hr, fun w => ?_⟩
  have len := h.len
  have lg := hg.len
  have lx := hx.len
  have ly := hy.len
  have lr := hr.len
  have H1 := Lib.hid Gg
  have H2 := Lib.hid Gx
  have H3 := Lib.hid Gy
  have H4 := Lib.hid Gr
  clear Gg Gx Gy Gr hg hx hy hr h db dc
  have hE0 := Env.nil w
  go_enter Try.func28, Try.ntmps28
  repeat ((fail_if_success (with_reducible show wpList _ _ _ (List.cons _ _) _ _)); (fail_if_success (with_reducible show Code.wp _ (Code.region _ _ true) _ _ _)); go_step)
  refine wl_step (st_boxA hE0 rfl rfl rfl ?_)
  intro g0 w1 hb1 hE1
  clear hE0
  simp only [Act.put, List.setIfInBounds_toArray, List.set_cons_zero, List.set_cons_succ]
  refine wl_step (st_boxA hE1 rfl rfl rfl ?_)
  intro g1 w2 hb2 hE2
  clear hE1
  simp only [Act.put, List.setIfInBounds_toArray, List.set_cons_zero, List.set_cons_succ]
  refine wl_step (st_boxA hE2 rfl rfl rfl ?_)
  intro g2 w3 hb3 hE3
  clear hE2
  simp only [Act.put, List.setIfInBounds_toArray, List.set_cons_zero, List.set_cons_succ]
  refine wl_step (st_alloc (zs := ints .u64 (List.replicate 20 0)) hE3 rfl rfl (fun w => by kernel_rfl) ?_)
  intro g3 w4 hb4 hE4
  clear hE3
  simp only [Act.put, List.setIfInBounds_toArray, List.set_cons_zero, List.set_cons_succ]
  repeat ((fail_if_success (with_reducible show wpList _ _ _ (List.cons _ _) _ _)); (fail_if_success (with_reducible show Code.wp _ (Code.region _ _ true) _ _ _)); go_step)
  refine wp_region_B (n := 8) 7 (by kernel_rfl) rfl hE4 ?_
  intro w5 hb5 hE5
  clear hE4
  refine wpB_take (i := 0) (by kernel_rfl) rfl (by kernel_rfl) (fun _ _ _ h => h) rfl (v_load (i := 2) hE5 rfl rfl rfl Try.underlying28 rfl (sz_of (n := 20) (by kernel_rfl) (by first | (simp only [ints_size, digs_length, List.length_replicate, List.length_cons, List.length_nil]; done) | (simp only [ints_size, digs_length, List.length_replicate, List.length_cons, List.length_nil, List.length_set, List.length_append]; omega) | rfl))) ?_
  simp only [Act.put, List.setIfInBounds_toArray, List.set_cons_zero, List.set_cons_succ]
  refine wpB_take (i := 1) (by kernel_rfl) rfl (by kernel_rfl) (fun _ _ _ h => h) rfl (v_load (i := 3) hE5 rfl rfl rfl Try.underlying22 rfl (sz_of (n := 32) (by kernel_rfl) (by first | (simp only [ints_size, digs_length, List.length_replicate, List.length_cons, List.length_nil]; done) | (simp only [ints_size, digs_length, List.length_replicate, List.length_cons, List.length_nil, List.length_set, List.length_append]; omega) | rfl))) ?_
  simp only [Act.put, List.setIfInBounds_toArray, List.set_cons_zero, List.set_cons_succ]
  refine wpB_take (i := 4) (by kernel_rfl) rfl (by kernel_rfl) (fun _ _ _ h => h) rfl (v_load (i := 1) hE5 rfl rfl rfl Try.underlying22 rfl (sz_of (n := 32) (by kernel_rfl) (by first | (simp only [ints_size, digs_length, List.length_replicate, List.length_cons, List.length_nil]; done) | (simp only [ints_size, digs_length, List.length_replicate, List.length_cons, List.length_nil, List.length_set, List.length_append]; omega) | rfl))) ?_
  simp only [Act.put, List.setIfInBounds_toArray, List.set_cons_zero, List.set_cons_succ]
  refine wpB_step (i := 2) (by kernel_rfl) rfl (st_gives hE5 rfl (run_call rfl Try.call9) (H2.out _) ?_)
  intro w6 hb6 hE6
  clear hE5
  refine ⟨fun _ => hb6, ?_⟩
  simp only [Act.put, List.setIfInBounds_toArray, List.set_cons_zero, List.set_cons_succ]
  refine wpB_step (i := 3) (by kernel_rfl) rfl (st_gives hE6 rfl (run_call rfl Try.call8) (H1.out _) ?_)
  intro w7 hb7 hE7
  clear hE6
  refine ⟨fun _ => hb7, ?_⟩
  simp only [Act.put, List.setIfInBounds_toArray, List.set_cons_zero, List.set_cons_succ]
  refine wpB_step (i := 5) (by kernel_rfl) rfl (st_gives hE7 rfl (run_call rfl Try.call9) (H3.out _) ?_)
  intro w8 hb8 hE8
  clear hE7
  refine ⟨fun _ => hb8, ?_⟩
  simp only [Act.put, List.setIfInBounds_toArray, List.set_cons_zero, List.set_cons_succ]
  refine wpB_step (i := 6) (by kernel_rfl) rfl (st_gives hE8 rfl (run_call rfl Try.call10) (H4.out _) ?_)
  intro w9 hb9 hE9
  clear hE8
  refine ⟨fun _ => hb9, ?_⟩
  simp only [Act.put, List.setIfInBounds_toArray, List.set_cons_zero, List.set_cons_succ]
  refine wpB_step (i := 7) (by kernel_rfl) rfl (st_store (i := 0) hE9 rfl rfl rfl rfl rfl (sz_of (n := 20) (by kernel_rfl) (by first | (simp only [ints_size, digs_length, List.length_replicate, List.length_cons, List.length_nil]; done) | (simp only [ints_size, digs_length, List.length_replicate, List.length_cons, List.length_nil, List.length_set, List.length_append]; omega) | rfl)) (by first | (simp only [ints_size, digs_length, List.length_replicate, List.length_cons, List.length_nil]; done) | (simp only [ints_size, digs_length, List.length_replicate, List.length_cons, List.length_nil, List.length_set, List.length_append]; omega) | rfl) (by first | exact ints_one _ _ | decide | simp [*]) ?_)
  intro w10 hE10
  clear hE9
  simp only [List.set_cons_zero, List.set_cons_succ] at hE10
  refine ⟨fun h => absurd h (by decide), ?_⟩
  simp only [Act.put, List.setIfInBounds_toArray, List.set_cons_zero, List.set_cons_succ]
  refine wpB_done (by kernel_rfl) ?_ _
  repeat ((fail_if_success (with_reducible show wpList _ _ _ (List.cons _ _) _ _)); (fail_if_success (with_reducible show Code.wp _ (Code.region _ _ true) _ _ _)); go_step)
  refine bodyPost_ret (results_cell_row rfl _ _ _ _ _ (0, 0) _ rfl (hE10.get (i := 0) rfl) Try.underlying28 rfl (sz_of (n := 20) (by kernel_rfl) (by first | (simp only [ints_size, digs_length, List.length_replicate, List.length_cons, List.length_nil]; done) | (simp only [ints_size, digs_length, List.length_replicate, List.length_cons, List.length_nil, List.length_set, List.length_append]; omega) | rfl))) rfl ⟨rfl, hE10.below⟩
end Go.Proofs.Ytmebjoehmheknaa
