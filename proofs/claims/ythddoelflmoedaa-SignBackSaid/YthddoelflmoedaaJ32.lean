/-
  Layer 3: the greater sum of bytes that come in parts.
-/
import Derived.Test.YthddoelflmoedaaJ29
import Derived.Test.YthddoelflmoedaaJ31
namespace Go.Proofs.Ythddoelflmoedaa
open Go.RowKit
set_option maxRecDepth 100000
set_option linter.unusedVariables false
set_option linter.unusedSimpArgs false

set_option maxHeartbeats 2000000 in
theorem first512_any (w : World) : Gives 48 #[] w (.agg (ints .u64 k512.first)) := by
  have hk8 : k512.first.length = 8 := rfl
  have hE0 := Env.nil w
  go_enter Try.func48, Try.ntmps48
  repeat ((fail_if_success with_reducible show wA ..); (fail_if_success with_reducible show wB ..); go_step)
  refine wl_step (st_alloc (zs := ints .u64 (List.replicate 8 0)) hE0 rfl rfl (fun w => by kernel_rfl) ?_)
  intro g0 w1 hb1 hE1
  clear hE0
  simp only [Act.put, pA, pB, pC]
  repeat ((fail_if_success with_reducible show wA ..); (fail_if_success with_reducible show wB ..); go_step)
  refine wv (v_built (k := .u64) (l := k512.first) rfl (fun w => by kernel_rfl)) ?_
  simp only [Act.put, pA, pB, pC]
  refine wl_step (st_store (i := 0) hE1 rfl rfl rfl rfl rfl (szA (n := 8)) (by first | (simp only [ints_size, digs_length, List.length_replicate, List.length_cons, List.length_nil]; done) | (simp only [ints_size, digs_length, List.length_replicate, List.length_cons, List.length_nil, List.length_set, List.length_append]; omega) | rfl) (by first | exact ints_one _ _ | decide | rfl | simp [*]) ?_)
  intro w2 hE2
  clear hE1
  simp only [pB, pC] at hE2
  simp only [Act.put, pA, pB, pC]
  repeat ((fail_if_success with_reducible show wA ..); (fail_if_success with_reducible show wB ..); go_step)
  refine bodyPost_ret (results_cell_row rfl _ _ _ _ _ (0, 0) _ rfl (hE2.get (i := 0) rfl) Try.underlying64 rfl (szA (n := 8))) rfl ⟨rfl, hE2.below⟩
set_option maxRecDepth 100000 in
set_option maxHeartbeats 4000000 in
theorem rounds512_any (w : World) : Gives 49 #[] w (.agg (ints .u64 k512.rounds)) := by
  have hk8 : k512.rounds.length = 80 := rfl
  have hE0 := Env.nil w
  go_enter Try.func49, Try.ntmps49
  repeat ((fail_if_success with_reducible show wA ..); (fail_if_success with_reducible show wB ..); go_step)
  refine wl_step (st_alloc (zs := ints .u64 (List.replicate 80 0)) hE0 rfl rfl (fun w => by kernel_rfl) ?_)
  intro g0 w1 hb1 hE1
  clear hE0
  simp only [Act.put, pA, pB, pC]
  repeat ((fail_if_success with_reducible show wA ..); (fail_if_success with_reducible show wB ..); go_step)
  refine wv (v_built (k := .u64) (l := k512.rounds) rfl (fun w => by kernel_rfl)) ?_
  simp only [Act.put, pA, pB, pC]
  refine wl_step (st_store (i := 0) hE1 rfl rfl rfl rfl rfl (szA (n := 80)) (by first | (simp only [ints_size, digs_length, List.length_replicate, List.length_cons, List.length_nil]; done) | (simp only [ints_size, digs_length, List.length_replicate, List.length_cons, List.length_nil, List.length_set, List.length_append]; omega) | rfl) (by first | exact ints_one _ _ | decide | rfl | simp [*]) ?_)
  intro w2 hE2
  clear hE1
  simp only [pB, pC] at hE2
  simp only [Act.put, pA, pB, pC]
  repeat ((fail_if_success with_reducible show wA ..); (fail_if_success with_reducible show wB ..); go_step)
  refine bodyPost_ret (results_cell_row rfl _ _ _ _ _ (0, 0) _ rfl (hE2.get (i := 0) rfl) Try.underlying79 rfl (szA (n := 80))) rfl ⟨rfl, hE2.below⟩

set_option maxRecDepth 100000 in
set_option maxHeartbeats 16000000 in
theorem Sum512_any {w : World} {rows : List (List Nat)} {v : Value} (hv : RdSs .u8 rows v w) (dr : ∀ r ∈ rows, Digs 256 r) (hl : rows.flatten.length < 549755813888) (hn : rows.length < 9223372036854775808) :
    Gives 22 #[v] w (.agg (ints .u8 (sum512 rows.flatten))) := by
  obtain ⟨p, c, rfl, hc, -⟩ := id hv
  have Hv := Lib.hid hv
  have Hr := Lib.hid dr
  obtain ⟨i0, hi, hz, hs, hby⟩ := info_u8
  have Hi := Lib.hid hi
  have Hz := Lib.hid hz
  have Hs := Lib.hid hs
  have Hby := Lib.hid hby
  clear hv dr hi hz hs hby
  have hE0 := Env.nil w
  go_enter Try.func22, Try.ntmps22
  repeat ((fail_if_success with_reducible show wA ..); (fail_if_success with_reducible show wB ..); go_step)
  refine wl_step (st_alloc (zs := ints .u8 (List.replicate 64 0)) hE0 rfl rfl (fun w => by kernel_rfl) ?_)
  intro g0 w1 hb1 hE1
  clear hE0
  simp only [Act.put, pA, pB, pC]
  repeat ((fail_if_success with_reducible show wA ..); (fail_if_success with_reducible show wB ..); go_step)
  refine wv (v_moveC (.inr rfl)) ?_
  simp only [Act.put, pA, pB, pC]
  repeat ((fail_if_success with_reducible show wA ..); (fail_if_success with_reducible show wB ..); go_step)
  refine wv (v_moveT (.inl rfl) rfl) ?_
  simp only [Act.put, pA, pB, pC]
  refine wv (v_len rfl rfl Try.underlying47 (by omega)) ?_
  simp only [Act.put, pA, pB, pC]
  refine wv (v_moveC (.inl rfl)) ?_
  simp only [Act.put, pA, pB, pC]
  have hst : Env w ([] ++ [⟨g0, 29, ints .u8 (List.replicate 64 0)⟩]) w1 := hE1
  clear hE1
  go_wp2
  go_loopw [3, 13] (fun s i wr => ∃ (j : Nat) (bs : List Blk), j ≤ rows.length ∧ i = .int .i64 j ∧ Hid (Ow 5 (nats .u8 (rows.take j).flatten) s bs) ∧ Env w (bs ++ [⟨g0, 29, ints .u8 (List.replicate 64 0)⟩]) wr) (fun _ i _ => rows.length - (intOf i).toNat)
  case atStart => exact ⟨0, [], Nat.zero_le _, rfl, Lib.hid (by rw [List.take_zero]; exact Ow.nil _), hst⟩
  case round =>
    clear hst
    obtain ⟨j, bs, hj, rfl, hO, hE⟩ := hrel
    by_cases hjr : j < rows.length
    · obtain ⟨b, off, x, rfl, hcell, hx⟩ := Hv.out.at hjr
      have hfl := flat_le rows (j + 1)
      have hft := flat_take hjr
      have hsz : (rows.take j).flatten.length + rows[j].length < 549755813888 := by
        rw [← List.length_append, hft]
        omega
      have h63 : (nats .u8 (rows.take j).flatten).length + rows[j].length ≤ maxLen := by rw [nats_len]; simp only [maxLen]; omega
      have hfit : ((nats .u8 (rows.take j).flatten).length + rows[j].length) * 1 ≤ 140737488355328 := by rw [nats_len]; omega
      have HF := Lib.hid hft
      have HC := Lib.hid hcell
      have HX := Lib.hid hx
      have hS0 := hO.out.sl hE
      have hE0 := hS0.env
      clear hcell hx hft hE
      repeat ((fail_if_success with_reducible show wA ..); (fail_if_success with_reducible show wB ..); go_step)
      refine wv (v_lss rfl rfl rfl) ?_
      simp only [Act.put, pA, pB, pC]
      repeat ((fail_if_success with_reducible show wA ..); (fail_if_success with_reducible show wB ..); (fail_if_success (with_reducible show Code.wp _ (Code.cond _ _ _) _ _ _)); go_step)
      refine wp_cond_true (by first | rfl | exact congrArg Value.bool (decide_eq_true (by omega))) ?_
      skip
      repeat ((fail_if_success with_reducible show wA ..); (fail_if_success with_reducible show wB ..); go_step)
      refine wv (v_indexS rfl rfl rfl Try.underlying47 (by kernel_rfl) hjr) ?_
      simp only [Act.put, pA, pB, pC]
      refine wv (v_cell rfl rfl Try.underlying24 rfl (fun w1 hb => HC.out w1 (hE0.below.trans (hb.mono hE0.below.size)))) ?_
      simp only [Act.put, pA, pB, pC]
      refine wv (v_moveT (.inr rfl) rfl) ?_
      simp only [Act.put, pA, pB, pC]
      repeat ((fail_if_success with_reducible show wA ..); (fail_if_success with_reducible show wB ..); go_step)
      refine wv (v_moveT (.inl rfl) rfl) ?_
      simp only [Act.put, pA, pB, pC]
      refine wv (v_moveT (.inl rfl) rfl) ?_
      simp only [Act.put, pA, pB, pC]
      refine wl_step (st_append hS0 rfl rfl Try.underlying24 Hi.out Hz.out Hs.out rfl Hby.out rfl rfl (HX.out.below hE0.below) h63 hfit ?_)
      intro v1 w1 hS1
      have hE1 := hS1.env
      clear hE0
      clear hS0
      simp only [Act.put, pA, pB, pC]
      obtain ⟨bs2, ho2, hEE⟩ := hS1.ow
      rw [nats_append, HF.out] at ho2
      refine wv (v_moveT (.inr rfl) rfl) ?_
      simp only [Act.put, pA, pB, pC]
      repeat ((fail_if_success with_reducible show wA ..); (fail_if_success with_reducible show wB ..); go_step)
      refine wv (v_add (n := 1) rfl rfl rfl (w_i64 (by omega))) ?_
      simp only [Act.put, pA, pB, pC]
      refine wv (v_moveT (.inl rfl) rfl) ?_
      simp only [Act.put, pA, pB, pC]
      go_wp2
      go_roundw
      case rel => exact ⟨j + 1, bs2, by omega, rfl, Lib.hid ho2, hEE⟩
      case measure => simp [intOf]; omega
    · have hj' : j = rows.length := by omega
      subst hj'
      rw [List.take_length] at hO
      obtain ⟨p1, c1, rfl, hc1⟩ := hO.out.lenN
      have hll : rows.flatten.length < 9223372036854775808 := by omega
      have hpk := padK_lt (n := rows.flatten.length) (B := 128) (r := 16) (by decide)
      have hfl := fillL_len (n := rows.flatten.length) (B := 128) (r := 16) (by decide)
      have h40 : rows.flatten.length < 1099511627776 := by omega
      have h63 : (nats .u8 rows.flatten).length + (fillL rows.flatten.length 128 16).length ≤ maxLen := by rw [nats_len]; simp only [maxLen]; omega
      have hfit : ((nats .u8 rows.flatten).length + (fillL rows.flatten.length 128 16).length) * 1 ≤ 140737488355328 := by rw [nats_len]; omega
      have hpad : rows.flatten ++ fillL rows.flatten.length 128 16 = padL 128 16 rows.flatten := rfl
      have hPl : (padL 128 16 rows.flatten).length < 1099511627776 := by
        rw [← hpad, List.length_append]
        omega
      have hPm := padL_mod (B := 128) (r := 16) (by decide) (by decide) rows.flatten
      have hP0 : 0 < (padL 128 16 rows.flatten).length := by
        rw [← hpad, List.length_append]
        omega
      have dP : Digs 256 (padL 128 16 rows.flatten) := padL_Digs (flat_Digs Hr.out)
      have hsum : sum512 rows.flatten = outL 8 (chainS k512 128 k512.first (padL 128 16 rows.flatten) ((padL 128 16 rows.flatten).length / 128)) := rfl
      obtain ⟨PP, hPP⟩ : ∃ PP, padL 128 16 rows.flatten = PP := ⟨_, rfl⟩
      rw [hPP] at hpad hPl hPm hP0 dP hsum
      have HP := Lib.hid hpad
      have HDP := Lib.hid dP
      have H8 := Lib.hid (fun n => chainS_len (k := k512) (B := 128) k512_first PP n)
      have HD := Lib.hid (fun n => chainS_lt (k := k512) (B := 128) (h := k512.first) k512_firstD PP n)
      obtain ⟨ST, hST⟩ : ∃ ST : Nat → List Nat, (fun n => chainS k512 128 k512.first PP n) = ST := ⟨_, rfl⟩
      have hST' : ∀ n, chainS k512 128 k512.first PP n = ST n := fun n => congrFun hST n
      have HS1 : Hid (∀ n, ST (n + 1) = blockS k512 (ST n) ((PP.drop (n * 128)).take 128)) := Lib.hid (fun n => by
        rw [← hST', ← hST']
        rfl)
      have HS0 : Hid (k512.first = ST 0) := Lib.hid (by rw [← hST']; rfl)
      simp only [hST'] at H8 HD hsum
      have Hsum := Lib.hid hsum
      clear hpk hfl hpad dP hPP hST hST' hsum
      repeat ((fail_if_success with_reducible show wA ..); (fail_if_success with_reducible show wB ..); go_step)
      refine wv (v_lss rfl rfl rfl) ?_
      simp only [Act.put, pA, pB, pC]
      repeat ((fail_if_success with_reducible show wA ..); (fail_if_success with_reducible show wB ..); (fail_if_success (with_reducible show Code.wp _ (Code.cond _ _ _) _ _ _)); go_step)
      refine wp_cond_false (by first | rfl | exact congrArg Value.bool (decide_eq_false (by omega))) ?_
      skip
      repeat ((fail_if_success with_reducible show wA ..); (fail_if_success with_reducible show wB ..); go_step)
      refine wv (v_moveT (.inl rfl) rfl) ?_
      simp only [Act.put, pA, pB, pC]
      refine wv (v_moveT (.inl rfl) rfl) ?_
      simp only [Act.put, pA, pB, pC]
      refine wv (v_len rfl rfl Try.underlying24 hll) ?_
      simp only [Act.put, pA, pB, pC]
      refine wl_step (st_calls rfl (run_call rfl Try.call47) (fill_any h40 (by decide) (by decide) (by decide) (by decide) _) ?_)
      rintro _ w1 ⟨v3, rfl, hF⟩
      obtain ⟨bs3, ho3, hE1⟩ := hE.lift hF
      refine ⟨_, rfl, ?_⟩
      clear hE
      simp only [Act.put, pA, pB, pC]
      refine wl_step (st_append (hO.out.sl (hE1.perm (List.perm_append_comm_assoc _ _ _))) rfl rfl Try.underlying24 Hi.out Hz.out Hs.out rfl Hby.out rfl rfl (ho3.sl hE1).rdS h63 hfit ?_)
      intro v2 w2 hS2
      have hE2 := hS2.env
      clear hE1
      simp only [Act.put, pA, pB, pC]
      obtain ⟨bs4, ho4, hEE⟩ := hS2.ow
      rw [nats_append, HP.out] at ho4
      clear hE2 hS2
      refine wv (v_moveT (.inr rfl) rfl) ?_
      simp only [Act.put, pA, pB, pC]
      rcases ho4.rdB with ⟨-, h0, -⟩ | ⟨gl, cs, rfl, hrd⟩
      · rw [h0] at hP0
        exact absurd hP0 (by decide)
      obtain ⟨p4, c4, hv4, hc4⟩ := ho4.lenN
      have hE4 : Env w (⟨gl, 5, cs⟩ :: ([] ++ [⟨g0, 29, ints .u8 (List.replicate 64 0)⟩])) w2 := hEE.sub (List.Sublist.cons_cons _ (List.sublist_append_right _ _))
      have Hrd := Lib.hid hrd
      have hk8 : k512.first.length = 8 := rfl
      have hk80 : k512.rounds.length = 80 := rfl
      subst hv4
      clear hrd hEE ho4 ho3
      repeat ((fail_if_success with_reducible show wA ..); (fail_if_success with_reducible show wB ..); go_step)
      refine wl_step (st_gives hE4 rfl (run_call rfl Try.call48) (first512_any _) ?_)
      intro w5 hb5 hE5
      clear hE4
      simp only [Act.put, pA, pB, pC]
      refine wl_step (st_gives hE5 rfl (run_call rfl Try.call49) (rounds512_any _) ?_)
      intro w6 hb6 hE6
      clear hE5
      simp only [Act.put, pA, pB, pC]
      refine wl_step (st_alloc (zs := ints .u64 (List.replicate 8 0)) hE6 rfl rfl (fun w => by kernel_rfl) ?_)
      intro g1 w7 hb7 hE7
      clear hE6
      simp only [Act.put, pA, pB, pC]
      refine wl_step (st_alloc (zs := ints .u64 (List.replicate 80 0)) hE7 rfl rfl (fun w => by kernel_rfl) ?_)
      intro g2 w8 hb8 hE8
      clear hE7
      simp only [Act.put, pA, pB, pC]
      refine wl_step (st_store (i := 1) hE8 rfl rfl rfl rfl rfl (szA (n := 8)) (by first | (simp only [ints_size, digs_length, List.length_replicate, List.length_cons, List.length_nil]; done) | (simp only [ints_size, digs_length, List.length_replicate, List.length_cons, List.length_nil, List.length_set, List.length_append]; omega) | rfl) (by first | exact ints_one _ _ | decide | rfl | simp [*]) ?_)
      intro w9 hE9
      clear hE8
      simp only [pB, pC] at hE9
      simp only [Act.put, pA, pB, pC]
      refine wl_step (st_store (i := 0) hE9 rfl rfl rfl rfl rfl (szA (n := 80)) (by first | (simp only [ints_size, digs_length, List.length_replicate, List.length_cons, List.length_nil]; done) | (simp only [ints_size, digs_length, List.length_replicate, List.length_cons, List.length_nil, List.length_set, List.length_append]; omega) | rfl) (by first | exact ints_one _ _ | decide | rfl | simp [*]) ?_)
      intro w10 hE10
      clear hE9
      simp only [pB, pC] at hE10
      simp only [Act.put, pA, pB, pC]
      rw [HS0.out] at hE10
      have hst : Env w (⟨g2, 79, ints .u64 k512.rounds⟩ :: ⟨g1, 64, ints .u64 (ST 0)⟩ :: ⟨gl, 5, cs⟩ :: [⟨g0, 29, ints .u8 (List.replicate 64 0)⟩]) w10 := hE10
      clear hE10
      go_wp2
      go_loopw [3] (fun s wr => ∃ n : Nat, n * 128 ≤ PP.length ∧ Hid (RdB .u8 gl cs (PP.drop (n * 128)) s) ∧ Env w (⟨g2, 79, ints .u64 k512.rounds⟩ :: ⟨g1, 64, ints .u64 (ST n)⟩ :: ⟨gl, 5, cs⟩ :: [⟨g0, 29, ints .u8 (List.replicate 64 0)⟩]) wr) (fun s _ => valLen s)
      case atStart => exact ⟨0, by omega, by rw [Nat.zero_mul, List.drop_zero]; exact Hrd, hst⟩
      case round =>
        clear hst Hrd
        obtain ⟨n, hnP, hV, hE0⟩ := hrel
        obtain ⟨p5, c5, hv5, hc5, -⟩ := id hV.out
        subst hv5
        obtain ⟨R, hR⟩ : ∃ R, PP.drop (n * 128) = R := ⟨_, rfl⟩
        have hRn : R.length = PP.length - n * 128 := by rw [← hR, List.length_drop]
        have hRl : R.length < 9223372036854775808 := by omega
        have dR : Digs 256 R := hR ▸ (HDP.out.drop _)
        have hRR : R.drop 128 = PP.drop ((n + 1) * 128) := by rw [← hR, List.drop_drop, Nat.add_mul, Nat.one_mul]
        have hs1 := HS1.out n
        rw [hR] at hs1 hV hc5 ⊢
        have h8 := H8.out n
        have HRR := Lib.hid hRR
        have HS2 := Lib.hid hs1
        have HDR := Lib.hid dR
        clear hs1 dR hRR
        by_cases h0 : 0 < R.length
        · have h128 : 128 ≤ R.length := by omega
          have d1 := Lib.hid (decide_eq_true h0)
          have hV2 := Lib.hid (RdB.slcd hV.out h128)
          have hb8 := blockS_len k512 (ST n) (R.take 128)
          repeat ((fail_if_success with_reducible show wA ..); (fail_if_success with_reducible show wB ..); go_step)
          refine wv (v_moveT (.inl rfl) rfl) ?_
          simp only [Act.put, pA, pB, pC]
          refine wv (v_len rfl rfl Try.underlying24 hRl) ?_
          simp only [Act.put, pA, pB, pC]
          refine wv (v_gtr (n := 0) rfl rfl rfl) ?_
          simp only [Act.put, pA, pB, pC]
          rw [d1.out]
          repeat ((fail_if_success with_reducible show wA ..); (fail_if_success with_reducible show wB ..); (fail_if_success (with_reducible show Code.wp _ (Code.cond _ _ _) _ _ _)); go_step)
          refine wp_cond_true (by first | rfl | exact congrArg Value.bool (decide_eq_true (by omega))) ?_
          skip
          repeat ((fail_if_success with_reducible show wA ..); (fail_if_success with_reducible show wB ..); go_step)
          refine wv (v_load (i := 1) hE0 rfl rfl rfl Try.underlying64 rfl (szA (n := 8))) ?_
          simp only [Act.put, pA, pB, pC]
          refine wv (v_moveT (.inl rfl) rfl) ?_
          simp only [Act.put, pA, pB, pC]
          refine wl_step (st_gives hE0 rfl (run_call rfl Try.call50) (mix512_any h8 (HD.out n) (RdB.rd hV.out (hE0.get (i := 2) rfl)) HDR.out h128 (hE0.get (i := 0) rfl)) ?_)
          intro w1 hb1 hE1
          clear hE0
          simp only [Act.put, pA, pB, pC]
          refine wl_step (st_store (i := 1) hE1 rfl rfl rfl rfl rfl (szA (n := 8)) (by first | (simp only [ints_size, digs_length, List.length_replicate, List.length_cons, List.length_nil]; done) | (simp only [ints_size, digs_length, List.length_replicate, List.length_cons, List.length_nil, List.length_set, List.length_append]; omega) | rfl) (by first | exact ints_one _ _ | decide | rfl | simp [*]) ?_)
          intro w2 hE2
          clear hE1
          simp only [pB, pC] at hE2
          simp only [Act.put, pA, pB, pC]
          repeat ((fail_if_success with_reducible show wA ..); (fail_if_success with_reducible show wB ..); go_step)
          refine wv (v_moveT (.inl rfl) rfl) ?_
          simp only [Act.put, pA, pB, pC]
          refine wv (v_sliceL rfl rfl rfl Try.underlying24 (by kernel_rfl) h128) ?_
          simp only [Act.put, pA, pB, pC]
          refine wv (v_moveT (.inr rfl) rfl) ?_
          simp only [Act.put, pA, pB, pC]
          rw [← HS2.out] at hE2
          go_wp2
          go_roundw
          case rel => exact ⟨n + 1, by omega, HRR.out ▸ hV2, hE2⟩
          case measure =>
            simp only [valLen, slcd]
            omega
        · have d1 := Lib.hid (decide_eq_false h0)
          have hnn : PP.length / 128 = n := by omega
          rw [hnn] at Hsum
          obtain ⟨V, hVV⟩ : ∃ V, ST n = V := ⟨_, rfl⟩
          rw [hVV] at hE0 h8 Hsum
          have HV := HD.out n
          rw [hVV] at HV
          have HV := Lib.hid HV
          clear hnn hVV
          repeat ((fail_if_success with_reducible show wA ..); (fail_if_success with_reducible show wB ..); go_step)
          refine wv (v_moveT (.inl rfl) rfl) ?_
          simp only [Act.put, pA, pB, pC]
          refine wv (v_len rfl rfl Try.underlying24 hRl) ?_
          simp only [Act.put, pA, pB, pC]
          refine wv (v_gtr (n := 0) rfl rfl rfl) ?_
          simp only [Act.put, pA, pB, pC]
          rw [d1.out]
          repeat ((fail_if_success with_reducible show wA ..); (fail_if_success with_reducible show wB ..); (fail_if_success (with_reducible show Code.wp _ (Code.cond _ _ _) _ _ _)); go_step)
          refine wp_cond_false (by first | rfl | exact congrArg Value.bool (decide_eq_false (by omega))) ?_
          skip
          repeat ((fail_if_success with_reducible show wA ..); (fail_if_success with_reducible show wB ..); go_step)
          refine wl_step (st_alloc (zs := ints .u8 (List.replicate 64 0)) hE0 rfl rfl (fun w => by kernel_rfl) ?_)
          intro g3 w1 hb1 hE1
          clear hE0
          simp only [Act.put, pA, pB, pC]
          repeat ((fail_if_success with_reducible show wA ..); (fail_if_success with_reducible show wB ..); go_step)
          refine wv (v_load (i := 2) hE1 rfl rfl rfl Try.underlying64 rfl (szA (n := 8))) ?_
          simp only [Act.put, pA, pB, pC]
          refine wv (v_moveC (.inl rfl)) ?_
          simp only [Act.put, pA, pB, pC]
          have hz : ints .u8 (List.replicate 64 0) = ints .u8 (outAt 8 V 0) := by rw [outAt_zero, h8]
          rw [hz] at hE1
          have hst : Env w [⟨g3, 29, ints .u8 (outAt 8 V 0)⟩, ⟨g0, 29, ints .u8 (outAt 8 V 0)⟩] w1 := (hE1).sub (List.Sublist.cons_cons _ (List.Sublist.cons _ (List.Sublist.cons _ (List.Sublist.cons _ (List.Sublist.refl _)))))
          clear hE1 hz
          go_wp2
          go_loopw [37] (fun i wr => ∃ n : Nat, n ≤ 8 ∧ i = .int .i64 n ∧ Env w [⟨g3, 29, ints .u8 (outAt 8 V n)⟩, ⟨g0, 29, ints .u8 (outAt 8 V 0)⟩] wr) (fun i _ => 8 - (intOf i).toNat)
          case atStart => exact ⟨0, Nat.zero_le _, rfl, hst⟩
          case round =>
            clear hst
            obtain ⟨n, hn, rfl, hE0⟩ := hrel
            by_cases hn8 : n < 8
            · have hx := HV.out n
              have hput := outAt_put (k := 8) (L := V) (n := n) (by rw [h8]; exact hn8)
              have hX : 8 * n + 8 ≤ (outAt 8 V n).length := by rw [outAt_len (by rw [h8]; exact hn), h8]; omega
              have hx64 : V.getD n 0 < 18446744073709551616 := hx
              have e4 : 8 * n + 8 - 8 * n = 8 := by omega
              have HPu := Lib.hid hput
              have E4 := Lib.hid e4
              clear hput e4
              repeat ((fail_if_success with_reducible show wA ..); (fail_if_success with_reducible show wB ..); go_step)
              refine wv (v_lss (n := 8) rfl rfl rfl) ?_
              simp only [Act.put, pA, pB, pC]
              repeat ((fail_if_success with_reducible show wA ..); (fail_if_success with_reducible show wB ..); (fail_if_success (with_reducible show Code.wp _ (Code.cond _ _ _) _ _ _)); go_step)
              refine wp_cond_true (by first | rfl | exact congrArg Value.bool (decide_eq_true (by omega))) ?_
              skip
              repeat ((fail_if_success with_reducible show wA ..); (fail_if_success with_reducible show wB ..); go_step)
              refine wv (v_moveT (.inl rfl) rfl) ?_
              simp only [Act.put, pA, pB, pC]
              refine wv (v_idx rfl rfl rfl Try.underlying64 (by kernel_rfl : _ = some Try.t38) rfl Try.underlying38 (by first | assumption | simp) (by first | assumption | omega)) ?_
              simp only [Act.put, pA, pB, pC]
              refine wv (v_moveT (.inr rfl) rfl) ?_
              simp only [Act.put, pA, pB, pC]
              refine wv (v_moveT (.inr rfl) rfl) ?_
              simp only [Act.put, pA, pB, pC]
              repeat ((fail_if_success with_reducible show wA ..); (fail_if_success with_reducible show wB ..); go_step)
              refine wv (v_moveT (.inl rfl) rfl) ?_
              simp only [Act.put, pA, pB, pC]
              refine wv (v_mul (m := 8) rfl rfl rfl (w_i64 (by omega))) ?_
              simp only [Act.put, pA, pB, pC]
              refine wv (v_moveT (.inl rfl) rfl) ?_
              simp only [Act.put, pA, pB, pC]
              refine wv (v_mul (m := 8) rfl rfl rfl (w_i64 (by omega))) ?_
              simp only [Act.put, pA, pB, pC]
              refine wv (v_add (n := 8) rfl rfl rfl (w_i64 (by omega))) ?_
              simp only [Act.put, pA, pB, pC]
              refine wv (v_sliceArr rfl rfl rfl rfl Try.underlying29 (by kernel_rfl) (by omega) (by omega) (by omega)) ?_
              simp only [Act.put, pA, pB, pC]
              rw [E4.out]
              refine wv (v_moveT (.inl rfl) rfl) ?_
              simp only [Act.put, pA, pB, pC]
              refine wl_step (st_calls rfl (run_call rfl Try.call51) (put_any hE0 (i := 0) rfl hX (by decide) hx64) ?_)
              rintro _ w1 ⟨rfl, hE1⟩
              refine ⟨_, rfl, ?_⟩
              clear hE0
              simp only [Act.put, pA, pB, pC]
              rw [HPu.out] at hE1
              simp only [List.set_cons_zero] at hE1
              repeat ((fail_if_success with_reducible show wA ..); (fail_if_success with_reducible show wB ..); go_step)
              refine wv (v_add (n := 1) rfl rfl rfl (w_i64 (by omega))) ?_
              simp only [Act.put, pA, pB, pC]
              refine wv (v_moveT (.inl rfl) rfl) ?_
              simp only [Act.put, pA, pB, pC]
              go_wp2
              go_roundw
              case rel => exact ⟨n + 1, by omega, rfl, hE1⟩
              case measure => simp [intOf]; omega
            · have hn' : n = 8 := by omega
              subst hn'
              have hfu : outAt 8 V 8 = sum512 rows.flatten := by
                have := outAt_full 8 V
                rw [h8] at this
                rw [this, Hsum.out]
              rw [hfu] at hE0
              have h32 := sum512_len rows.flatten
              have h033 : (outAt 8 V 0).length = 64 := by rw [outAt_len (Nat.zero_le _), h8]
              repeat ((fail_if_success with_reducible show wA ..); (fail_if_success with_reducible show wB ..); go_step)
              refine wv (v_lss (n := 8) rfl rfl rfl) ?_
              simp only [Act.put, pA, pB, pC]
              repeat ((fail_if_success with_reducible show wA ..); (fail_if_success with_reducible show wB ..); (fail_if_success (with_reducible show Code.wp _ (Code.cond _ _ _) _ _ _)); go_step)
              refine wp_cond_false (by first | rfl | exact congrArg Value.bool (decide_eq_false (by omega))) ?_
              skip
              repeat ((fail_if_success with_reducible show wA ..); (fail_if_success with_reducible show wB ..); go_step)
              refine wv (v_load (i := 0) hE0 rfl rfl rfl Try.underlying29 rfl (szA (n := 64))) ?_
              simp only [Act.put, pA, pB, pC]
              refine wl_step (st_store (i := 1) hE0 rfl rfl rfl rfl rfl (szA (n := 64)) (by first | (simp only [ints_size, digs_length, List.length_replicate, List.length_cons, List.length_nil]; done) | (simp only [ints_size, digs_length, List.length_replicate, List.length_cons, List.length_nil, List.length_set, List.length_append]; omega) | rfl) (by first | exact ints_one _ _ | decide | rfl | simp [*]) ?_)
              intro w1 hE1
              clear hE0
              simp only [pB, pC] at hE1
              simp only [Act.put, pA, pB, pC]
              repeat ((fail_if_success with_reducible show wA ..); (fail_if_success with_reducible show wB ..); go_step)
              refine bodyPost_ret (results_cell_row rfl _ _ _ _ _ (0, 0) _ rfl (hE1.get (i := 1) rfl) Try.underlying29 rfl (szA (n := 64))) rfl ⟨rfl, hE1.below⟩
end Go.Proofs.Ythddoelflmoedaa
