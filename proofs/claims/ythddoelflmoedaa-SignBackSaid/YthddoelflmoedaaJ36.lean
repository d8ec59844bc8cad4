/-
  Layer 5: whether bytes are below the order.
  Layer 7: a seed's key, its signature; whether a signature is right.
  Layer 7: whether a signature is right; whether a key is a point's.
  Layer 7: the document's example.
  A region that draws its order, with several operations that may come up: each of three, four or five; all ways end at one place. No condition on the program.
-/
import Derived.Test.YthddoelflmoedaaJ07
import Derived.Test.YthddoelflmoedaaJ12
import Derived.Test.YthddoelflmoedaaJ21
import Derived.Test.YthddoelflmoedaaJ35
namespace Go.Proofs.Ythddoelflmoedaa
open Go.RowKit
set_option maxRecDepth 100000
set_option linter.unusedVariables false
set_option linter.unusedSimpArgs false

theorem eq_b32 {x y : List Nat} (hx : x.length = 32) (hy : y.length = 32) (dx : Digs 256 x) (dy : Digs 256 y) (w : World) :
    (Op.equalIn 10000 22 (.agg (ints .u8 x)) (.agg (ints .u8 y))).run Try.prog w = .ok (decide (x = y)) w := by
  obtain ⟨i, hi, -, hs, -⟩ := info_parts (P := Try.prog) (e := 5) (z := .int .u8 0) (size := 1) (bytes := 1) (by kernel_rfl)
  exact run_equalIn_u8 Try.underlying22 Try.underlying5 hi hs hx hy dx dy w
theorem below_iff {a : List Nat} (ha : a.length = 32) (da : Digs 256 a) : decide (digs 256 32 (val 256 a % q) = a) = decide (val 256 a < q) := by
  apply decide_eq_decide.2
  constructor
  · intro h
    have := congrArg (val 256) h
    rw [val_digs, Nat.mod_eq_of_lt (Nat.lt_trans (mod_q _) (by decide))] at this
    rw [← this]
    exact mod_q _
  · intro h
    rw [Nat.mod_eq_of_lt h, digs_val' da ha]
set_option maxHeartbeats 1000000 in
theorem Below_any (a : List Nat) (ha : a.length = 32) (da : Digs 256 a) (w : World) : Gives 19 #[.agg (ints .u8 a)] w (.bool (decide (val 256 a < q))) := by
  have heq := fun w => eq_b32 (digs_length 256 32 (val 256 a % q)) ha (digs_Digs (by decide) _ _) da w
  rw [below_iff ha da] at heq
  have hE0 := Env.nil w
  go_enter Try.func19, Try.ntmps19
  repeat ((fail_if_success with_reducible show wA ..); (fail_if_success with_reducible show wB ..); go_step)
  refine wl_box (cs := (ints .u8 a)) hE0 rfl rfl rfl ?_
  intro g0 w1 hE1
  clear hE0
  simp only [Act.put, pA, pB, pC]
  apply wl_val rfl
  · go_simp
    with_reducible rfl
  simp only [Act.put, pA, pB, pC]
  repeat ((fail_if_success with_reducible show wA ..); (fail_if_success with_reducible show wB ..); go_step)
  refine wp_region_env 5 (by kernel_rfl) (by kernel_rfl) (fun _ _ d _ _ h => by cases d <;> exact h) hE1 ?_
  refine headRun_load rfl rfl (fun w h => h.get (i := 0) rfl) Try.underlying22 rfl (sz_of (n := 32) (by kernel_rfl) (by first | (simp only [ints_size, digs_length, List.length_replicate, List.length_cons, List.length_nil]; done) | (simp only [ints_size, *]; done) | rfl)) ?_
  simp only [Act.put, pA, pB, pC]
  refine headRun_call (fun w1 => by go_simp) (fun w1 hW => small_any a ha da _) ?_
  simp only [Act.put, pA, pB, pC]
  refine headRun_call (fun w1 => by go_simp) (fun w1 hW => bytes_any (val 256 a % q) (mod_q_lt _) _) ?_
  simp only [Act.put, pA, pB, pC]
  refine headRun_load rfl rfl (fun w h => h.get (i := 0) rfl) Try.underlying22 rfl (sz_of (n := 32) (by kernel_rfl) (by first | (simp only [ints_size, digs_length, List.length_replicate, List.length_cons, List.length_nil]; done) | (simp only [ints_size, *]; done) | rfl)) ?_
  simp only [Act.put, pA, pB, pC]
  apply headRun_val
  · intro w1 h1
    go_simp
    with_reducible rfl
  simp only [Act.put, pA, pB, pC]
  refine headRun_nil (endK0 ?_)
  intro  w2 hE2
  clear hE1
  simp only [List.drop_succ_cons, List.drop_zero, Act.put, pA, pB, pC]
  apply wl_val rfl
  · go_simp
    with_reducible rfl
  simp only [Act.put, pA, pB, pC]
  repeat ((fail_if_success with_reducible show wA ..); (fail_if_success with_reducible show wB ..); go_step)
  go_returns
  exact ⟨rfl, hE2.below⟩

end Go.Proofs.Ythddoelflmoedaa
namespace Go.Proofs.Ythddoelflmoedaa
open Go.RowKit
set_option maxRecDepth 100000
set_option linter.unusedVariables false
set_option linter.unusedSimpArgs false

set_option maxHeartbeats 4000000 in
theorem Public_any {s : List Nat} (hs : s.length = 32) (ds : Digs 256 s) (w : World) : Gives 7 #[.agg (ints .u8 s)] w (.agg (ints .u8 (pubL s))) := by
  obtain ⟨g, hg, Gg⟩ := PBase_any
  obtain ⟨z, hz, Gz⟩ := PMul_any hg (numL_len s) (numL_Digs s)
  have HB := Lib.hid (fun w => PBytes_any hz w)
  have HG := Lib.hid Gg
  have HZ := Lib.hid Gz
  have HS := Lib.hid (fun w => split_any hs ds w)
  have lg := hg.len
  have lz := hz.len
  have l1 := numL_len s
  have l2 := saltL_len s
  have l3 := pubL_len s
  have e : encB (smul (val 256 (numL s)) baseP) = pubL s := rfl
  rw [e] at HB
  clear hg hz Gg Gz e ds
  have hE0 := Env.nil w
  go_enter Try.func7, Try.ntmps7
  repeat ((fail_if_success with_reducible show wA ..); (fail_if_success with_reducible show wB ..); go_step)
  refine wl_step (st_boxA hE0 rfl rfl rfl ?_)
  intro g0 w1 hb1 hE1
  clear hE0
  simp only [Act.put, pA, pB, pC]
  refine wl_step (st_alloc (zs := ints .u8 (List.replicate 32 0)) hE1 rfl rfl (fun w => by kernel_rfl) ?_)
  intro g1 w2 hb2 hE2
  clear hE1
  simp only [Act.put, pA, pB, pC]
  repeat ((fail_if_success with_reducible show wA ..); (fail_if_success with_reducible show wB ..); go_step)
  refine wv (v_load (i := 1) hE2 rfl rfl rfl Try.underlying23 rfl (szA (n := 32))) ?_
  simp only [Act.put, pA, pB, pC]
  refine wl_step (st_gives hE2 rfl (run_call rfl Try.call11) (HS.out _) ?_)
  intro w3 hb3 hE3
  clear hE2
  simp only [Act.put, pA, pB, pC]
  refine wv (v_moveT (.inl rfl) rfl) ?_
  simp only [Act.put, pA, pB, pC]
  refine wv (v_extract rfl rfl rfl) ?_
  simp only [Act.put, pA, pB, pC]
  refine wv (v_extract rfl rfl rfl) ?_
  simp only [Act.put, pA, pB, pC]
  refine wl_step (st_alloc (zs := ints .u8 (List.replicate 32 0)) hE3 rfl rfl (fun w => by kernel_rfl) ?_)
  intro g2 w4 hb4 hE4
  clear hE3
  simp only [Act.put, pA, pB, pC]
  refine wl_step (st_alloc (zs := ints .u8 (List.replicate 32 0)) hE4 rfl rfl (fun w => by kernel_rfl) ?_)
  intro g3 w5 hb5 hE5
  clear hE4
  simp only [Act.put, pA, pB, pC]
  refine wl_step (st_store (i := 1) hE5 rfl rfl rfl rfl rfl (szA (n := 32)) (by first | (simp only [ints_size, digs_length, List.length_replicate, List.length_cons, List.length_nil]; done) | (simp only [ints_size, digs_length, List.length_replicate, List.length_cons, List.length_nil, List.length_set, List.length_append]; omega) | rfl) (by first | exact ints_one _ _ | decide | rfl | simp [*]) ?_)
  intro w6 hE6
  clear hE5
  simp only [pB, pC] at hE6
  simp only [Act.put, pA, pB, pC]
  refine wl_step (st_store (i := 0) hE6 rfl rfl rfl rfl rfl (szA (n := 32)) (by first | (simp only [ints_size, digs_length, List.length_replicate, List.length_cons, List.length_nil]; done) | (simp only [ints_size, digs_length, List.length_replicate, List.length_cons, List.length_nil, List.length_set, List.length_append]; omega) | rfl) (by first | exact ints_one _ _ | decide | rfl | simp [*]) ?_)
  intro w7 hE7
  clear hE6
  simp only [pB, pC] at hE7
  simp only [Act.put, pA, pB, pC]
  repeat ((fail_if_success with_reducible show wA ..); (fail_if_success with_reducible show wB ..); go_step)
  refine wp_region_B (n := 5) 4 (by kernel_rfl) rfl hE7 ?_
  intro w8 hb8 hE8
  clear hE7
  refine wpB_take (i := 1) (by kernel_rfl) rfl (by kernel_rfl) (fun _ _ _ h => h) rfl (v_load (i := 1) hE8 rfl rfl rfl Try.underlying22 rfl (szA (n := 32))) ?_
  simp only [Act.put, pA, pB, pC]
  refine wpB_step (i := 0) (by kernel_rfl) rfl (st_gives hE8 rfl (run_call rfl Try.call12) (HG.out _) ?_)
  intro w9 hb9 hE9
  clear hE8
  refine ⟨fun _ => hb9, ?_⟩
  simp only [Act.put, pA, pB, pC]
  refine wpB_step (i := 2) (by kernel_rfl) rfl (st_gives hE9 rfl (run_call rfl Try.call13) (HZ.out _) ?_)
  intro w10 hb10 hE10
  clear hE9
  refine ⟨fun _ => hb10, ?_⟩
  simp only [Act.put, pA, pB, pC]
  refine wpB_step (i := 3) (by kernel_rfl) rfl (st_gives hE10 rfl (run_call rfl Try.call14) (HB.out _) ?_)
  intro w11 hb11 hE11
  clear hE10
  refine ⟨fun _ => hb11, ?_⟩
  simp only [Act.put, pA, pB, pC]
  refine wpB_step (i := 4) (by kernel_rfl) rfl (st_store (i := 2) hE11 rfl rfl rfl rfl rfl (szA (n := 32)) (by first | (simp only [ints_size, digs_length, List.length_replicate, List.length_cons, List.length_nil]; done) | (simp only [ints_size, digs_length, List.length_replicate, List.length_cons, List.length_nil, List.length_set, List.length_append]; omega) | rfl) (by first | exact ints_one _ _ | decide | rfl | simp [*]) ?_)
  intro w12 hE12
  clear hE11
  simp only [pB, pC] at hE12
  refine ⟨fun h => absurd h (by decide), ?_⟩
  simp only [Act.put, pA, pB, pC]
  refine wpB_done (by kernel_rfl) ?_ _
  repeat ((fail_if_success with_reducible show wA ..); (fail_if_success with_reducible show wB ..); go_step)
  refine bodyPost_ret (results_cell_row rfl _ _ _ _ _ (0, 0) _ rfl (hE12.get (i := 2) rfl) Try.underlying27 rfl (szA (n := 32))) rfl ⟨rfl, hE12.below⟩

set_option maxHeartbeats 8000000 in
theorem Sign_any {s : List Nat} {rows : List (List Nat)} {r : Value} {w : World} (hs : s.length = 32) (ds : Digs 256 s) (hr : RdSs .u8 rows r w) (dr : ∀ l ∈ rows, Digs 256 l) (hl : rows.flatten.length < 274877906944) (hn : rows.length < 1099511627776) :
    Gives 8 #[.agg (ints .u8 s), r] w (.agg (ints .u8 (sigL s rows.flatten))) := by
  have l1 := numL_len s
  have l2 := saltL_len s
  have l3 := pubL_len s
  have HS := Lib.hid (fun w => split_any hs ds w)
  have HP := Lib.hid (fun w => Public_any hs ds w)
  have Hr := Lib.hid hr
  obtain ⟨M, hM⟩ : ∃ M, rows.flatten = M := ⟨_, rfl⟩
  have H1 : Hid (∀ (w1 : World) (g : Nat), Below w.heap.size w w1 → (∃ T, w1.heap[g]? = some (.cells (ints .u8 (saltL s)) T (0, 0))) → Gives 15 #[.slice (some ⟨g, 0, none⟩) 32 32, .slice none 0 0, r] w1 (.agg (ints .u8 (rL s M)))) := Lib.hid (fun w1 g hb ⟨T, hg⟩ => by
    have h := hash_any (RdS.whole hg l2) (RdS.nil .u8 w1) (hr.below hb) (saltL_Digs s) Digs.nil dr (by rw [l2]; simp only [List.length_nil]; omega) hn
    rw [List.append_nil, hM] at h
    exact h)
  have H2 : Hid (∀ (w1 : World) (g g' : Nat), Below w.heap.size w w1 → (∃ T, w1.heap[g]? = some (.cells (ints .u8 (firstL s M)) T (0, 0))) → (∃ T, w1.heap[g']? = some (.cells (ints .u8 (pubL s)) T (0, 0))) → Gives 15 #[.slice (some ⟨g, 0, none⟩) 32 32, .slice (some ⟨g', 0, none⟩) 32 32, r] w1 (.agg (ints .u8 (kL s M)))) := Lib.hid (fun w1 g g' hb ⟨T, hg⟩ ⟨T', hg'⟩ => by
    have h := hash_any (RdS.whole hg (firstL_len s M)) (RdS.whole hg' l3) (hr.below hb) (firstL_Digs s M) (pubL_Digs s) dr (by rw [l3, firstL_len]; omega) hn
    rw [hM] at h
    exact h)
  obtain ⟨g, hg, Gg⟩ := PBase_any
  obtain ⟨z, hz, Gz⟩ := PMul_any hg (hashL_len (saltL s ++ M)) (hashL_Digs (saltL s ++ M))
  have HB := Lib.hid (fun w => PBytes_any hz w)
  have HG := Lib.hid Gg
  have HZ := Lib.hid Gz
  have lg := hg.len
  have lz := hz.len
  have e1 : encB (smul (val 256 (hashL (saltL s ++ M))) baseP) = firstL s M := rfl
  have e2 : hashL (saltL s ++ M) = rL s M := rfl
  have HM := Lib.hid (fun w => MulAdd_any (kL s M) (numL s) (rL s M) (hashL_len _) l1 (hashL_len _) (hashL_Digs _) (numL_Digs s) (hashL_Digs _) w)
  have e3 : digs 256 32 ((val 256 (kL s M) * val 256 (numL s) + val 256 (rL s M)) % q) = lastL s M := rfl
  rw [e1] at HB
  rw [e2] at HZ
  rw [e3] at HM
  have l4 : (rL s M).length = 32 := hashL_len _
  have l5 := firstL_len s M
  have l6 := lastL_len s M
  have hz1 : (List.replicate 64 0).take 0 ++ firstL s M ++ (List.replicate 64 0).drop (0 + 32) = firstL s M ++ List.replicate 32 0 := by simp
  have hz2 : (firstL s M ++ List.replicate 32 0).take 32 ++ lastL s M ++ (firstL s M ++ List.replicate 32 0).drop (32 + 32) = sigL s M := by
    rw [List.take_left' l5, List.drop_of_length_le (by rw [List.length_append, List.length_replicate]; omega), List.append_nil]
    rfl
  have l7 : (firstL s M ++ List.replicate 32 0).length = 64 := by rw [List.length_append, List.length_replicate]; omega
  have l8 := sigL_len s M
  have Z1 := Lib.hid hz1
  have Z2 := Lib.hid hz2
  rw [hM]
  clear hg hz Gg Gz e1 e2 e3 ds hr dr hz1 hz2 hM hl
  have hE0 := Env.nil w
  go_enter Try.func8, Try.ntmps8
  repeat ((fail_if_success with_reducible show wA ..); (fail_if_success with_reducible show wB ..); go_step)
  refine wl_step (st_boxA hE0 rfl rfl rfl ?_)
  intro g0 w1 hb1 hE1
  clear hE0
  simp only [Act.put, pA, pB, pC]
  refine wl_step (st_alloc (zs := ints .u8 (List.replicate 64 0)) hE1 rfl rfl (fun w => by kernel_rfl) ?_)
  intro g1 w2 hb2 hE2
  clear hE1
  simp only [Act.put, pA, pB, pC]
  repeat ((fail_if_success with_reducible show wA ..); (fail_if_success with_reducible show wB ..); go_step)
  refine wv (v_load (i := 1) hE2 rfl rfl rfl Try.underlying23 rfl (szA (n := 32))) ?_
  simp only [Act.put, pA, pB, pC]
  refine wl_step (st_gives hE2 rfl (run_call rfl Try.call11) (HS.out _) ?_)
  intro w3 hb3 hE3
  clear hE2
  simp only [Act.put, pA, pB, pC]
  refine wv (v_moveT (.inl rfl) rfl) ?_
  simp only [Act.put, pA, pB, pC]
  refine wv (v_extract rfl rfl rfl) ?_
  simp only [Act.put, pA, pB, pC]
  refine wv (v_extract rfl rfl rfl) ?_
  simp only [Act.put, pA, pB, pC]
  refine wl_step (st_alloc (zs := ints .u8 (List.replicate 32 0)) hE3 rfl rfl (fun w => by kernel_rfl) ?_)
  intro g2 w4 hb4 hE4
  clear hE3
  simp only [Act.put, pA, pB, pC]
  refine wl_step (st_alloc (zs := ints .u8 (List.replicate 32 0)) hE4 rfl rfl (fun w => by kernel_rfl) ?_)
  intro g3 w5 hb5 hE5
  clear hE4
  simp only [Act.put, pA, pB, pC]
  refine wl_step (st_store (i := 1) hE5 rfl rfl rfl rfl rfl (szA (n := 32)) (by first | (simp only [ints_size, digs_length, List.length_replicate, List.length_cons, List.length_nil]; done) | (simp only [ints_size, digs_length, List.length_replicate, List.length_cons, List.length_nil, List.length_set, List.length_append]; omega) | rfl) (by first | exact ints_one _ _ | decide | rfl | simp [*]) ?_)
  intro w6 hE6
  clear hE5
  simp only [pB, pC] at hE6
  simp only [Act.put, pA, pB, pC]
  refine wl_step (st_store (i := 0) hE6 rfl rfl rfl rfl rfl (szA (n := 32)) (by first | (simp only [ints_size, digs_length, List.length_replicate, List.length_cons, List.length_nil]; done) | (simp only [ints_size, digs_length, List.length_replicate, List.length_cons, List.length_nil, List.length_set, List.length_append]; omega) | rfl) (by first | exact ints_one _ _ | decide | rfl | simp [*]) ?_)
  intro w7 hE7
  clear hE6
  simp only [pB, pC] at hE7
  simp only [Act.put, pA, pB, pC]
  repeat ((fail_if_success with_reducible show wA ..); (fail_if_success with_reducible show wB ..); go_step)
  refine wv (v_load (i := 3) hE7 rfl rfl rfl Try.underlying23 rfl (szA (n := 32))) ?_
  simp only [Act.put, pA, pB, pC]
  refine wl_step (st_gives hE7 rfl (run_call rfl Try.call7) (HP.out _) ?_)
  intro w8 hb8 hE8
  clear hE7
  simp only [Act.put, pA, pB, pC]
  refine wl_step (st_alloc (zs := ints .u8 (List.replicate 32 0)) hE8 rfl rfl (fun w => by kernel_rfl) ?_)
  intro g4 w9 hb9 hE9
  clear hE8
  simp only [Act.put, pA, pB, pC]
  refine wl_step (st_store (i := 0) hE9 rfl rfl rfl rfl rfl (szA (n := 32)) (by first | (simp only [ints_size, digs_length, List.length_replicate, List.length_cons, List.length_nil]; done) | (simp only [ints_size, digs_length, List.length_replicate, List.length_cons, List.length_nil, List.length_set, List.length_append]; omega) | rfl) (by first | exact ints_one _ _ | decide | rfl | simp [*]) ?_)
  intro w10 hE10
  clear hE9
  simp only [pB, pC] at hE10
  simp only [Act.put, pA, pB, pC]
  repeat ((fail_if_success with_reducible show wA ..); (fail_if_success with_reducible show wB ..); go_step)
  refine wv (v_sliceAll rfl rfl Try.underlying22 (by kernel_rfl)) ?_
  simp only [Act.put, pA, pB, pC]
  refine wv (v_moveT (.inl rfl) rfl) ?_
  simp only [Act.put, pA, pB, pC]
  refine wl_step (st_gives hE10 rfl (run_call rfl Try.call15) (H1.out _ _ hE10.below ⟨_, hE10.get (i := 1) rfl⟩) ?_)
  intro w11 hb11 hE11
  clear hE10
  simp only [Act.put, pA, pB, pC]
  refine wl_step (st_alloc (zs := ints .u8 (List.replicate 32 0)) hE11 rfl rfl (fun w => by kernel_rfl) ?_)
  intro g5 w12 hb12 hE12
  clear hE11
  simp only [Act.put, pA, pB, pC]
  refine wl_step (st_store (i := 0) hE12 rfl rfl rfl rfl rfl (szA (n := 32)) (by first | (simp only [ints_size, digs_length, List.length_replicate, List.length_cons, List.length_nil]; done) | (simp only [ints_size, digs_length, List.length_replicate, List.length_cons, List.length_nil, List.length_set, List.length_append]; omega) | rfl) (by first | exact ints_one _ _ | decide | rfl | simp [*]) ?_)
  intro w13 hE13
  clear hE12
  simp only [pB, pC] at hE13
  simp only [Act.put, pA, pB, pC]
  repeat ((fail_if_success with_reducible show wA ..); (fail_if_success with_reducible show wB ..); go_step)
  refine wp_region_env 5 (by kernel_rfl) (by kernel_rfl) (fun _ _ d _ _ h => by cases d <;> exact h) hE13 ?_
  refine headRun_call (fun w1 => run_call rfl Try.call12) (fun w1 hW => HG.out _) ?_
  simp only [Act.put, pA, pB, pC]
  refine hv (fun _ hW => (v_load (i := 0) hW rfl rfl rfl Try.underlying22 rfl (szA (n := 32)))) ?_
  simp only [Act.put, pA, pB, pC]
  refine headRun_call (fun w1 => run_call rfl Try.call13) (fun w1 hW => HZ.out _) ?_
  simp only [Act.put, pA, pB, pC]
  refine headRun_call (fun w1 => run_call rfl Try.call14) (fun w1 hW => HB.out _) ?_
  simp only [Act.put, pA, pB, pC]
  refine headRun_alloc (zs := ints .u8 (List.replicate 32 0)) rfl rfl (fun w => by kernel_rfl) ?_
  simp only [Act.put, pA, pB, pC]
  refine headRun_nil (endK1 ?_)
  intro g6 w14 hE14
  clear hE13
  simp only [List.drop_succ_cons, List.drop_zero, Act.put, pA, pB, pC]
  refine wl_step (st_store (i := 0) hE14 rfl rfl rfl rfl rfl (szA (n := 32)) (by first | (simp only [ints_size, digs_length, List.length_replicate, List.length_cons, List.length_nil]; done) | (simp only [ints_size, digs_length, List.length_replicate, List.length_cons, List.length_nil, List.length_set, List.length_append]; omega) | rfl) (by first | exact ints_one _ _ | decide | rfl | simp [*]) ?_)
  intro w15 hE15
  clear hE14
  simp only [pB, pC] at hE15
  simp only [Act.put, pA, pB, pC]
  repeat ((fail_if_success with_reducible show wA ..); (fail_if_success with_reducible show wB ..); go_step)
  refine wp_region_env 8 (by kernel_rfl) (by kernel_rfl) (fun _ _ d _ _ h => by cases d <;> exact h) hE15 ?_
  refine hv (fun _ hW => (v_sliceAll rfl rfl Try.underlying22 (by kernel_rfl))) ?_
  simp only [Act.put, pA, pB, pC]
  refine hv (fun _ hW => (v_sliceAll rfl rfl Try.underlying27 (by kernel_rfl))) ?_
  simp only [Act.put, pA, pB, pC]
  refine hv (fun _ hW => (v_moveT (.inl rfl) rfl)) ?_
  simp only [Act.put, pA, pB, pC]
  refine headRun_call (fun w1 => run_call rfl Try.call15) (fun w1 hW => H2.out _ _ _ hW.below ⟨_, hW.get (i := 0) rfl⟩ ⟨_, hW.get (i := 2) rfl⟩) ?_
  simp only [Act.put, pA, pB, pC]
  refine hv (fun _ hW => (v_load (i := 4) hW rfl rfl rfl Try.underlying22 rfl (szA (n := 32)))) ?_
  simp only [Act.put, pA, pB, pC]
  refine hv (fun _ hW => (v_load (i := 1) hW rfl rfl rfl Try.underlying22 rfl (szA (n := 32)))) ?_
  simp only [Act.put, pA, pB, pC]
  refine headRun_call (fun w1 => run_call rfl Try.call16) (fun w1 hW => HM.out _) ?_
  simp only [Act.put, pA, pB, pC]
  refine headRun_alloc (zs := ints .u8 (List.replicate 32 0)) rfl rfl (fun w => by kernel_rfl) ?_
  simp only [Act.put, pA, pB, pC]
  refine headRun_nil (endK1 ?_)
  intro g7 w16 hE16
  clear hE15
  simp only [List.drop_succ_cons, List.drop_zero, Act.put, pA, pB, pC]
  refine wl_step (st_store (i := 0) hE16 rfl rfl rfl rfl rfl (szA (n := 32)) (by first | (simp only [ints_size, digs_length, List.length_replicate, List.length_cons, List.length_nil]; done) | (simp only [ints_size, digs_length, List.length_replicate, List.length_cons, List.length_nil, List.length_set, List.length_append]; omega) | rfl) (by first | exact ints_one _ _ | decide | rfl | simp [*]) ?_)
  intro w17 hE17
  clear hE16
  simp only [pB, pC] at hE17
  simp only [Act.put, pA, pB, pC]
  repeat ((fail_if_success with_reducible show wA ..); (fail_if_success with_reducible show wB ..); go_step)
  refine wl_step (st_alloc (zs := ints .u8 (List.replicate 64 0)) hE17 rfl rfl (fun w => by kernel_rfl) ?_)
  intro g8 w18 hb18 hE18
  clear hE17
  simp only [Act.put, pA, pB, pC]
  repeat ((fail_if_success with_reducible show wA ..); (fail_if_success with_reducible show wB ..); go_step)
  refine wp_region_B (n := 3) 2 (by kernel_rfl) rfl hE18 ?_
  intro w19 hb19 hE19
  clear hE18
  refine wpB_take (i := 0) (by kernel_rfl) rfl (by kernel_rfl) (fun _ _ _ h => h) rfl (v_sliceArrH rfl rfl rfl Try.underlying30 (by kernel_rfl) (by decide) (by decide)) ?_
  simp only [Act.put, pA, pB, pC]
  refine wpB_take (i := 1) (by kernel_rfl) rfl (by kernel_rfl) (fun _ _ _ h => h) rfl (v_sliceAll rfl rfl Try.underlying22 (by kernel_rfl)) ?_
  simp only [Act.put, pA, pB, pC]
  refine wpB_step (i := 2) (by kernel_rfl) rfl (st_copyInto (i := 0) Z1.out hE19 rfl rfl rfl rfl (RdS.whole (hE19.get (i := 2) rfl) l5) l5 (by decide) Try.underlying24 (by kernel_rfl) rfl (by rw [List.length_replicate]; decide) ?_)
  intro w20 hE20
  clear hE19
  simp only [pB, pC] at hE20
  refine ⟨fun h => absurd h (by decide), ?_⟩
  simp only [Act.put, pA, pB, pC]
  refine wpB_done (by kernel_rfl) ?_ _
  repeat ((fail_if_success with_reducible show wA ..); (fail_if_success with_reducible show wB ..); go_step)
  refine wp_region_B (n := 3) 2 (by kernel_rfl) rfl hE20 ?_
  intro w21 hb21 hE21
  clear hE20
  refine wpB_take (i := 0) (by kernel_rfl) rfl (by kernel_rfl) (fun _ _ _ h => h) rfl (v_sliceArrL rfl rfl rfl Try.underlying30 (by kernel_rfl) (by decide)) ?_
  simp only [Act.put, pA, pB, pC]
  refine wpB_take (i := 1) (by kernel_rfl) rfl (by kernel_rfl) (fun _ _ _ h => h) rfl (v_sliceAll rfl rfl Try.underlying22 (by kernel_rfl)) ?_
  simp only [Act.put, pA, pB, pC]
  refine wpB_step (i := 2) (by kernel_rfl) rfl (st_copyInto (i := 0) Z2.out hE21 rfl rfl rfl rfl (RdS.whole (hE21.get (i := 1) rfl) l6) l6 (by decide) Try.underlying24 (by kernel_rfl) rfl (by rw [l7]; decide) ?_)
  intro w22 hE22
  clear hE21
  simp only [pB, pC] at hE22
  refine ⟨fun h => absurd h (by decide), ?_⟩
  simp only [Act.put, pA, pB, pC]
  refine wpB_done (by kernel_rfl) ?_ _
  repeat ((fail_if_success with_reducible show wA ..); (fail_if_success with_reducible show wB ..); go_step)
  refine wv (v_load (i := 0) hE22 rfl rfl rfl Try.underlying30 rfl (szA (n := 64))) ?_
  simp only [Act.put, pA, pB, pC]
  refine wl_step (st_store (i := 7) hE22 rfl rfl rfl rfl rfl (szA (n := 64)) (by first | (simp only [ints_size, digs_length, List.length_replicate, List.length_cons, List.length_nil]; done) | (simp only [ints_size, digs_length, List.length_replicate, List.length_cons, List.length_nil, List.length_set, List.length_append]; omega) | rfl) (by first | exact ints_one _ _ | decide | rfl | simp [*]) ?_)
  intro w23 hE23
  clear hE22
  simp only [pB, pC] at hE23
  simp only [Act.put, pA, pB, pC]
  repeat ((fail_if_success with_reducible show wA ..); (fail_if_success with_reducible show wB ..); go_step)
  refine bodyPost_ret (results_cell_row rfl _ _ _ _ _ (0, 0) _ rfl (hE23.get (i := 7) rfl) Try.underlying30 rfl (szA (n := 64))) rfl ⟨rfl, hE23.below⟩
end Go.Proofs.Ythddoelflmoedaa
namespace Go.Proofs.Ythddoelflmoedaa
open Go.RowKit
set_option maxRecDepth 100000
set_option linter.unusedVariables false
set_option linter.unusedSimpArgs false

section
variable {a : Act} {w : World} {o : Oper}
theorem v_eqS32b {t' : TypeId} {x y : Operand} {l m : List Nat} (ho : o.op = .binOp .eql 22 x y t') (hx : a.eval x = .agg (ints .u8 l)) (hy : a.eval y = .agg (ints .u8 m)) (hl : l.length = 32) (hm : m.length = 32) : Val Try.prog o a (.bool (decide (l = m))) w :=
  v_eqInts ho hx hy (by kernel_rfl) Try.underlying22 Try.underlying5 (size_run (by kernel_rfl)) hl hm
end
set_option maxHeartbeats 8000000 in
theorem Verify_yes {key G : List Nat} {P : Pt} {rows : List (List Nat)} {r : Value} {w : World} (hk : key.length = 32) (dk : Digs 256 key) (hg : G.length = 64) (dg : Digs 256 G) (hr : RdSs .u8 rows r w) (dr : ∀ l ∈ rows, Digs 256 l) (hl : rows.flatten.length < 274877906944) (hn : rows.length < 1099511627776)
    (hP : encN P = val 256 key) (hS : val 256 (G.drop 32) < q) :
    Gives 9 #[.agg (ints .u8 key), .agg (ints .u8 G), r] w (.bool (decide (encB (verP key (G.take 32) (G.drop 32) rows.flatten P) = G.take 32))) := by
  have HL := Lib.hid (fun w => half_lo hg w)
  have HH := Lib.hid (fun w => half_hi hg w)
  have lf : (G.take 32).length = 32 := by rw [List.length_take]; omega
  have ls : (G.drop 32).length = 32 := by rw [List.length_drop]; omega
  have df := dg.take 32
  have dS := dg.drop 32
  obtain ⟨F, hF⟩ : ∃ F, G.take 32 = F := ⟨_, rfl⟩
  obtain ⟨S, hSS⟩ : ∃ S, G.drop 32 = S := ⟨_, rfl⟩
  rw [hF] at HL lf df ⊢
  rw [hSS] at HH ls dS hS ⊢
  have HBl := Lib.hid (fun w => Below_any S ls dS w)
  rw [decide_eq_true hS] at HBl
  obtain ⟨M, hM⟩ : ∃ M, rows.flatten = M := ⟨_, rfl⟩
  have H1 : Hid (∀ (w1 : World) (g g' : Nat), Below w.heap.size w w1 → (∃ T, w1.heap[g]? = some (.cells (ints .u8 F) T (0, 0))) → (∃ T, w1.heap[g']? = some (.cells (ints .u8 key) T (0, 0))) → Gives 15 #[.slice (some ⟨g, 0, none⟩) 32 32, .slice (some ⟨g', 0, none⟩) 32 32, r] w1 (.agg (ints .u8 (hashL (F ++ key ++ M))))) := Lib.hid (fun w1 g g' hb ⟨T, hg⟩ ⟨T', hg'⟩ => by
    have h := hash_any (RdS.whole hg lf) (RdS.whole hg' hk) (hr.below hb) df dk dr (by rw [lf, hk]; omega) hn
    rw [hM] at h
    exact h)
  rw [hM]
  obtain ⟨c, hc, Gc⟩ := PDecode_yes hk dk hP
  obtain ⟨n, hn', Gn⟩ := PNeg_any hc
  obtain ⟨b, hb, Gb⟩ := PBoth_any hn' (hashL_len (F ++ key ++ M)) (hashL_Digs (F ++ key ++ M)) ls dS
  have HD := Lib.hid Gc
  have HN := Lib.hid Gn
  have HB := Lib.hid Gb
  have HY := Lib.hid (fun w => PBytes_any hb w)
  have lc := hc.len
  have ln := hn'.len
  have lb := hb.len
  have e : padd (smul (val 256 (hashL (F ++ key ++ M))) (pneg P)) (smul (val 256 S) baseP) = verP key F S M P := rfl
  rw [e] at HY
  have l1 := hashL_len (F ++ key ++ M)
  have l2 := encB_len (verP key F S M P)
  obtain ⟨Y, hY⟩ : ∃ Y, encB (verP key F S M P) = Y := ⟨_, rfl⟩
  obtain ⟨X, hX⟩ : ∃ X, hashL (F ++ key ++ M) = X := ⟨_, rfl⟩
  rw [hY] at HY l2 ⊢
  rw [hX] at H1 HB l1
  clear e hY hX hb hn' hc Gc Gn Gb hM hF hSS dk dg df dS hr dr hl hP hS
  have hE0 := Env.nil w
  go_enter Try.func9, Try.ntmps9
  repeat ((fail_if_success with_reducible show wA ..); (fail_if_success with_reducible show wB ..); go_step)
  refine wl_step (st_boxA hE0 rfl rfl rfl ?_)
  intro g0 w1 hb1 hE1
  clear hE0
  simp only [Act.put, pA, pB, pC]
  refine wl_step (st_boxA hE1 rfl rfl rfl ?_)
  intro g1 w2 hb2 hE2
  clear hE1
  simp only [Act.put, pA, pB, pC]
  refine wv (v_moveC (.inr rfl)) ?_
  simp only [Act.put, pA, pB, pC]
  repeat ((fail_if_success with_reducible show wA ..); (fail_if_success with_reducible show wB ..); go_step)
  refine wp_region_env 6 (by kernel_rfl) (by kernel_rfl) (fun _ _ d _ _ h => by cases d <;> exact h) hE2 ?_
  refine hv (fun _ hW => (v_load (i := 0) hW rfl rfl rfl Try.underlying30 rfl (szA (n := 64)))) ?_
  simp only [Act.put, pA, pB, pC]
  refine headRun_call (fun w1 => run_call rfl Try.call17) (fun w1 hW => HL.out _) ?_
  simp only [Act.put, pA, pB, pC]
  refine hv (fun _ hW => (v_load (i := 0) hW rfl rfl rfl Try.underlying30 rfl (szA (n := 64)))) ?_
  simp only [Act.put, pA, pB, pC]
  refine headRun_call (fun w1 => run_call rfl Try.call17) (fun w1 hW => HH.out _) ?_
  simp only [Act.put, pA, pB, pC]
  refine headRun_alloc (zs := ints .u8 (List.replicate 32 0)) rfl rfl (fun w => by kernel_rfl) ?_
  simp only [Act.put, pA, pB, pC]
  refine headRun_alloc (zs := ints .u8 (List.replicate 32 0)) rfl rfl (fun w => by kernel_rfl) ?_
  simp only [Act.put, pA, pB, pC]
  refine headRun_nil (endK2 ?_)
  intro g2 g3 w3 hE3
  clear hE2
  simp only [List.drop_succ_cons, List.drop_zero, Act.put, pA, pB, pC]
  refine wl_step (st_store (i := 0) hE3 rfl rfl rfl rfl rfl (szA (n := 32)) (by first | (simp only [ints_size, digs_length, List.length_replicate, List.length_cons, List.length_nil]; done) | (simp only [ints_size, digs_length, List.length_replicate, List.length_cons, List.length_nil, List.length_set, List.length_append]; omega) | rfl) (by first | exact ints_one _ _ | decide | rfl | simp [*]) ?_)
  intro w4 hE4
  clear hE3
  simp only [pB, pC] at hE4
  simp only [Act.put, pA, pB, pC]
  refine wl_step (st_store (i := 1) hE4 rfl rfl rfl rfl rfl (szA (n := 32)) (by first | (simp only [ints_size, digs_length, List.length_replicate, List.length_cons, List.length_nil]; done) | (simp only [ints_size, digs_length, List.length_replicate, List.length_cons, List.length_nil, List.length_set, List.length_append]; omega) | rfl) (by first | exact ints_one _ _ | decide | rfl | simp [*]) ?_)
  intro w5 hE5
  clear hE4
  simp only [pB, pC] at hE5
  simp only [Act.put, pA, pB, pC]
  repeat ((fail_if_success with_reducible show wA ..); (fail_if_success with_reducible show wB ..); go_step)
  refine wv (v_load (i := 3) hE5 rfl rfl rfl Try.underlying27 rfl (szA (n := 32))) ?_
  simp only [Act.put, pA, pB, pC]
  refine wl_step (st_gives hE5 rfl (run_call rfl Try.call18) (HD.out _) ?_)
  intro w6 hb6 hE6
  clear hE5
  simp only [Act.put, pA, pB, pC]
  refine wv (v_moveT (.inl rfl) rfl) ?_
  simp only [Act.put, pA, pB, pC]
  refine wv (v_extract rfl rfl rfl) ?_
  simp only [Act.put, pA, pB, pC]
  refine wv (v_extract rfl rfl rfl) ?_
  simp only [Act.put, pA, pB, pC]
  refine wl_step (st_alloc (zs := ints .u64 (List.replicate 20 0)) hE6 rfl rfl (fun w => by kernel_rfl) ?_)
  intro g4 w7 hb7 hE7
  clear hE6
  simp only [Act.put, pA, pB, pC]
  refine wl_step (st_store (i := 0) hE7 rfl rfl rfl rfl rfl (szA (n := 20)) (by first | (simp only [ints_size, digs_length, List.length_replicate, List.length_cons, List.length_nil]; done) | (simp only [ints_size, digs_length, List.length_replicate, List.length_cons, List.length_nil, List.length_set, List.length_append]; omega) | rfl) (by first | exact ints_one _ _ | decide | rfl | simp [*]) ?_)
  intro w8 hE8
  clear hE7
  simp only [pB, pC] at hE8
  simp only [Act.put, pA, pB, pC]
  refine wv (v_moveT (.inr rfl) rfl) ?_
  simp only [Act.put, pA, pB, pC]
  repeat ((fail_if_success with_reducible show wA ..); (fail_if_success with_reducible show wB ..); go_step)
  refine wv (v_moveT (.inl rfl) rfl) ?_
  simp only [Act.put, pA, pB, pC]
  refine wv (v_not rfl rfl) ?_
  simp only [Act.put, pA, pB, pC]
  refine wv (v_moveT (.inl rfl) rfl) ?_
  simp only [Act.put, pA, pB, pC]
  refine wv (v_load (i := 2) hE8 rfl rfl rfl Try.underlying22 rfl (szA (n := 32))) ?_
  simp only [Act.put, pA, pB, pC]
  refine wl_step (st_gives hE8 rfl (run_call rfl Try.call19) (HBl.out _) ?_)
  intro w9 hb9 hE9
  clear hE8
  simp only [Act.put, pA, pB, pC]
  refine wv (v_not rfl rfl) ?_
  simp only [Act.put, pA, pB, pC]
  refine wv (v_or rfl rfl (fun _ => rfl)) ?_
  simp only [Act.put, pA, pB, pC]
  repeat ((fail_if_success with_reducible show wA ..); (fail_if_success with_reducible show wB ..); (fail_if_success (with_reducible show Code.wp _ (Code.cond _ _ _) _ _ _)); go_step)
  refine wp_cond_false (by first | rfl | exact congrArg Value.bool (decide_eq_false (by omega))) ?_
  skip
  repeat ((fail_if_success with_reducible show wA ..); (fail_if_success with_reducible show wB ..); go_step)
  refine wp_region_env 5 (by kernel_rfl) (by kernel_rfl) (fun _ _ d _ _ h => by cases d <;> exact h) hE9 ?_
  refine hv (fun _ hW => (v_sliceAll rfl rfl Try.underlying22 (by kernel_rfl))) ?_
  simp only [Act.put, pA, pB, pC]
  refine hv (fun _ hW => (v_sliceAll rfl rfl Try.underlying27 (by kernel_rfl))) ?_
  simp only [Act.put, pA, pB, pC]
  refine hv (fun _ hW => (v_moveT (.inl rfl) rfl)) ?_
  simp only [Act.put, pA, pB, pC]
  refine headRun_call (fun w1 => run_call rfl Try.call15) (fun w1 hW => H1.out _ _ _ hW.below ⟨_, hW.get (i := 1) rfl⟩ ⟨_, hW.get (i := 4) rfl⟩) ?_
  simp only [Act.put, pA, pB, pC]
  refine headRun_alloc (zs := ints .u8 (List.replicate 32 0)) rfl rfl (fun w => by kernel_rfl) ?_
  simp only [Act.put, pA, pB, pC]
  refine headRun_nil (endK1 ?_)
  intro g5 w10 hE10
  clear hE9
  simp only [List.drop_succ_cons, List.drop_zero, Act.put, pA, pB, pC]
  refine wl_step (st_store (i := 0) hE10 rfl rfl rfl rfl rfl (szA (n := 32)) (by first | (simp only [ints_size, digs_length, List.length_replicate, List.length_cons, List.length_nil]; done) | (simp only [ints_size, digs_length, List.length_replicate, List.length_cons, List.length_nil, List.length_set, List.length_append]; omega) | rfl) (by first | exact ints_one _ _ | decide | rfl | simp [*]) ?_)
  intro w11 hE11
  clear hE10
  simp only [pB, pC] at hE11
  simp only [Act.put, pA, pB, pC]
  repeat ((fail_if_success with_reducible show wA ..); (fail_if_success with_reducible show wB ..); go_step)
  refine wp_region_B (n := 9) 8 (by kernel_rfl) rfl hE11 ?_
  intro w12 hb12 hE12
  clear hE11
  refine wpB_take (i := 0) (by kernel_rfl) rfl (by kernel_rfl) (fun _ _ _ h => h) rfl (v_load (i := 0) hE12 rfl rfl rfl Try.underlying22 rfl (szA (n := 32))) ?_
  simp only [Act.put, pA, pB, pC]
  refine wpB_take (i := 1) (by kernel_rfl) rfl (by kernel_rfl) (fun _ _ _ h => h) rfl (v_load (i := 1) hE12 rfl rfl rfl Try.underlying43 rfl (szA (n := 20))) ?_
  simp only [Act.put, pA, pB, pC]
  refine wpB_take (i := 3) (by kernel_rfl) rfl (by kernel_rfl) (fun _ _ _ h => h) rfl (v_load (i := 3) hE12 rfl rfl rfl Try.underlying22 rfl (szA (n := 32))) ?_
  simp only [Act.put, pA, pB, pC]
  refine wpB_take (i := 6) (by kernel_rfl) rfl (by kernel_rfl) (fun _ _ _ h => h) rfl (v_load (i := 2) hE12 rfl rfl rfl Try.underlying22 rfl (szA (n := 32))) ?_
  simp only [Act.put, pA, pB, pC]
  refine wpB_step (i := 2) (by kernel_rfl) rfl (st_gives hE12 rfl (run_call rfl Try.call21) (HN.out _) ?_)
  intro w13 hb13 hE13
  clear hE12
  refine ⟨fun _ => hb13, ?_⟩
  simp only [Act.put, pA, pB, pC]
  refine wpB_step (i := 4) (by kernel_rfl) rfl (st_gives hE13 rfl (run_call rfl Try.call20) (HB.out _) ?_)
  intro w14 hb14 hE14
  clear hE13
  refine ⟨fun _ => hb14, ?_⟩
  simp only [Act.put, pA, pB, pC]
  refine wpB_step (i := 5) (by kernel_rfl) rfl (st_gives hE14 rfl (run_call rfl Try.call14) (HY.out _) ?_)
  intro w15 hb15 hE15
  clear hE14
  refine ⟨fun _ => hb15, ?_⟩
  simp only [Act.put, pA, pB, pC]
  refine wpB_take (i := 7) (by kernel_rfl) rfl (by kernel_rfl) (fun _ _ _ h => h) rfl (v_eqS32b rfl rfl rfl l2 lf) ?_
  simp only [Act.put, pA, pB, pC]
  refine wpB_step (i := 8) (by kernel_rfl) rfl (st_val rfl (v_moveT (.inr rfl) rfl) ?_)
  refine ⟨fun _ => Below.refl _ _, ?_⟩
  simp only [Act.put, pA, pB, pC]
  refine wpB_done (by kernel_rfl) ?_ _
  repeat ((fail_if_success with_reducible show wA ..); (fail_if_success with_reducible show wB ..); go_step)
  go_returns
  exact ⟨rfl, hE15.below⟩
set_option maxHeartbeats 4000000 in
theorem Verify_noS {key G : List Nat} {P : Pt} {r : Value} {w : World} (hk : key.length = 32) (dk : Digs 256 key) (hg : G.length = 64) (dg : Digs 256 G) (hP : encN P = val 256 key) (hS : ¬ val 256 (G.drop 32) < q) :
    Gives 9 #[.agg (ints .u8 key), .agg (ints .u8 G), r] w (.bool false) := by
  have HL := Lib.hid (fun w => half_lo hg w)
  have HH := Lib.hid (fun w => half_hi hg w)
  have lf : (G.take 32).length = 32 := by rw [List.length_take]; omega
  have ls : (G.drop 32).length = 32 := by rw [List.length_drop]; omega
  have dS := dg.drop 32
  have HBl := Lib.hid (fun w => Below_any (G.drop 32) ls dS w)
  rw [decide_eq_false hS] at HBl
  obtain ⟨F, hF⟩ : ∃ F, G.take 32 = F := ⟨_, rfl⟩
  obtain ⟨S, hSS⟩ : ∃ S, G.drop 32 = S := ⟨_, rfl⟩
  rw [hF] at HL lf
  rw [hSS] at HH ls HBl
  obtain ⟨c, hc, Gc⟩ := PDecode_yes hk dk hP
  have HD := Lib.hid Gc
  have lc := hc.len
  clear hc Gc hF hSS dk dg dS hP hS
  have hE0 := Env.nil w
  go_enter Try.func9, Try.ntmps9
  repeat ((fail_if_success with_reducible show wA ..); (fail_if_success with_reducible show wB ..); go_step)
  refine wl_step (st_boxA hE0 rfl rfl rfl ?_)
  intro g0 w1 hb1 hE1
  clear hE0
  simp only [Act.put, pA, pB, pC]
  refine wl_step (st_boxA hE1 rfl rfl rfl ?_)
  intro g1 w2 hb2 hE2
  clear hE1
  simp only [Act.put, pA, pB, pC]
  refine wv (v_moveC (.inr rfl)) ?_
  simp only [Act.put, pA, pB, pC]
  repeat ((fail_if_success with_reducible show wA ..); (fail_if_success with_reducible show wB ..); go_step)
  refine wp_region_env 6 (by kernel_rfl) (by kernel_rfl) (fun _ _ d _ _ h => by cases d <;> exact h) hE2 ?_
  refine hv (fun _ hW => (v_load (i := 0) hW rfl rfl rfl Try.underlying30 rfl (szA (n := 64)))) ?_
  simp only [Act.put, pA, pB, pC]
  refine headRun_call (fun w1 => run_call rfl Try.call17) (fun w1 hW => HL.out _) ?_
  simp only [Act.put, pA, pB, pC]
  refine hv (fun _ hW => (v_load (i := 0) hW rfl rfl rfl Try.underlying30 rfl (szA (n := 64)))) ?_
  simp only [Act.put, pA, pB, pC]
  refine headRun_call (fun w1 => run_call rfl Try.call17) (fun w1 hW => HH.out _) ?_
  simp only [Act.put, pA, pB, pC]
  refine headRun_alloc (zs := ints .u8 (List.replicate 32 0)) rfl rfl (fun w => by kernel_rfl) ?_
  simp only [Act.put, pA, pB, pC]
  refine headRun_alloc (zs := ints .u8 (List.replicate 32 0)) rfl rfl (fun w => by kernel_rfl) ?_
  simp only [Act.put, pA, pB, pC]
  refine headRun_nil (endK2 ?_)
  intro g2 g3 w3 hE3
  clear hE2
  simp only [List.drop_succ_cons, List.drop_zero, Act.put, pA, pB, pC]
  refine wl_step (st_store (i := 0) hE3 rfl rfl rfl rfl rfl (szA (n := 32)) (by first | (simp only [ints_size, digs_length, List.length_replicate, List.length_cons, List.length_nil]; done) | (simp only [ints_size, digs_length, List.length_replicate, List.length_cons, List.length_nil, List.length_set, List.length_append]; omega) | rfl) (by first | exact ints_one _ _ | decide | rfl | simp [*]) ?_)
  intro w4 hE4
  clear hE3
  simp only [pB, pC] at hE4
  simp only [Act.put, pA, pB, pC]
  refine wl_step (st_store (i := 1) hE4 rfl rfl rfl rfl rfl (szA (n := 32)) (by first | (simp only [ints_size, digs_length, List.length_replicate, List.length_cons, List.length_nil]; done) | (simp only [ints_size, digs_length, List.length_replicate, List.length_cons, List.length_nil, List.length_set, List.length_append]; omega) | rfl) (by first | exact ints_one _ _ | decide | rfl | simp [*]) ?_)
  intro w5 hE5
  clear hE4
  simp only [pB, pC] at hE5
  simp only [Act.put, pA, pB, pC]
  repeat ((fail_if_success with_reducible show wA ..); (fail_if_success with_reducible show wB ..); go_step)
  refine wv (v_load (i := 3) hE5 rfl rfl rfl Try.underlying27 rfl (szA (n := 32))) ?_
  simp only [Act.put, pA, pB, pC]
  refine wl_step (st_gives hE5 rfl (run_call rfl Try.call18) (HD.out _) ?_)
  intro w6 hb6 hE6
  clear hE5
  simp only [Act.put, pA, pB, pC]
  refine wv (v_moveT (.inl rfl) rfl) ?_
  simp only [Act.put, pA, pB, pC]
  refine wv (v_extract rfl rfl rfl) ?_
  simp only [Act.put, pA, pB, pC]
  refine wv (v_extract rfl rfl rfl) ?_
  simp only [Act.put, pA, pB, pC]
  refine wl_step (st_alloc (zs := ints .u64 (List.replicate 20 0)) hE6 rfl rfl (fun w => by kernel_rfl) ?_)
  intro g4 w7 hb7 hE7
  clear hE6
  simp only [Act.put, pA, pB, pC]
  refine wl_step (st_store (i := 0) hE7 rfl rfl rfl rfl rfl (szA (n := 20)) (by first | (simp only [ints_size, digs_length, List.length_replicate, List.length_cons, List.length_nil]; done) | (simp only [ints_size, digs_length, List.length_replicate, List.length_cons, List.length_nil, List.length_set, List.length_append]; omega) | rfl) (by first | exact ints_one _ _ | decide | rfl | simp [*]) ?_)
  intro w8 hE8
  clear hE7
  simp only [pB, pC] at hE8
  simp only [Act.put, pA, pB, pC]
  refine wv (v_moveT (.inr rfl) rfl) ?_
  simp only [Act.put, pA, pB, pC]
  repeat ((fail_if_success with_reducible show wA ..); (fail_if_success with_reducible show wB ..); go_step)
  refine wv (v_moveT (.inl rfl) rfl) ?_
  simp only [Act.put, pA, pB, pC]
  refine wv (v_not rfl rfl) ?_
  simp only [Act.put, pA, pB, pC]
  refine wv (v_moveT (.inl rfl) rfl) ?_
  simp only [Act.put, pA, pB, pC]
  refine wv (v_load (i := 2) hE8 rfl rfl rfl Try.underlying22 rfl (szA (n := 32))) ?_
  simp only [Act.put, pA, pB, pC]
  refine wl_step (st_gives hE8 rfl (run_call rfl Try.call19) (HBl.out _) ?_)
  intro w9 hb9 hE9
  clear hE8
  simp only [Act.put, pA, pB, pC]
  refine wv (v_not rfl rfl) ?_
  simp only [Act.put, pA, pB, pC]
  refine wv (v_or rfl rfl (fun _ => rfl)) ?_
  simp only [Act.put, pA, pB, pC]
  repeat ((fail_if_success with_reducible show wA ..); (fail_if_success with_reducible show wB ..); (fail_if_success (with_reducible show Code.wp _ (Code.cond _ _ _) _ _ _)); go_step)
  refine wp_cond_true (by first | rfl | exact congrArg Value.bool (decide_eq_true (by omega))) ?_
  skip
  repeat ((fail_if_success with_reducible show wA ..); (fail_if_success with_reducible show wB ..); go_step)
  refine wv (v_moveC (.inr rfl)) ?_
  simp only [Act.put, pA, pB, pC]
  repeat ((fail_if_success with_reducible show wA ..); (fail_if_success with_reducible show wB ..); go_step)
  go_returns
  exact ⟨rfl, hE9.below⟩
set_option maxHeartbeats 4000000 in
theorem Verify_noP {key G : List Nat} {r : Value} {w : World} (hk : key.length = 32) (dk : Digs 256 key) (hg : G.length = 64) (hP : ¬ isPt (val 256 key)) :
    Gives 9 #[.agg (ints .u8 key), .agg (ints .u8 G), r] w (.bool false) := by
  have HL := Lib.hid (fun w => half_lo hg w)
  have HH := Lib.hid (fun w => half_hi hg w)
  have lf : (G.take 32).length = 32 := by rw [List.length_take]; omega
  have ls : (G.drop 32).length = 32 := by rw [List.length_drop]; omega
  obtain ⟨F, hF⟩ : ∃ F, G.take 32 = F := ⟨_, rfl⟩
  obtain ⟨S, hSS⟩ : ∃ S, G.drop 32 = S := ⟨_, rfl⟩
  rw [hF] at HL lf
  rw [hSS] at HH ls
  have HD := Lib.hid (fun w => PDecode_no hk dk hP w)
  have lz : zeroL.length = 20 := rfl
  clear hF hSS dk hP
  have hE0 := Env.nil w
  go_enter Try.func9, Try.ntmps9
  repeat ((fail_if_success with_reducible show wA ..); (fail_if_success with_reducible show wB ..); go_step)
  refine wl_step (st_boxA hE0 rfl rfl rfl ?_)
  intro g0 w1 hb1 hE1
  clear hE0
  simp only [Act.put, pA, pB, pC]
  refine wl_step (st_boxA hE1 rfl rfl rfl ?_)
  intro g1 w2 hb2 hE2
  clear hE1
  simp only [Act.put, pA, pB, pC]
  refine wv (v_moveC (.inr rfl)) ?_
  simp only [Act.put, pA, pB, pC]
  repeat ((fail_if_success with_reducible show wA ..); (fail_if_success with_reducible show wB ..); go_step)
  refine wp_region_env 6 (by kernel_rfl) (by kernel_rfl) (fun _ _ d _ _ h => by cases d <;> exact h) hE2 ?_
  refine hv (fun _ hW => (v_load (i := 0) hW rfl rfl rfl Try.underlying30 rfl (szA (n := 64)))) ?_
  simp only [Act.put, pA, pB, pC]
  refine headRun_call (fun w1 => run_call rfl Try.call17) (fun w1 hW => HL.out _) ?_
  simp only [Act.put, pA, pB, pC]
  refine hv (fun _ hW => (v_load (i := 0) hW rfl rfl rfl Try.underlying30 rfl (szA (n := 64)))) ?_
  simp only [Act.put, pA, pB, pC]
  refine headRun_call (fun w1 => run_call rfl Try.call17) (fun w1 hW => HH.out _) ?_
  simp only [Act.put, pA, pB, pC]
  refine headRun_alloc (zs := ints .u8 (List.replicate 32 0)) rfl rfl (fun w => by kernel_rfl) ?_
  simp only [Act.put, pA, pB, pC]
  refine headRun_alloc (zs := ints .u8 (List.replicate 32 0)) rfl rfl (fun w => by kernel_rfl) ?_
  simp only [Act.put, pA, pB, pC]
  refine headRun_nil (endK2 ?_)
  intro g2 g3 w3 hE3
  clear hE2
  simp only [List.drop_succ_cons, List.drop_zero, Act.put, pA, pB, pC]
  refine wl_step (st_store (i := 0) hE3 rfl rfl rfl rfl rfl (szA (n := 32)) (by first | (simp only [ints_size, digs_length, List.length_replicate, List.length_cons, List.length_nil]; done) | (simp only [ints_size, digs_length, List.length_replicate, List.length_cons, List.length_nil, List.length_set, List.length_append]; omega) | rfl) (by first | exact ints_one _ _ | decide | rfl | simp [*]) ?_)
  intro w4 hE4
  clear hE3
  simp only [pB, pC] at hE4
  simp only [Act.put, pA, pB, pC]
  refine wl_step (st_store (i := 1) hE4 rfl rfl rfl rfl rfl (szA (n := 32)) (by first | (simp only [ints_size, digs_length, List.length_replicate, List.length_cons, List.length_nil]; done) | (simp only [ints_size, digs_length, List.length_replicate, List.length_cons, List.length_nil, List.length_set, List.length_append]; omega) | rfl) (by first | exact ints_one _ _ | decide | rfl | simp [*]) ?_)
  intro w5 hE5
  clear hE4
  simp only [pB, pC] at hE5
  simp only [Act.put, pA, pB, pC]
  repeat ((fail_if_success with_reducible show wA ..); (fail_if_success with_reducible show wB ..); go_step)
  refine wv (v_load (i := 3) hE5 rfl rfl rfl Try.underlying27 rfl (szA (n := 32))) ?_
  simp only [Act.put, pA, pB, pC]
  refine wl_step (st_gives hE5 rfl (run_call rfl Try.call18) (HD.out _) ?_)
  intro w6 hb6 hE6
  clear hE5
  simp only [Act.put, pA, pB, pC]
  refine wv (v_moveT (.inl rfl) rfl) ?_
  simp only [Act.put, pA, pB, pC]
  refine wv (v_extract rfl rfl rfl) ?_
  simp only [Act.put, pA, pB, pC]
  refine wv (v_extract rfl rfl rfl) ?_
  simp only [Act.put, pA, pB, pC]
  refine wl_step (st_alloc (zs := ints .u64 (List.replicate 20 0)) hE6 rfl rfl (fun w => by kernel_rfl) ?_)
  intro g4 w7 hb7 hE7
  clear hE6
  simp only [Act.put, pA, pB, pC]
  refine wl_step (st_store (i := 0) hE7 rfl rfl rfl rfl rfl (szA (n := 20)) (by first | (simp only [ints_size, digs_length, List.length_replicate, List.length_cons, List.length_nil]; done) | (simp only [ints_size, digs_length, List.length_replicate, List.length_cons, List.length_nil, List.length_set, List.length_append]; omega) | rfl) (by first | exact ints_one _ _ | decide | rfl | simp [*]) ?_)
  intro w8 hE8
  clear hE7
  simp only [pB, pC] at hE8
  simp only [Act.put, pA, pB, pC]
  refine wv (v_moveT (.inr rfl) rfl) ?_
  simp only [Act.put, pA, pB, pC]
  repeat ((fail_if_success with_reducible show wA ..); (fail_if_success with_reducible show wB ..); go_step)
  refine wv (v_moveT (.inl rfl) rfl) ?_
  simp only [Act.put, pA, pB, pC]
  refine wv (v_not rfl rfl) ?_
  simp only [Act.put, pA, pB, pC]
  refine wv (v_moveT (.inl rfl) rfl) ?_
  simp only [Act.put, pA, pB, pC]
  refine wl_step (st_skip rfl ?_)
  simp only [Act.put, pA, pB, pC]
  refine wl_step (st_skip rfl ?_)
  simp only [Act.put, pA, pB, pC]
  refine wl_step (st_skip rfl ?_)
  simp only [Act.put, pA, pB, pC]
  refine wv (v_orT rfl rfl) ?_
  simp only [Act.put, pA, pB, pC]
  repeat ((fail_if_success with_reducible show wA ..); (fail_if_success with_reducible show wB ..); (fail_if_success (with_reducible show Code.wp _ (Code.cond _ _ _) _ _ _)); go_step)
  refine wp_cond_true (by first | rfl | exact congrArg Value.bool (decide_eq_true (by omega))) ?_
  skip
  repeat ((fail_if_success with_reducible show wA ..); (fail_if_success with_reducible show wB ..); go_step)
  refine wv (v_moveC (.inr rfl)) ?_
  simp only [Act.put, pA, pB, pC]
  repeat ((fail_if_success with_reducible show wA ..); (fail_if_success with_reducible show wB ..); go_step)
  go_returns
  exact ⟨rfl, hE8.below⟩
set_option maxHeartbeats 4000000 in
theorem Known_yes {key : List Nat} {P : Pt} {w : World} (hk : key.length = 32) (dk : Digs 256 key) (hP : encN P = val 256 key) : Gives 10 #[.agg (ints .u8 key)] w (.bool true) := by
  obtain ⟨c, hc, Gc⟩ := PDecode_yes hk dk hP
  have HD := Lib.hid Gc
  have lc := hc.len
  clear hc Gc hP dk
  have hE0 := Env.nil w
  go_enter Try.func10, Try.ntmps10
  repeat ((fail_if_success with_reducible show wA ..); (fail_if_success with_reducible show wB ..); go_step)
  refine wl_step (st_boxA hE0 rfl rfl rfl ?_)
  intro g0 w1 hb1 hE1
  clear hE0
  simp only [Act.put, pA, pB, pC]
  refine wv (v_moveC (.inr rfl)) ?_
  simp only [Act.put, pA, pB, pC]
  repeat ((fail_if_success with_reducible show wA ..); (fail_if_success with_reducible show wB ..); go_step)
  refine wv (v_load (i := 0) hE1 rfl rfl rfl Try.underlying27 rfl (szA (n := 32))) ?_
  simp only [Act.put, pA, pB, pC]
  refine wl_step (st_gives hE1 rfl (run_call rfl Try.call18) (HD.out _) ?_)
  intro w2 hb2 hE2
  clear hE1
  simp only [Act.put, pA, pB, pC]
  refine wv (v_moveT (.inl rfl) rfl) ?_
  simp only [Act.put, pA, pB, pC]
  refine wv (v_extract rfl rfl rfl) ?_
  simp only [Act.put, pA, pB, pC]
  refine wv (v_extract rfl rfl rfl) ?_
  simp only [Act.put, pA, pB, pC]
  refine wl_step (st_alloc (zs := ints .u64 (List.replicate 20 0)) hE2 rfl rfl (fun w => by kernel_rfl) ?_)
  intro g1 w3 hb3 hE3
  clear hE2
  simp only [Act.put, pA, pB, pC]
  refine wl_step (st_store (i := 0) hE3 rfl rfl rfl rfl rfl (szA (n := 20)) (by first | (simp only [ints_size, digs_length, List.length_replicate, List.length_cons, List.length_nil]; done) | (simp only [ints_size, digs_length, List.length_replicate, List.length_cons, List.length_nil, List.length_set, List.length_append]; omega) | rfl) (by first | exact ints_one _ _ | decide | rfl | simp [*]) ?_)
  intro w4 hE4
  clear hE3
  simp only [pB, pC] at hE4
  simp only [Act.put, pA, pB, pC]
  refine wv (v_moveT (.inr rfl) rfl) ?_
  simp only [Act.put, pA, pB, pC]
  repeat ((fail_if_success with_reducible show wA ..); (fail_if_success with_reducible show wB ..); go_step)
  refine wv (v_moveT (.inl rfl) rfl) ?_
  simp only [Act.put, pA, pB, pC]
  refine wv (v_moveT (.inr rfl) rfl) ?_
  simp only [Act.put, pA, pB, pC]
  repeat ((fail_if_success with_reducible show wA ..); (fail_if_success with_reducible show wB ..); go_step)
  go_returns
  exact ⟨rfl, hE4.below⟩
set_option maxHeartbeats 4000000 in
theorem Known_no {key : List Nat} {w : World} (hk : key.length = 32) (dk : Digs 256 key) (hP : ¬ isPt (val 256 key)) : Gives 10 #[.agg (ints .u8 key)] w (.bool false) := by
  have HD := Lib.hid (fun w => PDecode_no hk dk hP w)
  have lz : zeroL.length = 20 := rfl
  clear hP dk
  have hE0 := Env.nil w
  go_enter Try.func10, Try.ntmps10
  repeat ((fail_if_success with_reducible show wA ..); (fail_if_success with_reducible show wB ..); go_step)
  refine wl_step (st_boxA hE0 rfl rfl rfl ?_)
  intro g0 w1 hb1 hE1
  clear hE0
  simp only [Act.put, pA, pB, pC]
  refine wv (v_moveC (.inr rfl)) ?_
  simp only [Act.put, pA, pB, pC]
  repeat ((fail_if_success with_reducible show wA ..); (fail_if_success with_reducible show wB ..); go_step)
  refine wv (v_load (i := 0) hE1 rfl rfl rfl Try.underlying27 rfl (szA (n := 32))) ?_
  simp only [Act.put, pA, pB, pC]
  refine wl_step (st_gives hE1 rfl (run_call rfl Try.call18) (HD.out _) ?_)
  intro w2 hb2 hE2
  clear hE1
  simp only [Act.put, pA, pB, pC]
  refine wv (v_moveT (.inl rfl) rfl) ?_
  simp only [Act.put, pA, pB, pC]
  refine wv (v_extract rfl rfl rfl) ?_
  simp only [Act.put, pA, pB, pC]
  refine wv (v_extract rfl rfl rfl) ?_
  simp only [Act.put, pA, pB, pC]
  refine wl_step (st_alloc (zs := ints .u64 (List.replicate 20 0)) hE2 rfl rfl (fun w => by kernel_rfl) ?_)
  intro g1 w3 hb3 hE3
  clear hE2
  simp only [Act.put, pA, pB, pC]
  refine wl_step (st_store (i := 0) hE3 rfl rfl rfl rfl rfl (szA (n := 20)) (by first | (simp only [ints_size, digs_length, List.length_replicate, List.length_cons, List.length_nil]; done) | (simp only [ints_size, digs_length, List.length_replicate, List.length_cons, List.length_nil, List.length_set, List.length_append]; omega) | rfl) (by first | exact ints_one _ _ | decide | rfl | simp [*]) ?_)
  intro w4 hE4
  clear hE3
  simp only [pB, pC] at hE4
  simp only [Act.put, pA, pB, pC]
  refine wv (v_moveT (.inr rfl) rfl) ?_
  simp only [Act.put, pA, pB, pC]
  repeat ((fail_if_success with_reducible show wA ..); (fail_if_success with_reducible show wB ..); go_step)
  refine wv (v_moveT (.inl rfl) rfl) ?_
  simp only [Act.put, pA, pB, pC]
  refine wv (v_moveT (.inr rfl) rfl) ?_
  simp only [Act.put, pA, pB, pC]
  repeat ((fail_if_success with_reducible show wA ..); (fail_if_success with_reducible show wB ..); go_step)
  go_returns
  exact ⟨rfl, hE4.below⟩
end Go.Proofs.Ythddoelflmoedaa
namespace Go.Proofs.Ythddoelflmoedaa
open Go.RowKit
set_option maxRecDepth 100000
set_option linter.unusedVariables false
set_option linter.unusedSimpArgs false

/-- A point's number, out of three that tell it. -/
theorem enc_of {X Y Z x y : Nat} {P : Pt} (h : RRep X Y Z P) (hx : x < pN) (hy : y < pN) (ex : x * Z % pN = X) (ey : y * Z % pN = Y) : encN P = y + 57896044618658097711785492504343953926634992332820282019728792003956564819968 * (x % 2) := by
  have e1 : kk pN x * kk pN Z = kk pN X := by rw [← kk_mul, ← ex, kk_mod]
  have e2 : kk pN y * kk pN Z = kk pN Y := by rw [← kk_mul, ← ey, kk_mod]
  have e3 : P.x = kk pN x := K_cancel h.nz (by rw [e1]; exact h.ex.symm)
  have e4 : P.y = kk pN y := K_cancel h.nz (by rw [e2]; exact h.ey.symm)
  unfold encN
  rw [e3, e4, kk_val hx, kk_val hy]
theorem enc_mul {n x y : Nat} {R : Nat × Nat × Nat} (hn : n < 2 ^ 255) (hR : rmul 255 n (bX, bY, 1) (0, 1, 1) = R) (hx : x < pN) (hy : y < pN) (ex : x * R.2.2 % pN = R.1) (ey : y * R.2.2 % pN = R.2.1) : encB (smul n baseP) = digs 256 32 (y + 57896044618658097711785492504343953926634992332820282019728792003956564819968 * (x % 2)) := by
  have h := rmul_ok 255 n (bX, bY, 1) (0, 1, 1) baseP pzero RRep_base RRep_zero hn
  rw [hR, zero_padd] at h
  unfold encB
  rw [enc_of h hx hy ex ey]

def seedL : List Nat := [157, 97, 177, 157, 239, 253, 90, 96, 186, 132, 74, 244, 146, 236, 44, 196, 68, 73, 197, 105, 123, 50, 105, 25, 112, 59, 172, 3, 28, 174, 127, 96]
theorem seed_num : numL seedL = [48, 124, 131, 134, 79, 40, 51, 203, 66, 122, 46, 241, 192, 10, 1, 60, 253, 255, 39, 104, 217, 128, 192, 163, 165, 32, 240, 6, 144, 77, 233, 79] := by decide +kernel
theorem seed_salt : saltL seedL = [155, 79, 10, 254, 40, 11, 116, 106, 119, 134, 132, 231, 84, 66, 80, 32, 87, 183, 71, 58, 3, 240, 143, 150, 245, 163, 142, 146, 135, 224, 31, 143] := by decide +kernel
theorem pub_run : rmul 255 36144925721603087658594284515452164870581325872720374094707712194495455132720 (bX, bY, 1) (0, 1, 1) = (42891156092953856219646196757070173914902329729247536150428531394153857737231, 40238852720997894038004792342339562169204889775869941600357476817758197526328, 30896317279961210703682561268244905341867035628552923123243923239452675929088) := by kernel_rfl
theorem seed_pub : pubL seedL = [215, 90, 152, 1, 130, 177, 10, 183, 213, 75, 254, 211, 201, 100, 7, 58, 14, 225, 114, 243, 218, 166, 35, 37, 175, 2, 26, 104, 247, 7, 81, 26] := by
  unfold pubL pubP
  rw [seed_num, show val 256 [48, 124, 131, 134, 79, 40, 51, 203, 66, 122, 46, 241, 192, 10, 1, 60, 253, 255, 39, 104, 217, 128, 192, 163, 165, 32, 240, 6, 144, 77, 233, 79] = 36144925721603087658594284515452164870581325872720374094707712194495455132720 by decide +kernel]
  rw [enc_mul (x := 38815646466658113194383306759739515082307681141926459231621296960732224964046) (y := 11903303657706407974989296177215005343713679411332034699907763981919547054807) (of_decide_eq_true (by kernel_rfl)) pub_run (of_decide_eq_true (by kernel_rfl)) (of_decide_eq_true (by kernel_rfl)) (by decide +kernel) (by decide +kernel)]
  decide +kernel
theorem seed_r : rL seedL [] = [243, 137, 7, 48, 140, 137, 61, 234, 242, 68, 120, 125, 180, 175, 83, 104, 34, 73, 16, 116, 24, 175, 194, 237, 197, 143, 117, 172, 88, 160, 116, 4] := by
  unfold rL
  rw [seed_salt]
  decide +kernel
theorem first_run : rmul 255 2015312323900227545039973048451112962192803170366412514267238242679089760755 (bX, bY, 1) (0, 1, 1) = (38796367227511123172783054858201293447766361162010913397680575526531899278910, 46757433471161889126743442822391694683622587082568434156850148422903761175614, 22525812474880766621810341968258277452668459365176220740209740040508546449400) := by kernel_rfl
theorem seed_first : firstL seedL [] = [229, 86, 67, 0, 195, 96, 172, 114, 144, 134, 226, 204, 128, 110, 130, 138, 132, 135, 127, 30, 184, 229, 217, 116, 216, 115, 224, 101, 34, 73, 1, 85] := by
  unfold firstL
  rw [seed_r, show val 256 [243, 137, 7, 48, 140, 137, 61, 234, 242, 68, 120, 125, 180, 175, 83, 104, 34, 73, 16, 116, 24, 175, 194, 237, 197, 143, 117, 172, 88, 160, 116, 4] = 2015312323900227545039973048451112962192803170366412514267238242679089760755 by decide +kernel]
  rw [enc_mul (x := 44370630452101398467924320556439323233869374150616132215183787387252341590058) (y := 38448863731492799660668882834560725606410712239157980760146247592118262650597) (of_decide_eq_true (by kernel_rfl)) first_run (of_decide_eq_true (by kernel_rfl)) (of_decide_eq_true (by kernel_rfl)) (by decide +kernel) (by decide +kernel)]
  decide +kernel
theorem seed_k : kL seedL [] = [134, 234, 188, 142, 76, 150, 25, 61, 41, 5, 4, 231, 198, 0, 223, 108, 248, 216, 37, 97, 49, 236, 44, 19, 138, 62, 126, 22, 46, 82, 84, 4] := by
  unfold kL
  rw [seed_first, seed_pub]
  decide +kernel
theorem seed_last : lastL seedL [] = [95, 184, 130, 21, 144, 163, 59, 172, 198, 30, 57, 112, 28, 249, 180, 107, 210, 91, 245, 240, 89, 91, 190, 36, 101, 81, 65, 67, 142, 122, 16, 11] := by
  unfold lastL
  rw [seed_k, seed_num, seed_r]
  decide +kernel
theorem seed_len : seedL.length = 32 := rfl
theorem seed_Digs : Digs 256 seedL := by unfold Digs seedL; decide
/-- What a seed signs is right. -/
theorem Verify_sig {s : List Nat} {rows : List (List Nat)} {r : Value} {w : World} (hr : RdSs .u8 rows r w) (dr : ∀ l ∈ rows, Digs 256 l) (hl : rows.flatten.length < 274877906944) (hn : rows.length < 1099511627776) :
    Gives 9 #[.agg (ints .u8 (pubL s)), .agg (ints .u8 (sigL s rows.flatten)), r] w (.bool true) := by
  have h := Verify_yes (P := pubP s) (pubL_len s) (pubL_Digs s) (sigL_len s rows.flatten) (sigL_Digs s rows.flatten) hr dr hl hn (encN_pub s) (by rw [sigL_drop]; exact lastL_lt _ _)
  rw [sigL_take, sigL_drop, sig_right, show encB (smul (val 256 (rL s rows.flatten)) baseP) = firstL s rows.flatten from rfl, decide_eq_true rfl] at h
  exact h

set_option maxHeartbeats 4000000 in
theorem awake_any (w : World) : Gives 6 #[] w (.bool true) := by
  have HP := Lib.hid (fun w => Public_any seed_len seed_Digs w)
  have HS : Hid (∀ w, Gives 8 #[.agg (ints .u8 seedL), .slice none 0 0] w (.agg (ints .u8 (sigL seedL [])))) := Lib.hid (fun w => Sign_any (rows := []) seed_len seed_Digs (RdSs.nil _ _) (fun l h => by cases h) (by decide) (by decide))
  have HV : Hid (∀ w, Gives 9 #[.agg (ints .u8 (pubL seedL)), .agg (ints .u8 (sigL seedL [])), .slice none 0 0] w (.bool true)) := Lib.hid (fun w => Verify_sig (rows := []) (RdSs.nil _ _) (fun l h => by cases h) (by decide) (by decide))
  have l1 := pubL_len seedL
  have l2 := sigL_len seedL []
  have ls := seed_len
  have p0 : (pubL seedL).getD 0 0 = 215 := by rw [seed_pub]; rfl
  have p1 : (pubL seedL).getD 31 0 = 26 := by rw [seed_pub]; rfl
  have s0 : (sigL seedL []).getD 0 0 = 229 := by unfold sigL; rw [seed_first]; rfl
  have s1 : (sigL seedL []).getD 63 0 = 11 := by unfold sigL; rw [seed_first, seed_last]; rfl
  obtain ⟨P, hP⟩ : ∃ P, pubL seedL = P := ⟨_, rfl⟩
  obtain ⟨S, hS⟩ : ∃ S, sigL seedL [] = S := ⟨_, rfl⟩
  rw [hP] at HP HV l1 p0 p1
  rw [hS] at HS HV l2 s0 s1
  have P0 := Lib.hid p0
  have P1 := Lib.hid p1
  have S0 := Lib.hid s0
  have S1 := Lib.hid s1
  clear hP hS p0 p1 s0 s1
  have hE0 := Env.nil w
  go_enter Try.func6, Try.ntmps6
  repeat ((fail_if_success with_reducible show wA ..); (fail_if_success with_reducible show wB ..); go_step)
  refine wv (v_moveC (.inr rfl)) ?_
  simp only [Act.put, pA, pB, pC]
  repeat ((fail_if_success with_reducible show wA ..); (fail_if_success with_reducible show wB ..); go_step)
  refine wv (v_built (k := .u8) (l := seedL) rfl (fun w => by kernel_rfl)) ?_
  simp only [Act.put, pA, pB, pC]
  refine wl_step (st_alloc (zs := ints .u8 (List.replicate 32 0)) hE0 rfl rfl (fun w => by kernel_rfl) ?_)
  intro g0 w1 hb1 hE1
  clear hE0
  simp only [Act.put, pA, pB, pC]
  refine wl_step (st_store (i := 0) hE1 rfl rfl rfl rfl rfl (szA (n := 32)) (by first | (simp only [ints_size, digs_length, List.length_replicate, List.length_cons, List.length_nil]; done) | (simp only [ints_size, digs_length, List.length_replicate, List.length_cons, List.length_nil, List.length_set, List.length_append]; omega) | rfl) (by first | exact ints_one _ _ | decide | rfl | simp [*]) ?_)
  intro w2 hE2
  clear hE1
  simp only [pB, pC] at hE2
  simp only [Act.put, pA, pB, pC]
  repeat ((fail_if_success with_reducible show wA ..); (fail_if_success with_reducible show wB ..); go_step)
  refine wv (v_load (i := 0) hE2 rfl rfl rfl Try.underlying23 rfl (szA (n := 32))) ?_
  simp only [Act.put, pA, pB, pC]
  refine wl_step (st_gives hE2 rfl (run_call rfl Try.call7) (HP.out _) ?_)
  intro w3 hb3 hE3
  clear hE2
  simp only [Act.put, pA, pB, pC]
  refine wl_step (st_alloc (zs := ints .u8 (List.replicate 32 0)) hE3 rfl rfl (fun w => by kernel_rfl) ?_)
  intro g1 w4 hb4 hE4
  clear hE3
  simp only [Act.put, pA, pB, pC]
  refine wl_step (st_store (i := 0) hE4 rfl rfl rfl rfl rfl (szA (n := 32)) (by first | (simp only [ints_size, digs_length, List.length_replicate, List.length_cons, List.length_nil]; done) | (simp only [ints_size, digs_length, List.length_replicate, List.length_cons, List.length_nil, List.length_set, List.length_append]; omega) | rfl) (by first | exact ints_one _ _ | decide | rfl | simp [*]) ?_)
  intro w5 hE5
  clear hE4
  simp only [pB, pC] at hE5
  simp only [Act.put, pA, pB, pC]
  repeat ((fail_if_success with_reducible show wA ..); (fail_if_success with_reducible show wB ..); go_step)
  refine wv (v_load (i := 1) hE5 rfl rfl rfl Try.underlying23 rfl (szA (n := 32))) ?_
  simp only [Act.put, pA, pB, pC]
  refine wl_step (st_gives hE5 rfl (run_call rfl Try.call8) (HS.out _) ?_)
  intro w6 hb6 hE6
  clear hE5
  simp only [Act.put, pA, pB, pC]
  refine wl_step (st_alloc (zs := ints .u8 (List.replicate 64 0)) hE6 rfl rfl (fun w => by kernel_rfl) ?_)
  intro g2 w7 hb7 hE7
  clear hE6
  simp only [Act.put, pA, pB, pC]
  refine wl_step (st_store (i := 0) hE7 rfl rfl rfl rfl rfl (szA (n := 64)) (by first | (simp only [ints_size, digs_length, List.length_replicate, List.length_cons, List.length_nil]; done) | (simp only [ints_size, digs_length, List.length_replicate, List.length_cons, List.length_nil, List.length_set, List.length_append]; omega) | rfl) (by first | exact ints_one _ _ | decide | rfl | simp [*]) ?_)
  intro w8 hE8
  clear hE7
  simp only [pB, pC] at hE8
  simp only [Act.put, pA, pB, pC]
  repeat ((fail_if_success with_reducible show wA ..); (fail_if_success with_reducible show wB ..); go_step)
  refine wv (v_indexA0 (j := 0) rfl rfl rfl Try.underlying27 (by kernel_rfl) (by first | assumption | omega)) ?_
  simp only [Act.put, pA, pB, pC]
  refine wv (v_cell rfl rfl Try.underlying5 rfl (Env.cellv (i := 1) hE8 rfl (ints_get? _ _ _ (by first | assumption | omega | (simp; done) | (simp; omega))))) ?_
  simp only [Act.put, pA, pB, pC]
  rw [P0.out]
  refine wv (v_eql (n := 215) rfl rfl rfl) ?_
  simp only [Act.put, pA, pB, pC]
  refine wv (v_moveT (.inl rfl) rfl) ?_
  simp only [Act.put, pA, pB, pC]
  refine wv (v_indexA0 (j := 31) rfl rfl rfl Try.underlying27 (by kernel_rfl) (by first | assumption | omega)) ?_
  simp only [Act.put, pA, pB, pC]
  refine wv (v_cell rfl rfl Try.underlying5 rfl (Env.cellv (i := 1) hE8 rfl (ints_get? _ _ _ (by first | assumption | omega | (simp; done) | (simp; omega))))) ?_
  simp only [Act.put, pA, pB, pC]
  rw [P1.out]
  refine wv (v_eql (n := 26) rfl rfl rfl) ?_
  simp only [Act.put, pA, pB, pC]
  refine wv (v_and rfl rfl (fun _ => rfl)) ?_
  simp only [Act.put, pA, pB, pC]
  refine wv (v_moveT (.inl rfl) rfl) ?_
  simp only [Act.put, pA, pB, pC]
  refine wv (v_indexA0 (j := 0) rfl rfl rfl Try.underlying30 (by kernel_rfl) (by first | assumption | omega)) ?_
  simp only [Act.put, pA, pB, pC]
  refine wv (v_cell rfl rfl Try.underlying5 rfl (Env.cellv (i := 0) hE8 rfl (ints_get? _ _ _ (by first | assumption | omega | (simp; done) | (simp; omega))))) ?_
  simp only [Act.put, pA, pB, pC]
  rw [S0.out]
  refine wv (v_eql (n := 229) rfl rfl rfl) ?_
  simp only [Act.put, pA, pB, pC]
  refine wv (v_and rfl rfl (fun _ => rfl)) ?_
  simp only [Act.put, pA, pB, pC]
  refine wv (v_moveT (.inl rfl) rfl) ?_
  simp only [Act.put, pA, pB, pC]
  refine wv (v_indexA0 (j := 63) rfl rfl rfl Try.underlying30 (by kernel_rfl) (by first | assumption | omega)) ?_
  simp only [Act.put, pA, pB, pC]
  refine wv (v_cell rfl rfl Try.underlying5 rfl (Env.cellv (i := 0) hE8 rfl (ints_get? _ _ _ (by first | assumption | omega | (simp; done) | (simp; omega))))) ?_
  simp only [Act.put, pA, pB, pC]
  rw [S1.out]
  refine wv (v_eql (n := 11) rfl rfl rfl) ?_
  simp only [Act.put, pA, pB, pC]
  refine wv (v_and rfl rfl (fun _ => rfl)) ?_
  simp only [Act.put, pA, pB, pC]
  refine wv (v_moveT (.inl rfl) rfl) ?_
  simp only [Act.put, pA, pB, pC]
  refine wv (v_load (i := 1) hE8 rfl rfl rfl Try.underlying27 rfl (szA (n := 32))) ?_
  simp only [Act.put, pA, pB, pC]
  refine wv (v_load (i := 0) hE8 rfl rfl rfl Try.underlying30 rfl (szA (n := 64))) ?_
  simp only [Act.put, pA, pB, pC]
  refine wl_step (st_gives hE8 rfl (run_call rfl Try.call9) (HV.out _) ?_)
  intro w9 hb9 hE9
  clear hE8
  simp only [Act.put, pA, pB, pC]
  refine wv (v_and rfl rfl (fun _ => rfl)) ?_
  simp only [Act.put, pA, pB, pC]
  refine wv (v_moveT (.inr rfl) rfl) ?_
  simp only [Act.put, pA, pB, pC]
  repeat ((fail_if_success with_reducible show wA ..); (fail_if_success with_reducible show wB ..); go_step)
  go_returns
  exact ⟨rfl, hE9.below⟩
end Go.Proofs.Ythddoelflmoedaa
namespace Go.Proofs.Ythddoelflmoedaa
open Go.RowKit
set_option maxRecDepth 100000
set_option linter.unusedVariables false
section
variable {P : Program} {ops : Array Oper} {Q : Exit → Act → World → Prop} {m : Nat}
theorem wpB_step3 {i j k n : Nat} {o1 o2 o3 : Oper} {L : Array Bool} {a : Act} {w : World} {t1 t2 t3 : List Oper} (hr : Region.ready .any ops L = [i, j, k]) (h1 : ops.toList.drop i = o1 :: t1) (h2 : ops.toList.drop j = o2 :: t2) (h3 : ops.toList.drop k = o3 :: t3)
    (k1 : Step P ops Q o1 (fun a' w' => (i < m → Below w.heap.size w w') ∧ wpB P ops Q m n (L.setIfInBounds i true) a' w') a w)
    (k2 : Step P ops Q o2 (fun a' w' => (j < m → Below w.heap.size w w') ∧ wpB P ops Q m n (L.setIfInBounds j true) a' w') a w)
    (k3 : Step P ops Q o3 (fun a' w' => (k < m → Below w.heap.size w w') ∧ wpB P ops Q m n (L.setIfInBounds k true) a' w') a w) : wpB P ops Q m (n + 1) L a w :=
  ⟨fun h0 => (by rw [h0] at hr; cases hr), fun x hx => by
    rw [hr] at hx
    simp only [List.mem_cons, List.not_mem_nil, or_false] at hx
    rcases hx with rfl | rfl | rfl
    · exact wpB_of_step (drop_get h1) k1
    · exact wpB_of_step (drop_get h2) k2
    · exact wpB_of_step (drop_get h3) k3⟩
theorem wpB_step4 {i j k l n : Nat} {o1 o2 o3 o4 : Oper} {L : Array Bool} {a : Act} {w : World} {t1 t2 t3 t4 : List Oper} (hr : Region.ready .any ops L = [i, j, k, l]) (h1 : ops.toList.drop i = o1 :: t1) (h2 : ops.toList.drop j = o2 :: t2) (h3 : ops.toList.drop k = o3 :: t3) (h4 : ops.toList.drop l = o4 :: t4)
    (k1 : Step P ops Q o1 (fun a' w' => (i < m → Below w.heap.size w w') ∧ wpB P ops Q m n (L.setIfInBounds i true) a' w') a w)
    (k2 : Step P ops Q o2 (fun a' w' => (j < m → Below w.heap.size w w') ∧ wpB P ops Q m n (L.setIfInBounds j true) a' w') a w)
    (k3 : Step P ops Q o3 (fun a' w' => (k < m → Below w.heap.size w w') ∧ wpB P ops Q m n (L.setIfInBounds k true) a' w') a w)
    (k4 : Step P ops Q o4 (fun a' w' => (l < m → Below w.heap.size w w') ∧ wpB P ops Q m n (L.setIfInBounds l true) a' w') a w) : wpB P ops Q m (n + 1) L a w :=
  ⟨fun h0 => (by rw [h0] at hr; cases hr), fun x hx => by
    rw [hr] at hx
    simp only [List.mem_cons, List.not_mem_nil, or_false] at hx
    rcases hx with rfl | rfl | rfl | rfl
    · exact wpB_of_step (drop_get h1) k1
    · exact wpB_of_step (drop_get h2) k2
    · exact wpB_of_step (drop_get h3) k3
    · exact wpB_of_step (drop_get h4) k4⟩
theorem wpB_firstU {i : Nat} {oi : Oper} {v : Value} (hi : ops[i]? = some oi) (hsl : Region.noSelect ops = true)
    (hQ : ∀ c a w, Q (.panic c) (a.put oi.dst v) w → Q (.panic c) a w) :
    ∀ (n : Nat) (L : Array Bool) (a : Act) (w : World), L.size = ops.size → Closed ops (fun i => L.getD i false) →
      (∀ j oj, ops[j]? = some oj → j ≠ i → L.getD j true = false → (∀ e ∈ oj.after, Region.binds .any e = true → e.on ≠ i) → oi.apart ops oj = true) →
      i ∈ Region.ready .any ops L → YieldsIf P ops (fun _ => True) oi v a →
      wpB P ops Q m n (L.setIfInBounds i true) (a.put oi.dst v) w → wpB P ops Q m (n + 1) L a w := by
  have hsel := Region.noSelect_spec hsl
  have now : ∀ (n : Nat) (L : Array Bool) (a : Act) (w : World), YieldsIf P ops (fun _ => True) oi v a → wpB P ops Q m n (L.setIfInBounds i true) (a.put oi.dst v) w →
      wpOp P ops Q i (fun a' w' => (i < m → Below w.heap.size w w') ∧ wpB P ops Q m n (L.setIfInBounds i true) a' w') a w := fun n L a w hy H =>
    hy.wpOp hi trivial ⟨fun _ => Below.refl _ _, H⟩
  intro n
  induction n with
  | zero =>
    intro L a w _ _ _ hr hy H
    refine ⟨fun h => (by rw [h] at hr; cases hr), fun j hj => ?_⟩
    by_cases hji : j = i
    · subst hji; exact now _ _ _ _ hy H
    · have := ready_mono hj hji
      rw [H.1] at this
      cases this
  | succ n ih =>
    intro L a w hs hcl hfree hr hy H
    refine ⟨fun h => (by rw [h] at hr; cases hr), fun j hj => ?_⟩
    by_cases hji : j = i
    · subst hji; exact now _ _ _ _ hy H
    · obtain ⟨hj1, hj2, oj, hoj, hjall⟩ := ready_spec hj hs
      obtain ⟨hi1, hi2, oi', hoi', hiall⟩ := ready_spec hr hs
      have h1 := H.2 j (ready_mono hj hji)
      obtain ⟨hjun, _⟩ := mem_ready.1 hj
      have hnot : ∀ e ∈ oj.after, Region.binds .any e = true → e.on ≠ i := fun e he hb heq => by
        have h1 := hjall e he hb
        rw [heq, hi2] at h1
        cases h1
      have h2 := wpOp_putIf hoj (hfree j oj hoj hji hjun hnot) (fun cs b => hsel i oi cs b hi) (fun cs b => hsel j oj cs b hoj) hQ hy h1
      have hfree' : ∀ k ok, ops[k]? = some ok → k ≠ i → (L.setIfInBounds j true).getD k true = false →
          (∀ e ∈ ok.after, Region.binds .any e = true → e.on ≠ i) → oi.apart ops ok = true := fun k ok hk hki hun hno => by
        refine hfree k ok hk hki ?_ hno
        by_cases hjk : j = k
        · subst hjk; exact hjun
        · rw [getD_set_ne true hjk] at hun; exact hun
      refine wpOp_mono (fun a' w' h3 => ?_) h2
      refine ⟨h3.2.1, ih (L.setIfInBounds j true) a' w' (by simp [hs]) (Inv.closed' hs hcl hj1 hoj hjall) hfree' (ready_mono hr (Ne.symm hji)) h3.1 ?_⟩
      rw [Array.setIfInBounds_comm _ _ hji]
      exact h3.2.2
def takeOkU (ops : Array Oper) (L : Array Bool) (i : Nat) : Bool :=
  Region.noSelect ops && closedB ops L && Region.free .any ops L i && (Region.ready .any ops L).contains i
/-- What reads no memory may be taken first, whatever the others write. -/
theorem wpB_takeU {i n : Nat} {oi : Oper} {v : Value} {L : Array Bool} {a : Act} {w : World} {tl : List Oper} (hi' : ops.toList.drop i = oi :: tl) (hok : takeOkU ops L i = true)
    (hQ : ∀ c a w, Q (.panic c) (a.put oi.dst v) w → Q (.panic c) a w) (hw : Region.wanted oi (yielded ops a.tmps) = true) (h : ∀ w1, Val P oi a v w1)
    (k : wpB P ops Q m n (L.setIfInBounds i true) (a.put oi.dst v) w) : wpB P ops Q m (n + 1) L a w := by
  have hi := drop_get hi'
  unfold takeOkU at hok
  simp only [Bool.and_eq_true] at hok
  obtain ⟨⟨⟨h1, h2⟩, h3⟩, h4⟩ := hok
  obtain ⟨h5, h6⟩ := closedB_spec h2
  exact wpB_firstU hi h1 hQ n L a w h5 h6 (Region.free_spec hi h3) (by simpa using h4) (.inl ⟨hw, fun w1 _ => h w1 w1 (Below.refl _ _)⟩) k
/-- All ways end at one place: what follows is shown once. -/
theorem wp_region_C {id n : Nat} {a : Act} {w w0 : World} {l : List Blk} {A : Nat → Nat → Nat → Act} (EE : Nat → Nat → Nat → List Blk) (m : Nat) (hf : P.follows .mixedOrders = true) (hn : ops.size = n) (hE : Env w0 l w)
    (h : (∀ g1 g2 g3 w', Env w0 (EE g1 g2 g3) w' → Q .normal (A g1 g2 g3) w') → ∀ w1, Below w.heap.size w w1 → Env w0 l w1 → wpB P ops Q m n (Array.replicate n false) a w1)
    (hc : ∀ g1 g2 g3 w', Env w0 (EE g1 g2 g3) w' → Q .normal (A g1 g2 g3) w') : (Code.region id ops true).wp P Q a w :=
  wp_region_B m hf hn hE (h hc)
end
end Go.Proofs.Ythddoelflmoedaa
