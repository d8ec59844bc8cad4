/-
  Layer 5, the document's answer: what it tells: product and sum, a number modulo the order, whether one is below it.
-/
import Derived.Test.YtobfgleckcpcpaaRefG
import Derived.Test.YtobfgleckcpcpaaStep
namespace Go.Proofs.Ytobfgleckcpcpaa
open Go.RowKit
set_option linter.unusedVariables false
set_option linter.unusedSimpArgs false

theorem mul_rd {w0 w : World} {g n : Nat} {l : List Nat} {T : TypeId} {r : List Blk} (hE : Env w0 (⟨g, T, ints .i64 l⟩ :: r) w) (hl : l.length = n) : Rd l (.slice (some ⟨g, 0, none⟩) n n) w := by
  subst hl
  exact .inr ⟨g, _, ints .i64 l, T, rfl, hE.get (i := 0) rfl, List.take_of_length_le (by simp [ints])⟩

theorem dig_any {a : List Nat} {n g : Nat} {T : TypeId} {w : World} (ha : a.length = n) (da : Digs 256 a) (hg : w.heap[g]? = some (.cells (ints .u8 a) T (0, 0))) (hn : n ≤ 65536 := by decide) :
    Calls Try.prog 26 #[.slice (some ⟨g, 0, none⟩) n n] w fun e w' => ∃ v l, e = .returned v ∧ Sl w [] 3 (nums l) v w' ∧ l = a :=
  (Digits_any g a T n ha hn da w hg).mono fun e w' ⟨v, h1, h2⟩ => ⟨v, a, h1, h2, rfl⟩
theorem bytes_of {l : List Nat} {p : Option Addr} {n m cap : Nat} {w : World} (h : Rd l (.slice p n cap) w) (dl : Digs 256 l) (hm : m ≤ 65536) (hn : l.length = m) : Gives 22 #[.slice p n cap] w (.agg (ints .u8 (digs 256 32 (val 256 l)))) :=
  Bytes_any h dl (by omega)

set_option maxHeartbeats 1000000 in
theorem rMulAdd_any (a b c : List Nat) (ha : a.length = 32) (hb : b.length = 32) (hc : c.length = 32) (da : Digs 256 a) (db : Digs 256 b) (dc : Digs 256 c) (w : World) :
    Gives 9 #[.agg (ints .u8 a), .agg (ints .u8 b), .agg (ints .u8 c)] w (.agg (ints .u8 (digs 256 32 ((val 256 a * val 256 b + val 256 c) % q)))) := by
  have hE0 := Env.nil w
  go_enter Try.func9, Try.ntmps9
  repeat ((fail_if_success (with_reducible show wpList _ _ _ (List.cons _ _) _ _)); (fail_if_success (with_reducible show Code.wp _ (Code.region _ _ true) _ _ _)); go_step)
  refine wl_step (st_boxA hE0 rfl rfl rfl ?_)
  intro g0 w1 hb1 hE1
  clear hE0
  simp only [Act.put, List.setIfInBounds_toArray, List.set_cons_zero, List.set_cons_succ]
  refine wl_step (st_boxA hE1 rfl rfl rfl ?_)
  intro g1 w2 hb2 hE2
  clear hE1
  simp only [Act.put, List.setIfInBounds_toArray, List.set_cons_zero, List.set_cons_succ]
  refine wl_step (st_boxA hE2 rfl rfl rfl ?_)
  intro g2 w3 hb3 hE3
  clear hE2
  simp only [Act.put, List.setIfInBounds_toArray, List.set_cons_zero, List.set_cons_succ]
  refine wl_step (st_alloc (zs := ints .u8 (List.replicate 32 0)) hE3 rfl rfl (fun w => by kernel_rfl) ?_)
  intro g3 w4 hb4 hE4
  clear hE3
  simp only [Act.put, List.setIfInBounds_toArray, List.set_cons_zero, List.set_cons_succ]
  repeat ((fail_if_success (with_reducible show wpList _ _ _ (List.cons _ _) _ _)); (fail_if_success (with_reducible show Code.wp _ (Code.region _ _ true) _ _ _)); go_step)
  refine wp_region_B (n := 11) 10 (by kernel_rfl) rfl hE4 ?_
  intro w5 hb5 hE5
  clear hE4
  refine wpB_take (i := 0) (by kernel_rfl) rfl (by kernel_rfl) (fun _ _ _ h => h) rfl (v_sliceAll rfl rfl Try.underlying22 (by kernel_rfl)) ?_
  simp only [Act.put, List.setIfInBounds_toArray, List.set_cons_zero, List.set_cons_succ]
  refine wpB_take (i := 2) (by kernel_rfl) rfl (by kernel_rfl) (fun _ _ _ h => h) rfl (v_sliceAll rfl rfl Try.underlying22 (by kernel_rfl)) ?_
  simp only [Act.put, List.setIfInBounds_toArray, List.set_cons_zero, List.set_cons_succ]
  refine wpB_take (i := 5) (by kernel_rfl) rfl (by kernel_rfl) (fun _ _ _ h => h) rfl (v_sliceAll rfl rfl Try.underlying22 (by kernel_rfl)) ?_
  simp only [Act.put, List.setIfInBounds_toArray, List.set_cons_zero, List.set_cons_succ]
  refine wpB_step (i := 1) (by kernel_rfl) rfl (st_calls rfl (run_call rfl Try.call26) (dig_any ha da (hE5.get (i := 3) rfl)) ?_)
  rintro _ w6 ⟨va, la, rfl, hSa, ela⟩
  have hb6 := hSa.env.below
  have hE6 := hE5.call hb6
  have ra := hSa.rd
  subst ela
  refine ⟨_, rfl, ?_⟩
  clear hE5
  refine ⟨fun _ => hb6, ?_⟩
  simp only [Act.put, List.setIfInBounds_toArray, List.set_cons_zero, List.set_cons_succ]
  refine wpB_step (i := 3) (by kernel_rfl) rfl (st_calls rfl (run_call rfl Try.call26) (dig_any hb db (hE6.get (i := 2) rfl)) ?_)
  rintro _ w7 ⟨vb, lb, rfl, hSb, elb⟩
  have hb7 := hSb.env.below
  have hE7 := hE6.call hb7
  have rb := hSb.rd
  replace ra := ra.below hb7
  subst elb
  refine ⟨_, rfl, ?_⟩
  clear hE6
  refine ⟨fun _ => hb7, ?_⟩
  simp only [Act.put, List.setIfInBounds_toArray, List.set_cons_zero, List.set_cons_succ]
  refine wpB_step (i := 4) (by kernel_rfl) rfl (st_calls rfl (run_call rfl Try.call25) (Mul_any ra rb da db (by omega) (by omega)) ?_)
  rintro _ w8 ⟨gm, lm, rfl, hEm, hlm, dm, vm⟩
  have hb8 := hEm.below
  have hE8 := hE7.call hb8
  have rm := mul_rd hEm hlm
  refine ⟨_, rfl, ?_⟩
  clear hE7
  refine ⟨fun _ => hb8, ?_⟩
  simp only [Act.put, List.setIfInBounds_toArray, List.set_cons_zero, List.set_cons_succ]
  refine wpB_step (i := 6) (by kernel_rfl) rfl (st_calls rfl (run_call rfl Try.call26) (dig_any hc dc (hE8.get (i := 1) rfl)) ?_)
  rintro _ w9 ⟨vc, lc, rfl, hSc, elc⟩
  have hb9 := hSc.env.below
  have hE9 := hE8.call hb9
  have rc := hSc.rd
  replace rm := rm.below hb9
  subst elc
  refine ⟨_, rfl, ?_⟩
  clear hE8
  refine ⟨fun _ => hb9, ?_⟩
  simp only [Act.put, List.setIfInBounds_toArray, List.set_cons_zero, List.set_cons_succ]
  refine wpB_step (i := 7) (by kernel_rfl) rfl (st_calls rfl (run_call rfl Try.call24) (Add_any rm rc dm dc (by omega) (by omega)) ?_)
  rintro _ w10 ⟨vs, ls, rfl, hSs, ds, vsum, hls, hls'⟩
  have hb10 := hSs.env.below
  have hE10 := hE9.call hb10
  have rs := hSs.rd
  refine ⟨_, rfl, ?_⟩
  clear hE9
  refine ⟨fun _ => hb10, ?_⟩
  simp only [Act.put, List.setIfInBounds_toArray, List.set_cons_zero, List.set_cons_succ]
  have hls2 : ls.length ≤ 65000 := by omega
  have hls3 : 0 < ls.length := by omega
  have hcall := Rest_any rs ds hls3 hls2
  refine wpB_step (i := 8) (by kernel_rfl) rfl (st_calls rfl (run_call rfl Try.call23) (hcall) ?_)
  rintro _ w11 ⟨gr, cap, cs, lr, rfl, hEr, htk, hlr, dr, vr⟩
  have hb11 := hEr.below
  have hE11 := hE10.call hb11
  have rr := env_rd (cap := cap) hEr htk hlr
  refine ⟨_, rfl, ?_⟩
  clear hE10
  refine ⟨fun _ => hb11, ?_⟩
  simp only [Act.put, List.setIfInBounds_toArray, List.set_cons_zero, List.set_cons_succ]
  refine wpB_step (i := 9) (by kernel_rfl) rfl (st_gives hE11 rfl (run_call rfl Try.call22) (bytes_of rr dr (by omega) hlr) ?_)
  intro w12 hb12 hE12
  clear hE11
  refine ⟨fun _ => hb12, ?_⟩
  simp only [Act.put, List.setIfInBounds_toArray, List.set_cons_zero, List.set_cons_succ]
  refine wpB_step (i := 10) (by kernel_rfl) rfl (st_store (i := 0) hE12 rfl rfl rfl rfl rfl (sz_of (n := 32) (by kernel_rfl) (by first | (simp only [ints_size, digs_length, List.length_replicate, List.length_cons, List.length_nil]; done) | (simp only [ints_size, digs_length, List.length_replicate, List.length_cons, List.length_nil, List.length_set, List.length_append]; omega) | rfl)) (by first | (simp only [ints_size, digs_length, List.length_replicate, List.length_cons, List.length_nil]; done) | (simp only [ints_size, digs_length, List.length_replicate, List.length_cons, List.length_nil, List.length_set, List.length_append]; omega) | rfl) (by first | exact ints_one _ _ | decide | simp [*]) ?_)
  intro w13 hE13
  clear hE12
  simp only [List.set_cons_zero, List.set_cons_succ] at hE13
  refine ⟨fun h => absurd h (by decide), ?_⟩
  simp only [Act.put, List.setIfInBounds_toArray, List.set_cons_zero, List.set_cons_succ]
  refine wpB_done (by kernel_rfl) ?_ _
  repeat ((fail_if_success (with_reducible show wpList _ _ _ (List.cons _ _) _ _)); (fail_if_success (with_reducible show Code.wp _ (Code.region _ _ true) _ _ _)); go_step)
  refine bodyPost_ret (results_cell_row rfl _ _ _ _ _ (0, 0) _ rfl (hE13.get (i := 0) rfl) Try.underlying22 rfl (sz_of (n := 32) (by kernel_rfl) (by first | (simp only [ints_size, digs_length, List.length_replicate, List.length_cons, List.length_nil]; done) | (simp only [ints_size, digs_length, List.length_replicate, List.length_cons, List.length_nil, List.length_set, List.length_append]; omega) | rfl))) rfl ⟨by rw [vr, vsum, vm], hE13.below⟩

set_option maxHeartbeats 1000000 in
theorem rReduce_any (a : List Nat) (ha : a.length = 64) (da : Digs 256 a) (w : World) :
    Gives 12 #[.agg (ints .u8 a)] w (.agg (ints .u8 (digs 256 32 (val 256 a % q)))) := by
  have hE0 := Env.nil w
  go_enter Try.func12, Try.ntmps12
  repeat ((fail_if_success (with_reducible show wpList _ _ _ (List.cons _ _) _ _)); (fail_if_success (with_reducible show Code.wp _ (Code.region _ _ true) _ _ _)); go_step)
  refine wl_step (st_boxA hE0 rfl rfl rfl ?_)
  intro g0 w1 hb1 hE1
  clear hE0
  simp only [Act.put, List.setIfInBounds_toArray, List.set_cons_zero, List.set_cons_succ]
  refine wl_step (st_alloc (zs := ints .u8 (List.replicate 32 0)) hE1 rfl rfl (fun w => by kernel_rfl) ?_)
  intro g1 w2 hb2 hE2
  clear hE1
  simp only [Act.put, List.setIfInBounds_toArray, List.set_cons_zero, List.set_cons_succ]
  repeat ((fail_if_success (with_reducible show wpList _ _ _ (List.cons _ _) _ _)); (fail_if_success (with_reducible show Code.wp _ (Code.region _ _ true) _ _ _)); go_step)
  refine wl_step (st_val rfl (v_sliceAll rfl rfl Try.underlying26 (by kernel_rfl)) ?_)
  simp only [Act.put, List.setIfInBounds_toArray, List.set_cons_zero, List.set_cons_succ]
  refine wl_step (st_calls rfl (run_call rfl Try.call26) (dig_any ha da (hE2.get (i := 1) rfl)) ?_)
  rintro _ w3 ⟨va, la, rfl, hSa, ela⟩
  have hb3 := hSa.env.below
  have hE3 := hE2.call hb3
  have ra := hSa.rd
  subst ela
  refine ⟨_, rfl, ?_⟩
  clear hE2
  simp only [Act.put, List.setIfInBounds_toArray, List.set_cons_zero, List.set_cons_succ]
  refine wl_step (st_calls rfl (run_call rfl Try.call23) (Rest_any ra da (by omega) (by omega)) ?_)
  rintro _ w4 ⟨gr, cap, cs, lr, rfl, hEr, htk, hlr, dr, vr⟩
  have hb4 := hEr.below
  have hE4 := hE3.call hb4
  have rr := env_rd (cap := cap) hEr htk hlr
  refine ⟨_, rfl, ?_⟩
  clear hE3
  simp only [Act.put, List.setIfInBounds_toArray, List.set_cons_zero, List.set_cons_succ]
  refine wl_step (st_gives hE4 rfl (run_call rfl Try.call22) (bytes_of rr dr (by omega) hlr) ?_)
  intro w5 hb5 hE5
  clear hE4
  simp only [Act.put, List.setIfInBounds_toArray, List.set_cons_zero, List.set_cons_succ]
  refine wl_step (st_store (i := 0) hE5 rfl rfl rfl rfl rfl (sz_of (n := 32) (by kernel_rfl) (by first | (simp only [ints_size, digs_length, List.length_replicate, List.length_cons, List.length_nil]; done) | (simp only [ints_size, digs_length, List.length_replicate, List.length_cons, List.length_nil, List.length_set, List.length_append]; omega) | rfl)) (by first | (simp only [ints_size, digs_length, List.length_replicate, List.length_cons, List.length_nil]; done) | (simp only [ints_size, digs_length, List.length_replicate, List.length_cons, List.length_nil, List.length_set, List.length_append]; omega) | rfl) (by first | exact ints_one _ _ | decide | simp [*]) ?_)
  intro w6 hE6
  clear hE5
  simp only [List.set_cons_zero, List.set_cons_succ] at hE6
  simp only [Act.put, List.setIfInBounds_toArray, List.set_cons_zero, List.set_cons_succ]
  repeat ((fail_if_success (with_reducible show wpList _ _ _ (List.cons _ _) _ _)); (fail_if_success (with_reducible show Code.wp _ (Code.region _ _ true) _ _ _)); go_step)
  refine bodyPost_ret (results_cell_row rfl _ _ _ _ _ (0, 0) _ rfl (hE6.get (i := 0) rfl) Try.underlying22 rfl (sz_of (n := 32) (by kernel_rfl) (by first | (simp only [ints_size, digs_length, List.length_replicate, List.length_cons, List.length_nil]; done) | (simp only [ints_size, digs_length, List.length_replicate, List.length_cons, List.length_nil, List.length_set, List.length_append]; omega) | rfl))) rfl ⟨by rw [vr], hE6.below⟩

set_option maxHeartbeats 1000000 in
theorem rBelow_any (a : List Nat) (ha : a.length = 32) (da : Digs 256 a) (w : World) :
    Gives 14 #[.agg (ints .u8 a)] w (.bool (decide (val 256 a < q))) := by
  have hE0 := Env.nil w
  go_enter Try.func14, Try.ntmps14
  repeat ((fail_if_success (with_reducible show wpList _ _ _ (List.cons _ _) _ _)); (fail_if_success (with_reducible show Code.wp _ (Code.region _ _ true) _ _ _)); go_step)
  refine wl_step (st_boxA hE0 rfl rfl rfl ?_)
  intro g0 w1 hb1 hE1
  clear hE0
  simp only [Act.put, List.setIfInBounds_toArray, List.set_cons_zero, List.set_cons_succ]
  refine wl_step (st_val rfl (v_moveC (.inr rfl)) ?_)
  simp only [Act.put, List.setIfInBounds_toArray, List.set_cons_zero, List.set_cons_succ]
  repeat ((fail_if_success (with_reducible show wpList _ _ _ (List.cons _ _) _ _)); (fail_if_success (with_reducible show Code.wp _ (Code.region _ _ true) _ _ _)); go_step)
  refine wl_step (st_val rfl (v_sliceAll rfl rfl Try.underlying22 (by kernel_rfl)) ?_)
  simp only [Act.put, List.setIfInBounds_toArray, List.set_cons_zero, List.set_cons_succ]
  refine wl_step (st_calls rfl (run_call rfl Try.call26) (dig_any ha da (hE1.get (i := 0) rfl)) ?_)
  rintro _ w2 ⟨va, la, rfl, hSa, ela⟩
  have hb2 := hSa.env.below
  have hE2 := hE1.call hb2
  have ra := hSa.rd
  subst ela
  refine ⟨_, rfl, ?_⟩
  clear hE1
  simp only [Act.put, List.setIfInBounds_toArray, List.set_cons_zero, List.set_cons_succ]
  refine wl_step (st_new hE2 rfl (run_call rfl Try.call29) (Q_any _) ?_)
  intro g1 w3 hb3 hE3
  clear hE2
  simp only [Act.put, List.setIfInBounds_toArray, List.set_cons_zero, List.set_cons_succ]
  replace ra := ra.below hb3
  refine wl_step (st_gives hE3 rfl (run_call rfl Try.call28) (less_any ra (q_rd hE3) da qd_Digs 0 (by omega) (by decide) (by decide)) ?_)
  intro w4 hb4 hE4
  clear hE3
  simp only [Act.put, List.setIfInBounds_toArray, List.set_cons_zero, List.set_cons_succ]
  refine wl_step (st_val rfl (v_moveT (.inr rfl) rfl) ?_)
  simp only [Act.put, List.setIfInBounds_toArray, List.set_cons_zero, List.set_cons_succ]
  repeat ((fail_if_success (with_reducible show wpList _ _ _ (List.cons _ _) _ _)); (fail_if_success (with_reducible show Code.wp _ (Code.region _ _ true) _ _ _)); go_step)
  go_returns
  exact ⟨by rw [Nat.pow_zero, Nat.one_mul, val_qd]; rfl, hE4.below⟩
end Go.Proofs.Ytobfgleckcpcpaa
