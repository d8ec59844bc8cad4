/-
  Layer 5: 'FieldReckons': sum, difference, product and negative of any two are those of the document. No condition.
-/
import Derived.Test.YtlejdddhgnfkdaaFmW
import Derived.Test.YtlejdddhgnfkdaaFrame
import Derived.Test.YtlejdddhgnfkdaaEnd
namespace Go.Proofs.Ytlejdddhgnfkdaa
open Go.ChangeShapes Go.WideShapes Go.ChangeAt Go.RowKit
set_option linter.unusedVariables false
set_option linter.unusedSimpArgs false

theorem mod_pN (n : Nat) : n % pN < pN := Nat.mod_lt _ (by decide)
theorem lt_big {n : Nat} (h : n < pN) : n < big8 := Nat.lt_trans h pN_lt
theorem sum_big {m n : Nat} (hm : m < pN) (hn : n < pN) : m + n < big8 := by
  have hp : pN + pN < big8 := by decide
  omega

set_option maxHeartbeats 4000000 in
theorem fieldReckons_walk (a b : List Nat) (ha : a.length = 32) (hb : b.length = 32) (da : Digs 256 a) (db : Digs 256 b) (w : World) :
    Gives 7 #[.agg (ints .u8 a), .agg (ints .u8 b)] w (.bool true) := by
  have hOA := fun w => Of_any a ha da w
  have hOB := fun w => Of_any b hb db w
  have hrA := fun w => rOf_any da ha w
  have hrB := fun w => rOf_any db hb w
  rw [← digs_fval (val 256 a)] at hrA
  rw [← digs_fval (val 256 b)] at hrB
  have fA := digs_Fe (val 256 a)
  have fB := digs_Fe (val 256 b)
  obtain ⟨A, hA⟩ : ∃ A, digs 2251799813685248 5 (val 256 a) = A := ⟨_, rfl⟩
  obtain ⟨B, hB⟩ : ∃ B, digs 2251799813685248 5 (val 256 b) = B := ⟨_, rfl⟩
  rw [hA] at hOA hrA fA
  rw [hB] at hOB hrB fB
  clear hA hB
  obtain ⟨c1, f1, e1, G1⟩ := Add_any fA fB
  obtain ⟨c2, f2, e2, G2⟩ := Sub_any fA fB
  obtain ⟨c3, f3, e3, G3⟩ := Mul_any fA fB
  obtain ⟨c4, f4, e4, G4⟩ := Neg_any fA
  rw [Nat.add_mod] at e1
  rw [← Nat.mod_add_mod] at e2
  rw [Nat.mul_mod] at e3
  rw [← Nat.zero_add (pN - fval A % pN)] at e4
  have x1 := mod_pN (fval A)
  have y1 := mod_pN (fval B)
  have hA5 := fA.1
  have hB5 := fB.1
  obtain ⟨x, hx⟩ : ∃ x, fval A % pN = x := ⟨_, rfl⟩
  obtain ⟨y, hy⟩ : ∃ y, fval B % pN = y := ⟨_, rfl⟩
  rw [hx] at e1 e2 e3 e4 x1 hrA
  rw [hy] at e1 e2 e3 y1 hrB
  have hB1 := fun w => Bytes_any f1 w
  have hB2 := fun w => Bytes_any f2 w
  have hB3 := fun w => Bytes_any f3 w
  have hB4 := fun w => Bytes_any f4 w
  rw [e1] at hB1
  rw [e2] at hB2
  rw [e3] at hB3
  rw [e4] at hB4
  have r1 := fun w => rAdd_any (lt_big x1) (lt_big y1) (sum_big x1 y1) w
  have r2 := fun w => rSub_any x1 y1 w
  have r3 := fun w => rMul_any (lt_big x1) (lt_big y1) w
  have r4 := fun w => rSub_any (m := 0) (by decide) x1 w
  have R1 := Lib.hid r1
  have R2 := Lib.hid r2
  have R3 := Lib.hid r3
  have R4 := Lib.hid r4
  have q1 := Lib.hid (fun w => rBytes_any (mod_big (x + y)) w)
  have q2 := Lib.hid (fun w => rBytes_any (mod_big (x + (pN - y))) w)
  have q3 := Lib.hid (fun w => rBytes_any (mod_big (x * y)) w)
  have q4 := Lib.hid (fun w => rBytes_any (mod_big (0 + (pN - x))) w)
  have HOA := Lib.hid hOA
  have HOB := Lib.hid hOB
  have HRA := Lib.hid hrA
  have HRB := Lib.hid hrB
  have K1 := Lib.hid G1
  have K2 := Lib.hid G2
  have K3 := Lib.hid G3
  have K4 := Lib.hid G4
  have B1 := Lib.hid hB1
  have B2 := Lib.hid hB2
  have B3 := Lib.hid hB3
  have B4 := Lib.hid hB4
  have l1 := f1.1
  have l2 := f2.1
  have l3 := f3.1
  have l4 := f4.1
  have n1 := nm_len x
  have n2 := nm_len y
  have n3 := nm_len 0
  clear hOA hOB hrA hrB fA fB f1 e1 G1 f2 e2 G2 f3 e3 G3 f4 e4 G4 hB1 hB2 hB3 hB4 r1 r2 r3 r4 x1 y1 hx hy da db
  have hE0 := Env.nil w
  go_enter Try.func7, Try.ntmps7
  repeat ((fail_if_success (with_reducible show wpList _ _ _ (List.cons _ _) _ _)); (fail_if_success (with_reducible show Code.wp _ (Code.region _ _ true) _ _ _)); go_step)
  refine wl_step (st_boxA hE0 rfl rfl rfl ?_)
  intro g0 w1 hb1 hE1
  clear hE0
  simp only [Act.put, List.setIfInBounds_toArray, List.set_cons_zero, List.set_cons_succ]
  refine wl_step (st_boxA hE1 rfl rfl rfl ?_)
  intro g1 w2 hb2 hE2
  clear hE1
  simp only [Act.put, List.setIfInBounds_toArray, List.set_cons_zero, List.set_cons_succ]
  refine wl_step (st_val rfl (v_moveC (.inr rfl)) ?_)
  simp only [Act.put, List.setIfInBounds_toArray, List.set_cons_zero, List.set_cons_succ]
  repeat ((fail_if_success (with_reducible show wpList _ _ _ (List.cons _ _) _ _)); (fail_if_success (with_reducible show Code.wp _ (Code.region _ _ true) _ _ _)); go_step)
  refine wp_region_env 12 (by kernel_rfl) (by kernel_rfl) (fun _ _ d _ _ h => by cases d <;> exact h) hE2 ?_
  refine headRun_val (fun w9 hW => (v_load (i := 1) hW rfl rfl rfl Try.underlying22 rfl (sz_of (n := 32) (by kernel_rfl) (by first | (simp only [ints_size, digs_length, List.length_replicate, List.length_cons, List.length_nil]; done) | (simp only [ints_size, digs_length, List.length_replicate, List.length_cons, List.length_nil, List.length_set, List.length_append]; omega) | rfl))) w9 (Below.refl _ _)) ?_
  simp only [Act.put, List.setIfInBounds_toArray, List.set_cons_zero, List.set_cons_succ]
  refine headRun_call (fun w1 => run_call rfl Try.call9) (fun w1 hW => HOA.out _) ?_
  simp only [Act.put, List.setIfInBounds_toArray, List.set_cons_zero, List.set_cons_succ]
  refine headRun_val (fun w9 hW => (v_load (i := 0) hW rfl rfl rfl Try.underlying22 rfl (sz_of (n := 32) (by kernel_rfl) (by first | (simp only [ints_size, digs_length, List.length_replicate, List.length_cons, List.length_nil]; done) | (simp only [ints_size, digs_length, List.length_replicate, List.length_cons, List.length_nil, List.length_set, List.length_append]; omega) | rfl))) w9 (Below.refl _ _)) ?_
  simp only [Act.put, List.setIfInBounds_toArray, List.set_cons_zero, List.set_cons_succ]
  refine headRun_call (fun w1 => run_call rfl Try.call9) (fun w1 hW => HOB.out _) ?_
  simp only [Act.put, List.setIfInBounds_toArray, List.set_cons_zero, List.set_cons_succ]
  refine headRun_val (fun w9 hW => (v_load (i := 1) hW rfl rfl rfl Try.underlying22 rfl (sz_of (n := 32) (by kernel_rfl) (by first | (simp only [ints_size, digs_length, List.length_replicate, List.length_cons, List.length_nil]; done) | (simp only [ints_size, digs_length, List.length_replicate, List.length_cons, List.length_nil, List.length_set, List.length_append]; omega) | rfl))) w9 (Below.refl _ _)) ?_
  simp only [Act.put, List.setIfInBounds_toArray, List.set_cons_zero, List.set_cons_succ]
  refine headRun_call (fun w1 => run_call rfl Try.call21) (fun w1 hW => HRA.out _) ?_
  simp only [Act.put, List.setIfInBounds_toArray, List.set_cons_zero, List.set_cons_succ]
  refine headRun_val (fun w9 hW => (v_load (i := 0) hW rfl rfl rfl Try.underlying22 rfl (sz_of (n := 32) (by kernel_rfl) (by first | (simp only [ints_size, digs_length, List.length_replicate, List.length_cons, List.length_nil]; done) | (simp only [ints_size, digs_length, List.length_replicate, List.length_cons, List.length_nil, List.length_set, List.length_append]; omega) | rfl))) w9 (Below.refl _ _)) ?_
  simp only [Act.put, List.setIfInBounds_toArray, List.set_cons_zero, List.set_cons_succ]
  refine headRun_call (fun w1 => run_call rfl Try.call21) (fun w1 hW => HRB.out _) ?_
  simp only [Act.put, List.setIfInBounds_toArray, List.set_cons_zero, List.set_cons_succ]
  refine headRun_alloc (zs := ints .u64 (List.replicate 5 0)) rfl rfl (fun w => by kernel_rfl) ?_
  simp only [Act.put, List.setIfInBounds_toArray, List.set_cons_zero, List.set_cons_succ]
  refine headRun_alloc (zs := ints .u64 (List.replicate 5 0)) rfl rfl (fun w => by kernel_rfl) ?_
  simp only [Act.put, List.setIfInBounds_toArray, List.set_cons_zero, List.set_cons_succ]
  refine headRun_alloc (zs := ints .u32 (List.replicate 8 0)) rfl rfl (fun w => by kernel_rfl) ?_
  simp only [Act.put, List.setIfInBounds_toArray, List.set_cons_zero, List.set_cons_succ]
  refine headRun_alloc (zs := ints .u32 (List.replicate 8 0)) rfl rfl (fun w => by kernel_rfl) ?_
  simp only [Act.put, List.setIfInBounds_toArray, List.set_cons_zero, List.set_cons_succ]
  refine headRun_nil (endK4 ?_)
  intro g2 g3 g4 g5 w3 hE3
  clear hE2
  simp only [List.drop_succ_cons, List.drop_zero, Act.put, List.setIfInBounds_toArray, List.set_cons_zero, List.set_cons_succ]
  refine wl_step (st_store (i := 0) hE3 rfl rfl rfl rfl rfl (sz_of (n := 5) (by kernel_rfl) (by first | (simp only [ints_size, digs_length, List.length_replicate, List.length_cons, List.length_nil]; done) | (simp only [ints_size, digs_length, List.length_replicate, List.length_cons, List.length_nil, List.length_set, List.length_append]; omega) | rfl)) (by first | (simp only [ints_size, digs_length, List.length_replicate, List.length_cons, List.length_nil]; done) | (simp only [ints_size, digs_length, List.length_replicate, List.length_cons, List.length_nil, List.length_set, List.length_append]; omega) | rfl) (by first | exact ints_one _ _ | decide | simp [*]) ?_)
  intro w4 hE4
  clear hE3
  simp only [List.set_cons_zero, List.set_cons_succ] at hE4
  simp only [Act.put, List.setIfInBounds_toArray, List.set_cons_zero, List.set_cons_succ]
  refine wl_step (st_store (i := 1) hE4 rfl rfl rfl rfl rfl (sz_of (n := 5) (by kernel_rfl) (by first | (simp only [ints_size, digs_length, List.length_replicate, List.length_cons, List.length_nil]; done) | (simp only [ints_size, digs_length, List.length_replicate, List.length_cons, List.length_nil, List.length_set, List.length_append]; omega) | rfl)) (by first | (simp only [ints_size, digs_length, List.length_replicate, List.length_cons, List.length_nil]; done) | (simp only [ints_size, digs_length, List.length_replicate, List.length_cons, List.length_nil, List.length_set, List.length_append]; omega) | rfl) (by first | exact ints_one _ _ | decide | simp [*]) ?_)
  intro w5 hE5
  clear hE4
  simp only [List.set_cons_zero, List.set_cons_succ] at hE5
  simp only [Act.put, List.setIfInBounds_toArray, List.set_cons_zero, List.set_cons_succ]
  refine wl_step (st_store (i := 2) hE5 rfl rfl rfl rfl rfl (sz_of (n := 8) (by kernel_rfl) (by first | (simp only [ints_size, digs_length, List.length_replicate, List.length_cons, List.length_nil]; done) | (simp only [ints_size, digs_length, List.length_replicate, List.length_cons, List.length_nil, List.length_set, List.length_append]; omega) | rfl)) (by first | (simp only [ints_size, digs_length, List.length_replicate, List.length_cons, List.length_nil]; done) | (simp only [ints_size, digs_length, List.length_replicate, List.length_cons, List.length_nil, List.length_set, List.length_append]; omega) | rfl) (by first | exact ints_one _ _ | decide | simp [*]) ?_)
  intro w6 hE6
  clear hE5
  simp only [List.set_cons_zero, List.set_cons_succ] at hE6
  simp only [Act.put, List.setIfInBounds_toArray, List.set_cons_zero, List.set_cons_succ]
  refine wl_step (st_store (i := 3) hE6 rfl rfl rfl rfl rfl (sz_of (n := 8) (by kernel_rfl) (by first | (simp only [ints_size, digs_length, List.length_replicate, List.length_cons, List.length_nil]; done) | (simp only [ints_size, digs_length, List.length_replicate, List.length_cons, List.length_nil, List.length_set, List.length_append]; omega) | rfl)) (by first | (simp only [ints_size, digs_length, List.length_replicate, List.length_cons, List.length_nil]; done) | (simp only [ints_size, digs_length, List.length_replicate, List.length_cons, List.length_nil, List.length_set, List.length_append]; omega) | rfl) (by first | exact ints_one _ _ | decide | simp [*]) ?_)
  intro w7 hE7
  clear hE6
  simp only [List.set_cons_zero, List.set_cons_succ] at hE7
  simp only [Act.put, List.setIfInBounds_toArray, List.set_cons_zero, List.set_cons_succ]
  repeat ((fail_if_success (with_reducible show wpList _ _ _ (List.cons _ _) _ _)); (fail_if_success (with_reducible show Code.wp _ (Code.region _ _ true) _ _ _)); go_step)
  refine wp_region_B (n := 45) 44 (by kernel_rfl) rfl hE7 ?_
  intro w8 hb8 hE8
  clear hE7
  refine wpB_take (i := 0) (by kernel_rfl) rfl (by kernel_rfl) (fun _ _ _ h => h) rfl (v_load (i := 0) hE8 rfl rfl rfl Try.underlying26 rfl (sz_of (n := 5) (by kernel_rfl) (by first | (simp only [ints_size, digs_length, List.length_replicate, List.length_cons, List.length_nil]; done) | (simp only [ints_size, digs_length, List.length_replicate, List.length_cons, List.length_nil, List.length_set, List.length_append]; omega) | rfl))) ?_
  simp only [Act.put, List.setIfInBounds_toArray, List.set_cons_zero, List.set_cons_succ]
  refine wpB_take (i := 1) (by kernel_rfl) rfl (by kernel_rfl) (fun _ _ _ h => h) rfl (v_load (i := 1) hE8 rfl rfl rfl Try.underlying26 rfl (sz_of (n := 5) (by kernel_rfl) (by first | (simp only [ints_size, digs_length, List.length_replicate, List.length_cons, List.length_nil]; done) | (simp only [ints_size, digs_length, List.length_replicate, List.length_cons, List.length_nil, List.length_set, List.length_append]; omega) | rfl))) ?_
  simp only [Act.put, List.setIfInBounds_toArray, List.set_cons_zero, List.set_cons_succ]
  refine wpB_take (i := 4) (by kernel_rfl) rfl (by kernel_rfl) (fun _ _ _ h => h) rfl (v_load (i := 2) hE8 rfl rfl rfl Try.underlying38 rfl (sz_of (n := 8) (by kernel_rfl) (by first | (simp only [ints_size, digs_length, List.length_replicate, List.length_cons, List.length_nil]; done) | (simp only [ints_size, digs_length, List.length_replicate, List.length_cons, List.length_nil, List.length_set, List.length_append]; omega) | rfl))) ?_
  simp only [Act.put, List.setIfInBounds_toArray, List.set_cons_zero, List.set_cons_succ]
  refine wpB_take (i := 5) (by kernel_rfl) rfl (by kernel_rfl) (fun _ _ _ h => h) rfl (v_load (i := 3) hE8 rfl rfl rfl Try.underlying38 rfl (sz_of (n := 8) (by kernel_rfl) (by first | (simp only [ints_size, digs_length, List.length_replicate, List.length_cons, List.length_nil]; done) | (simp only [ints_size, digs_length, List.length_replicate, List.length_cons, List.length_nil, List.length_set, List.length_append]; omega) | rfl))) ?_
  simp only [Act.put, List.setIfInBounds_toArray, List.set_cons_zero, List.set_cons_succ]
  refine wpB_step (i := 2) (by kernel_rfl) rfl (st_gives hE8 rfl (run_call rfl Try.call11) (K1.out _) ?_)
  intro w9 hb9 hE9
  clear hE8
  refine ⟨fun _ => hb9, ?_⟩
  simp only [Act.put, List.setIfInBounds_toArray, List.set_cons_zero, List.set_cons_succ]
  refine wpB_step (i := 3) (by kernel_rfl) rfl (st_gives hE9 rfl (run_call rfl Try.call22) (B1.out _) ?_)
  intro w10 hb10 hE10
  clear hE9
  refine ⟨fun _ => hb10, ?_⟩
  simp only [Act.put, List.setIfInBounds_toArray, List.set_cons_zero, List.set_cons_succ]
  refine wpB_step (i := 6) (by kernel_rfl) rfl (st_gives hE10 rfl (run_call rfl Try.call34) (R1.out _) ?_)
  intro w11 hb11 hE11
  clear hE10
  refine ⟨fun _ => hb11, ?_⟩
  simp only [Act.put, List.setIfInBounds_toArray, List.set_cons_zero, List.set_cons_succ]
  refine wpB_step (i := 7) (by kernel_rfl) rfl (st_gives hE11 rfl (run_call rfl Try.call23) (q1.out _) ?_)
  intro w12 hb12 hE12
  clear hE11
  refine ⟨fun _ => hb12, ?_⟩
  simp only [Act.put, List.setIfInBounds_toArray, List.set_cons_zero, List.set_cons_succ]
  refine wpB_take (i := 8) (by kernel_rfl) rfl (by kernel_rfl) (fun _ _ _ h => h) rfl (v_eq32s rfl rfl rfl (digs_length _ _ _)) ?_
  simp only [Act.put, List.setIfInBounds_toArray, List.set_cons_zero, List.set_cons_succ]
  refine wpB_take (i := 9) (by kernel_rfl) rfl (by kernel_rfl) (fun _ _ _ h => h) rfl (v_moveT (.inl rfl) rfl) ?_
  simp only [Act.put, List.setIfInBounds_toArray, List.set_cons_zero, List.set_cons_succ]
  refine wpB_take (i := 10) (by kernel_rfl) rfl (by kernel_rfl) (fun _ _ _ h => h) rfl (v_load (i := 0) hE12 rfl rfl rfl Try.underlying26 rfl (sz_of (n := 5) (by kernel_rfl) (by first | (simp only [ints_size, digs_length, List.length_replicate, List.length_cons, List.length_nil]; done) | (simp only [ints_size, digs_length, List.length_replicate, List.length_cons, List.length_nil, List.length_set, List.length_append]; omega) | rfl))) ?_
  simp only [Act.put, List.setIfInBounds_toArray, List.set_cons_zero, List.set_cons_succ]
  refine wpB_take (i := 11) (by kernel_rfl) rfl (by kernel_rfl) (fun _ _ _ h => h) rfl (v_load (i := 1) hE12 rfl rfl rfl Try.underlying26 rfl (sz_of (n := 5) (by kernel_rfl) (by first | (simp only [ints_size, digs_length, List.length_replicate, List.length_cons, List.length_nil]; done) | (simp only [ints_size, digs_length, List.length_replicate, List.length_cons, List.length_nil, List.length_set, List.length_append]; omega) | rfl))) ?_
  simp only [Act.put, List.setIfInBounds_toArray, List.set_cons_zero, List.set_cons_succ]
  refine wpB_take (i := 14) (by kernel_rfl) rfl (by kernel_rfl) (fun _ _ _ h => h) rfl (v_load (i := 2) hE12 rfl rfl rfl Try.underlying38 rfl (sz_of (n := 8) (by kernel_rfl) (by first | (simp only [ints_size, digs_length, List.length_replicate, List.length_cons, List.length_nil]; done) | (simp only [ints_size, digs_length, List.length_replicate, List.length_cons, List.length_nil, List.length_set, List.length_append]; omega) | rfl))) ?_
  simp only [Act.put, List.setIfInBounds_toArray, List.set_cons_zero, List.set_cons_succ]
  refine wpB_take (i := 15) (by kernel_rfl) rfl (by kernel_rfl) (fun _ _ _ h => h) rfl (v_load (i := 3) hE12 rfl rfl rfl Try.underlying38 rfl (sz_of (n := 8) (by kernel_rfl) (by first | (simp only [ints_size, digs_length, List.length_replicate, List.length_cons, List.length_nil]; done) | (simp only [ints_size, digs_length, List.length_replicate, List.length_cons, List.length_nil, List.length_set, List.length_append]; omega) | rfl))) ?_
  simp only [Act.put, List.setIfInBounds_toArray, List.set_cons_zero, List.set_cons_succ]
  refine wpB_step (i := 12) (by kernel_rfl) rfl (st_gives hE12 rfl (run_call rfl Try.call14) (K2.out _) ?_)
  intro w13 hb13 hE13
  clear hE12
  refine ⟨fun _ => hb13, ?_⟩
  simp only [Act.put, List.setIfInBounds_toArray, List.set_cons_zero, List.set_cons_succ]
  refine wpB_step (i := 13) (by kernel_rfl) rfl (st_gives hE13 rfl (run_call rfl Try.call22) (B2.out _) ?_)
  intro w14 hb14 hE14
  clear hE13
  refine ⟨fun _ => hb14, ?_⟩
  simp only [Act.put, List.setIfInBounds_toArray, List.set_cons_zero, List.set_cons_succ]
  refine wpB_step (i := 16) (by kernel_rfl) rfl (st_gives hE14 rfl (run_call rfl Try.call35) (R2.out _) ?_)
  intro w15 hb15 hE15
  clear hE14
  refine ⟨fun _ => hb15, ?_⟩
  simp only [Act.put, List.setIfInBounds_toArray, List.set_cons_zero, List.set_cons_succ]
  refine wpB_step (i := 17) (by kernel_rfl) rfl (st_gives hE15 rfl (run_call rfl Try.call23) (q2.out _) ?_)
  intro w16 hb16 hE16
  clear hE15
  refine ⟨fun _ => hb16, ?_⟩
  simp only [Act.put, List.setIfInBounds_toArray, List.set_cons_zero, List.set_cons_succ]
  refine wpB_take (i := 18) (by kernel_rfl) rfl (by kernel_rfl) (fun _ _ _ h => h) rfl (v_eq32s rfl rfl rfl (digs_length _ _ _)) ?_
  simp only [Act.put, List.setIfInBounds_toArray, List.set_cons_zero, List.set_cons_succ]
  refine wpB_take (i := 19) (by kernel_rfl) rfl (by kernel_rfl) (fun _ _ _ h => h) rfl (v_and rfl rfl (fun _ => rfl)) ?_
  simp only [Act.put, List.setIfInBounds_toArray, List.set_cons_zero, List.set_cons_succ]
  refine wpB_take (i := 20) (by kernel_rfl) rfl (by kernel_rfl) (fun _ _ _ h => h) rfl (v_moveT (.inl rfl) rfl) ?_
  simp only [Act.put, List.setIfInBounds_toArray, List.set_cons_zero, List.set_cons_succ]
  refine wpB_take (i := 21) (by kernel_rfl) rfl (by kernel_rfl) (fun _ _ _ h => h) rfl (v_load (i := 0) hE16 rfl rfl rfl Try.underlying26 rfl (sz_of (n := 5) (by kernel_rfl) (by first | (simp only [ints_size, digs_length, List.length_replicate, List.length_cons, List.length_nil]; done) | (simp only [ints_size, digs_length, List.length_replicate, List.length_cons, List.length_nil, List.length_set, List.length_append]; omega) | rfl))) ?_
  simp only [Act.put, List.setIfInBounds_toArray, List.set_cons_zero, List.set_cons_succ]
  refine wpB_take (i := 22) (by kernel_rfl) rfl (by kernel_rfl) (fun _ _ _ h => h) rfl (v_load (i := 1) hE16 rfl rfl rfl Try.underlying26 rfl (sz_of (n := 5) (by kernel_rfl) (by first | (simp only [ints_size, digs_length, List.length_replicate, List.length_cons, List.length_nil]; done) | (simp only [ints_size, digs_length, List.length_replicate, List.length_cons, List.length_nil, List.length_set, List.length_append]; omega) | rfl))) ?_
  simp only [Act.put, List.setIfInBounds_toArray, List.set_cons_zero, List.set_cons_succ]
  refine wpB_take (i := 25) (by kernel_rfl) rfl (by kernel_rfl) (fun _ _ _ h => h) rfl (v_load (i := 2) hE16 rfl rfl rfl Try.underlying38 rfl (sz_of (n := 8) (by kernel_rfl) (by first | (simp only [ints_size, digs_length, List.length_replicate, List.length_cons, List.length_nil]; done) | (simp only [ints_size, digs_length, List.length_replicate, List.length_cons, List.length_nil, List.length_set, List.length_append]; omega) | rfl))) ?_
  simp only [Act.put, List.setIfInBounds_toArray, List.set_cons_zero, List.set_cons_succ]
  refine wpB_take (i := 26) (by kernel_rfl) rfl (by kernel_rfl) (fun _ _ _ h => h) rfl (v_load (i := 3) hE16 rfl rfl rfl Try.underlying38 rfl (sz_of (n := 8) (by kernel_rfl) (by first | (simp only [ints_size, digs_length, List.length_replicate, List.length_cons, List.length_nil]; done) | (simp only [ints_size, digs_length, List.length_replicate, List.length_cons, List.length_nil, List.length_set, List.length_append]; omega) | rfl))) ?_
  simp only [Act.put, List.setIfInBounds_toArray, List.set_cons_zero, List.set_cons_succ]
  refine wpB_step (i := 23) (by kernel_rfl) rfl (st_gives hE16 rfl (run_call rfl Try.call13) (K3.out _) ?_)
  intro w17 hb17 hE17
  clear hE16
  refine ⟨fun _ => hb17, ?_⟩
  simp only [Act.put, List.setIfInBounds_toArray, List.set_cons_zero, List.set_cons_succ]
  refine wpB_step (i := 24) (by kernel_rfl) rfl (st_gives hE17 rfl (run_call rfl Try.call22) (B3.out _) ?_)
  intro w18 hb18 hE18
  clear hE17
  refine ⟨fun _ => hb18, ?_⟩
  simp only [Act.put, List.setIfInBounds_toArray, List.set_cons_zero, List.set_cons_succ]
  refine wpB_step (i := 27) (by kernel_rfl) rfl (st_gives hE18 rfl (run_call rfl Try.call36) (R3.out _) ?_)
  intro w19 hb19 hE19
  clear hE18
  refine ⟨fun _ => hb19, ?_⟩
  simp only [Act.put, List.setIfInBounds_toArray, List.set_cons_zero, List.set_cons_succ]
  refine wpB_step (i := 28) (by kernel_rfl) rfl (st_gives hE19 rfl (run_call rfl Try.call23) (q3.out _) ?_)
  intro w20 hb20 hE20
  clear hE19
  refine ⟨fun _ => hb20, ?_⟩
  simp only [Act.put, List.setIfInBounds_toArray, List.set_cons_zero, List.set_cons_succ]
  refine wpB_take (i := 29) (by kernel_rfl) rfl (by kernel_rfl) (fun _ _ _ h => h) rfl (v_eq32s rfl rfl rfl (digs_length _ _ _)) ?_
  simp only [Act.put, List.setIfInBounds_toArray, List.set_cons_zero, List.set_cons_succ]
  refine wpB_take (i := 30) (by kernel_rfl) rfl (by kernel_rfl) (fun _ _ _ h => h) rfl (v_and rfl rfl (fun _ => rfl)) ?_
  simp only [Act.put, List.setIfInBounds_toArray, List.set_cons_zero, List.set_cons_succ]
  refine wpB_take (i := 31) (by kernel_rfl) rfl (by kernel_rfl) (fun _ _ _ h => h) rfl (v_moveT (.inl rfl) rfl) ?_
  simp only [Act.put, List.setIfInBounds_toArray, List.set_cons_zero, List.set_cons_succ]
  refine wpB_take (i := 32) (by kernel_rfl) rfl (by kernel_rfl) (fun _ _ _ h => h) rfl (v_load (i := 0) hE20 rfl rfl rfl Try.underlying26 rfl (sz_of (n := 5) (by kernel_rfl) (by first | (simp only [ints_size, digs_length, List.length_replicate, List.length_cons, List.length_nil]; done) | (simp only [ints_size, digs_length, List.length_replicate, List.length_cons, List.length_nil, List.length_set, List.length_append]; omega) | rfl))) ?_
  simp only [Act.put, List.setIfInBounds_toArray, List.set_cons_zero, List.set_cons_succ]
  refine wpB_take (i := 35) (by kernel_rfl) rfl (by kernel_rfl) (fun _ _ _ h => h) rfl (v_built (k := .u32) (l := digs 4294967296 8 0) rfl (fun w => by kernel_rfl)) ?_
  simp only [Act.put, List.setIfInBounds_toArray, List.set_cons_zero, List.set_cons_succ]
  refine wpB_take (i := 36) (by kernel_rfl) rfl (by kernel_rfl) (fun _ _ _ h => h) rfl (v_load (i := 2) hE20 rfl rfl rfl Try.underlying38 rfl (sz_of (n := 8) (by kernel_rfl) (by first | (simp only [ints_size, digs_length, List.length_replicate, List.length_cons, List.length_nil]; done) | (simp only [ints_size, digs_length, List.length_replicate, List.length_cons, List.length_nil, List.length_set, List.length_append]; omega) | rfl))) ?_
  simp only [Act.put, List.setIfInBounds_toArray, List.set_cons_zero, List.set_cons_succ]
  refine wpB_step (i := 33) (by kernel_rfl) rfl (st_gives hE20 rfl (run_call rfl Try.call15) (K4.out _) ?_)
  intro w21 hb21 hE21
  clear hE20
  refine ⟨fun _ => hb21, ?_⟩
  simp only [Act.put, List.setIfInBounds_toArray, List.set_cons_zero, List.set_cons_succ]
  refine wpB_step (i := 34) (by kernel_rfl) rfl (st_gives hE21 rfl (run_call rfl Try.call22) (B4.out _) ?_)
  intro w22 hb22 hE22
  clear hE21
  refine ⟨fun _ => hb22, ?_⟩
  simp only [Act.put, List.setIfInBounds_toArray, List.set_cons_zero, List.set_cons_succ]
  refine wpB_step (i := 37) (by kernel_rfl) rfl (st_gives hE22 rfl (run_call rfl Try.call35) (R4.out _) ?_)
  intro w23 hb23 hE23
  clear hE22
  refine ⟨fun _ => hb23, ?_⟩
  simp only [Act.put, List.setIfInBounds_toArray, List.set_cons_zero, List.set_cons_succ]
  refine wpB_step (i := 38) (by kernel_rfl) rfl (st_gives hE23 rfl (run_call rfl Try.call23) (q4.out _) ?_)
  intro w24 hb24 hE24
  clear hE23
  refine ⟨fun _ => hb24, ?_⟩
  simp only [Act.put, List.setIfInBounds_toArray, List.set_cons_zero, List.set_cons_succ]
  refine wpB_take (i := 39) (by kernel_rfl) rfl (by kernel_rfl) (fun _ _ _ h => h) rfl (v_eq32s rfl rfl rfl (digs_length _ _ _)) ?_
  simp only [Act.put, List.setIfInBounds_toArray, List.set_cons_zero, List.set_cons_succ]
  refine wpB_take (i := 40) (by kernel_rfl) rfl (by kernel_rfl) (fun _ _ _ h => h) rfl (v_and rfl rfl (fun _ => rfl)) ?_
  simp only [Act.put, List.setIfInBounds_toArray, List.set_cons_zero, List.set_cons_succ]
  refine wpB_take (i := 41) (by kernel_rfl) rfl (by kernel_rfl) (fun _ _ _ h => h) rfl (v_moveT (.inl rfl) rfl) ?_
  simp only [Act.put, List.setIfInBounds_toArray, List.set_cons_zero, List.set_cons_succ]
  refine wpB_step (i := 42) (by kernel_rfl) rfl (st_gives hE24 rfl (run_call rfl Try.call18) (awake_any _) ?_)
  intro w25 hb25 hE25
  clear hE24
  refine ⟨fun _ => hb25, ?_⟩
  simp only [Act.put, List.setIfInBounds_toArray, List.set_cons_zero, List.set_cons_succ]
  refine wpB_take (i := 43) (by kernel_rfl) rfl (by kernel_rfl) (fun _ _ _ h => h) rfl (v_and rfl rfl (fun _ => rfl)) ?_
  simp only [Act.put, List.setIfInBounds_toArray, List.set_cons_zero, List.set_cons_succ]
  refine wpB_step (i := 44) (by kernel_rfl) rfl (st_val rfl (v_moveT (.inr rfl) rfl) ?_)
  refine ⟨fun _ => Below.refl _ _, ?_⟩
  simp only [Act.put, List.setIfInBounds_toArray, List.set_cons_zero, List.set_cons_succ]
  refine wpB_done (by kernel_rfl) ?_ _
  repeat ((fail_if_success (with_reducible show wpList _ _ _ (List.cons _ _) _ _)); (fail_if_success (with_reducible show Code.wp _ (Code.region _ _ true) _ _ _)); go_step)
  go_returns
  exact ⟨rfl, hE25.below⟩
set_option maxRecDepth 100000 in
theorem fieldReckons_lifted (os : Os) (started : os.Started) (H : Type) (enc : TypeId × Value → H) :
    ReturnsInHanded {} Try.checked os 7 .any (Rows.fieldReckonsSpec.pre6 enc Try.prog Try.f7 Rows.fieldReckonsRow.domain false) (Rows.fieldReckonsSpec.post enc Try.prog Try.f7 false true false false) := by
  refine returnsInHanded_of_change (C := Try.checked) own started (by kernel_rfl) Try.func7
    (ChangeSpec.witness6 (enc := enc) (C := Try.checked) false ⟨#[], #[.agg (ints .u8 (List.replicate 32 0)), .agg (ints .u8 (List.replicate 32 0))], []⟩ 8 (by kernel_rfl) (by kernel_rfl) (by kernel_rfl) (by kernel_rfl)) ?_
  intro W base args ds gs before hval0 hW hcnd _
  have hval : ∀ (j : Nat) t v, Try.f7.params[j]? = some t → args[j]? = some v → Value.okWide Try.prog W .any base t v := hval0
  have hW' := hW
  obtain ⟨p, q, hA0, hV, rfl, hfz, hnd⟩ := hW
  have hA : DataW.TrodAll enc Try.prog W 0 (fun _ => true) true Try.f7.params.toList args.toList ds p := hA0
  rw [Try.params7] at hA hval
  obtain ⟨v0, vs0, d0, ds0, p0, q0, hargs, rfl, rfl, h0, r0⟩ := trodAll_cons hA
  obtain ⟨v1, vs1, d1, ds1, p1, q1, rfl, rfl, rfl, h1, r1⟩ := trodAll_cons r0
  obtain ⟨rfl, rfl, rfl⟩ := trodAll_nil r1
  obtain rfl : args = #[v0, v1] := by cases args; simp_all
  obtain ⟨rfl, rfl⟩ := trodVars_none hV
  have k0 := h0
  have lt0 : ∀ x ∈ p0, x.block < W.heap.size := by obtain ⟨m, hm⟩ := k0; exact DataW.trod_lt m _ _ _ hm
  have k1 := h1
  have lt1 : ∀ x ∈ p1, x.block < W.heap.size := by obtain ⟨m, hm⟩ := k1; exact DataW.trod_lt m _ _ _ hm
  obtain ⟨l0, rfl, hl0, dl0⟩ := open_u8s Try.underlying22 Try.underlying5 (by kernel_rfl) (by kernel_rfl) (hval 0 22 v0 rfl rfl) h0
  obtain ⟨l1, rfl, hl1, dl1⟩ := open_u8s Try.underlying22 Try.underlying5 (by kernel_rfl) (by kernel_rfl) (hval 1 22 v1 rfl rfl) h1
  clear hA0 hval0
  refine (fieldReckons_walk l0 l1 hl0 hl1 dl0 dl1 W).mono fun e W' ⟨he, bel⟩ => ?_
  subst he
  exact ⟨_, rfl, _, _, _, [], _, [], hW', trodAll_mk1 (shut_bool Try.underlying4 _), (trodAll_cons_mk (Below.trod laidOut (by kernel_rfl) (of_decide_eq_true (by kernel_rfl)) k0 bel lt0) (trodAll_cons_mk (Below.trod laidOut (by kernel_rfl) (of_decide_eq_true (by kernel_rfl)) k1 bel lt1) trodAll_mk0)), rfl, bel.frame _, fun h => by cases h⟩

theorem fieldReckons_over : Rows.fieldReckonsRow.holds Try.pinned (OpenSpec.ofChange Rows.fieldReckonsSpec) :=
  OpenClaim.holds_of_wide 7 Try.f7 rfl rfl rfl rfl rfl rfl rfl ⟨rfl, rfl, rfl, rfl, rfl⟩ rfl rfl rfl rfl rfl (by kernel_rfl) Try.func7 (by kernel_rfl)
    (of_decide_eq_true (by kernel_rfl)) (by unfold Func.isWrapper; first | (rw [if_pos (by decide +kernel)]; kernel_rfl) | (rw [if_neg (by decide +kernel)]; exact ⟨rfl, rfl⟩))
    (fun os started H enc _ => fieldReckons_lifted os started H enc)

theorem fieldReckons_holds : Rows.FieldReckonsSaid := fieldReckons_over

#print axioms fieldReckons_holds
end Go.Proofs.Ytlejdddhgnfkdaa
