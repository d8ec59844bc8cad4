/-
  Layer 4: 'FieldRoots': the root of any quotient is the document's, or there is none; of a square times the other there is one. No condition.
-/
import Derived.Test.YtlejdddhgnfkdaaKon
import Derived.Test.YtlejdddhgnfkdaaFmK
import Derived.Test.YtlejdddhgnfkdaaFlwA
namespace Go.Proofs.Ytlejdddhgnfkdaa
open Go.ChangeShapes Go.WideShapes Go.ChangeAt Go.RowKit
set_option linter.unusedVariables false
set_option linter.unusedSimpArgs false

section
variable {a : Act} {w : World} {o : Oper}
theorem v_ne32s {t' : TypeId} {x y : Operand} {l : List Nat} (ho : o.op = .binOp .neq 22 x y t') (hx : a.eval x = .agg (ints .u8 l)) (hy : a.eval y = .agg (ints .u8 l)) (hl : l.length = 32) : Val Try.prog o a (.bool false) w := by
  have h := v_neInts (w := w) ho hx hy Try.eqGuardType22 Try.underlying22 Try.underlying5 Try.sizeOf5 hl hl
  rwa [decide_eq_true rfl] at h
theorem v_neBs {t t' : TypeId} {x y : Operand} {b : Bool} (ho : o.op = .binOp .neq t x y t') (hx : a.eval x = .bool b) (hy : a.eval y = .bool b) (ht : Try.prog.underlying t = some .bool) : Val Try.prog o a (.bool false) w := by
  have h := v_neB (w := w) ho hx hy ht
  have e : (b == b) = true := by cases b <;> rfl
  rwa [e] at h
end

set_option maxRecDepth 100000 in
set_option maxHeartbeats 8000000 in
theorem fieldRoots_walk (a b : List Nat) (ha : a.length = 32) (hb : b.length = 32) (da : Digs 256 a) (db : Digs 256 b) (w : World) :
    Gives 4 #[.agg (ints .u8 a), .agg (ints .u8 b)] w (.bool true) := by
  have hOA := fun w => Of_any a ha da w
  have hOB := fun w => Of_any b hb db w
  have hrA := fun w => rOf_any da ha w
  have hrB := fun w => rOf_any db hb w
  rw [← digs_fval (val 256 a)] at hrA
  rw [← digs_fval (val 256 b)] at hrB
  have fA := digs_Fe (val 256 a)
  have fB := digs_Fe (val 256 b)
  obtain ⟨A, hA⟩ : ∃ A, digs 2251799813685248 5 (val 256 a) = A := ⟨_, rfl⟩
  obtain ⟨B, hB⟩ : ∃ B, digs 2251799813685248 5 (val 256 b) = B := ⟨_, rfl⟩
  rw [hA] at hOA hrA fA
  rw [hB] at hOB hrB fB
  clear hA hB
  obtain ⟨c1, f1, e1, G1⟩ := Root_any fA fB
  obtain ⟨m1, fm1, em1, Gm1⟩ := Mul_any fA fA
  obtain ⟨m2, fm2, em2, Gm2⟩ := Mul_any fm1 fB
  obtain ⟨c2, f2, e2, G2⟩ := Root_any fm2 fB
  obtain ⟨n1, fn1, en1, Gn1⟩ := Neg_any fA
  have x1 := mod_pN (fval A)
  have y1 := mod_pN (fval B)
  have er : rootN (fval A) (fval B) = rootN (fval A % pN) (fval B % pN) := rootN_congr (Nat.mod_mod _ _).symm (Nat.mod_mod _ _).symm
  rw [er] at e1 G1
  have rR := fun w => rRoot_any x1 y1 w
  have hz := fun w => Zero_any fB w
  have hs1 := fun w => Same_any f2 fA w
  have hs2 := fun w => Same_any f2 fn1 w
  have e3 : fval B * fval A * fval A % pN = fval m2 % pN := by
    have k1 : kk pN (fval m1) = kk pN (fval A) * kk pN (fval A) := (kk_of em1).trans (kk_mul _ _)
    have k2 : kk pN (fval m2) = kk pN (fval m1) * kk pN (fval B) := (kk_of em2).trans (kk_mul _ _)
    rw [← kk_iff, kk_mul, kk_mul]
    grind
  have hsq : fval B % pN ≠ 0 → rootN (fval m2) (fval B) = (evenN (fval A % pN), true) := fun h => rootN_of h e3
  have hno : fval B % pN = 0 → rootN (fval m2) (fval B) = (0, false) := fun h => rootN_none h
  have hor := evenN_or (fval A)
  have hbt := fun w => Bytes_any f1 w
  rw [e1] at hbt
  have hrb := fun w => rBytes_any (lt_big (rootN_lt (fval A % pN) (fval B % pN))) w
  have hA5 := fA.1
  have hB5 := fB.1
  obtain ⟨x, hx⟩ : ∃ x, fval A % pN = x := ⟨_, rfl⟩
  obtain ⟨y, hy⟩ : ∃ y, fval B % pN = y := ⟨_, rfl⟩
  rw [hx] at hrA rR hbt hrb G1 hs1 en1 hsq hor
  rw [hy] at hrB rR hbt hrb G1 hz hsq hno
  obtain ⟨r, hr⟩ : ∃ r, (rootN x y).1 = r := ⟨_, rfl⟩
  obtain ⟨k, hk⟩ : ∃ k, (rootN x y).2 = k := ⟨_, rfl⟩
  rw [hr] at rR hbt hrb
  rw [hk] at rR G1
  rw [e2] at hs1 hs2
  rw [en1] at hs2
  obtain ⟨s, hs⟩ : ∃ s, rootN (fval m2) (fval B) = s := ⟨_, rfl⟩
  rw [hs] at hs1 hs2 hsq hno G2
  have l1 := f1.1
  have l2 := f2.1
  have l3 := fm1.1
  have l4 := fm2.1
  have l5 := fn1.1
  have n2 := nm_len x
  have n3 := nm_len y
  have n4 := nm_len r
  have hdl := digs_length 256 32 r
  have HOA := Lib.hid hOA
  have HOB := Lib.hid hOB
  have HRA := Lib.hid hrA
  have HRB := Lib.hid hrB
  have K1 := Lib.hid G1
  have KR := Lib.hid rR
  have M1 := Lib.hid Gm1
  have M2 := Lib.hid Gm2
  have K2 := Lib.hid G2
  have N1 := Lib.hid Gn1
  have B1 := Lib.hid hbt
  have B2 := Lib.hid hrb
  have HZ := Lib.hid hz
  have S1 := Lib.hid hs1
  have S2 := Lib.hid hs2
  have HQ := Lib.hid hsq
  have HN := Lib.hid hno
  have HE := Lib.hid hor
  clear hOA hOB hrA hrB fA fB f1 e1 G1 fm1 em1 Gm1 fm2 em2 Gm2 f2 e2 G2 fn1 en1 Gn1 er rR hz hs1 hs2 e3 hsq hno hbt hrb hx hy hr hk hs x1 y1 da db hor
  have hE0 := Env.nil w
  go_enter Try.func4, Try.ntmps4
  repeat ((fail_if_success (with_reducible show wpList _ _ _ (List.cons _ _) _ _)); (fail_if_success (with_reducible show Code.wp _ (Code.region _ _ true) _ _ _)); go_step)
  refine wl_step (st_boxA hE0 rfl rfl rfl ?_)
  intro g0 w1 hb1 hE1
  clear hE0
  simp only [Act.put, List.setIfInBounds_toArray, List.set_cons_zero, List.set_cons_succ]
  refine wl_step (st_boxA hE1 rfl rfl rfl ?_)
  intro g1 w2 hb2 hE2
  clear hE1
  simp only [Act.put, List.setIfInBounds_toArray, List.set_cons_zero, List.set_cons_succ]
  refine wl_step (st_val rfl (v_moveC (.inr rfl)) ?_)
  simp only [Act.put, List.setIfInBounds_toArray, List.set_cons_zero, List.set_cons_succ]
  repeat ((fail_if_success (with_reducible show wpList _ _ _ (List.cons _ _) _ _)); (fail_if_success (with_reducible show Code.wp _ (Code.region _ _ true) _ _ _)); go_step)
  refine wp_region_env 6 (by kernel_rfl) (by kernel_rfl) (fun _ _ d _ _ h => by cases d <;> exact h) hE2 ?_
  refine headRun_val (fun w9 hW => (v_load (i := 1) hW rfl rfl rfl Try.underlying22 rfl (sz_of (n := 32) (by kernel_rfl) (by first | (simp only [ints_size, digs_length, List.length_replicate, List.length_cons, List.length_nil]; done) | (simp only [ints_size, digs_length, List.length_replicate, List.length_cons, List.length_nil, List.length_set, List.length_append]; omega) | rfl))) w9 (Below.refl _ _)) ?_
  simp only [Act.put, List.setIfInBounds_toArray, List.set_cons_zero, List.set_cons_succ]
  refine headRun_call (fun w1 => run_call rfl Try.call9) (fun w1 hW => HOA.out _) ?_
  simp only [Act.put, List.setIfInBounds_toArray, List.set_cons_zero, List.set_cons_succ]
  refine headRun_val (fun w9 hW => (v_load (i := 0) hW rfl rfl rfl Try.underlying22 rfl (sz_of (n := 32) (by kernel_rfl) (by first | (simp only [ints_size, digs_length, List.length_replicate, List.length_cons, List.length_nil]; done) | (simp only [ints_size, digs_length, List.length_replicate, List.length_cons, List.length_nil, List.length_set, List.length_append]; omega) | rfl))) w9 (Below.refl _ _)) ?_
  simp only [Act.put, List.setIfInBounds_toArray, List.set_cons_zero, List.set_cons_succ]
  refine headRun_call (fun w1 => run_call rfl Try.call9) (fun w1 hW => HOB.out _) ?_
  simp only [Act.put, List.setIfInBounds_toArray, List.set_cons_zero, List.set_cons_succ]
  refine headRun_alloc (zs := ints .u64 (List.replicate 5 0)) rfl rfl (fun w => by kernel_rfl) ?_
  simp only [Act.put, List.setIfInBounds_toArray, List.set_cons_zero, List.set_cons_succ]
  refine headRun_alloc (zs := ints .u64 (List.replicate 5 0)) rfl rfl (fun w => by kernel_rfl) ?_
  simp only [Act.put, List.setIfInBounds_toArray, List.set_cons_zero, List.set_cons_succ]
  refine headRun_nil (endK2 ?_)
  intro g2 g3 w3 hE3
  clear hE2
  simp only [List.drop_succ_cons, List.drop_zero, Act.put, List.setIfInBounds_toArray, List.set_cons_zero, List.set_cons_succ]
  refine wl_step (st_store (i := 0) hE3 rfl rfl rfl rfl rfl (sz_of (n := 5) (by kernel_rfl) (by first | (simp only [ints_size, digs_length, List.length_replicate, List.length_cons, List.length_nil]; done) | (simp only [ints_size, digs_length, List.length_replicate, List.length_cons, List.length_nil, List.length_set, List.length_append]; omega) | rfl)) (by first | (simp only [ints_size, digs_length, List.length_replicate, List.length_cons, List.length_nil]; done) | (simp only [ints_size, digs_length, List.length_replicate, List.length_cons, List.length_nil, List.length_set, List.length_append]; omega) | rfl) (by first | exact ints_one _ _ | decide | simp [*]) ?_)
  intro w4 hE4
  clear hE3
  simp only [List.set_cons_zero, List.set_cons_succ] at hE4
  simp only [Act.put, List.setIfInBounds_toArray, List.set_cons_zero, List.set_cons_succ]
  refine wl_step (st_store (i := 1) hE4 rfl rfl rfl rfl rfl (sz_of (n := 5) (by kernel_rfl) (by first | (simp only [ints_size, digs_length, List.length_replicate, List.length_cons, List.length_nil]; done) | (simp only [ints_size, digs_length, List.length_replicate, List.length_cons, List.length_nil, List.length_set, List.length_append]; omega) | rfl)) (by first | (simp only [ints_size, digs_length, List.length_replicate, List.length_cons, List.length_nil]; done) | (simp only [ints_size, digs_length, List.length_replicate, List.length_cons, List.length_nil, List.length_set, List.length_append]; omega) | rfl) (by first | exact ints_one _ _ | decide | simp [*]) ?_)
  intro w5 hE5
  clear hE4
  simp only [List.set_cons_zero, List.set_cons_succ] at hE5
  simp only [Act.put, List.setIfInBounds_toArray, List.set_cons_zero, List.set_cons_succ]
  repeat ((fail_if_success (with_reducible show wpList _ _ _ (List.cons _ _) _ _)); (fail_if_success (with_reducible show Code.wp _ (Code.region _ _ true) _ _ _)); go_step)
  refine wl_step (st_val rfl (v_load (i := 0) hE5 rfl rfl rfl Try.underlying26 rfl (sz_of (n := 5) (by kernel_rfl) (by first | (simp only [ints_size, digs_length, List.length_replicate, List.length_cons, List.length_nil]; done) | (simp only [ints_size, digs_length, List.length_replicate, List.length_cons, List.length_nil, List.length_set, List.length_append]; omega) | rfl))) ?_)
  simp only [Act.put, List.setIfInBounds_toArray, List.set_cons_zero, List.set_cons_succ]
  refine wl_step (st_val rfl (v_load (i := 1) hE5 rfl rfl rfl Try.underlying26 rfl (sz_of (n := 5) (by kernel_rfl) (by first | (simp only [ints_size, digs_length, List.length_replicate, List.length_cons, List.length_nil]; done) | (simp only [ints_size, digs_length, List.length_replicate, List.length_cons, List.length_nil, List.length_set, List.length_append]; omega) | rfl))) ?_)
  simp only [Act.put, List.setIfInBounds_toArray, List.set_cons_zero, List.set_cons_succ]
  refine wl_step (st_gives hE5 rfl (run_call rfl Try.call19) (K1.out _) ?_)
  intro w6 hb6 hE6
  clear hE5
  simp only [Act.put, List.setIfInBounds_toArray, List.set_cons_zero, List.set_cons_succ]
  refine wl_step (st_val rfl (v_moveT (.inl rfl) rfl) ?_)
  simp only [Act.put, List.setIfInBounds_toArray, List.set_cons_zero, List.set_cons_succ]
  refine wl_step (st_val rfl (v_extract rfl rfl rfl) ?_)
  simp only [Act.put, List.setIfInBounds_toArray, List.set_cons_zero, List.set_cons_succ]
  refine wl_step (st_val rfl (v_extract rfl rfl rfl) ?_)
  simp only [Act.put, List.setIfInBounds_toArray, List.set_cons_zero, List.set_cons_succ]
  refine wl_step (st_alloc (zs := ints .u64 (List.replicate 5 0)) hE6 rfl rfl (fun w => by kernel_rfl) ?_)
  intro g4 w7 hb7 hE7
  clear hE6
  simp only [Act.put, List.setIfInBounds_toArray, List.set_cons_zero, List.set_cons_succ]
  refine wl_step (st_store (i := 0) hE7 rfl rfl rfl rfl rfl (sz_of (n := 5) (by kernel_rfl) (by first | (simp only [ints_size, digs_length, List.length_replicate, List.length_cons, List.length_nil]; done) | (simp only [ints_size, digs_length, List.length_replicate, List.length_cons, List.length_nil, List.length_set, List.length_append]; omega) | rfl)) (by first | (simp only [ints_size, digs_length, List.length_replicate, List.length_cons, List.length_nil]; done) | (simp only [ints_size, digs_length, List.length_replicate, List.length_cons, List.length_nil, List.length_set, List.length_append]; omega) | rfl) (by first | exact ints_one _ _ | decide | simp [*]) ?_)
  intro w8 hE8
  clear hE7
  simp only [List.set_cons_zero, List.set_cons_succ] at hE8
  simp only [Act.put, List.setIfInBounds_toArray, List.set_cons_zero, List.set_cons_succ]
  refine wl_step (st_val rfl (v_moveT (.inr rfl) rfl) ?_)
  simp only [Act.put, List.setIfInBounds_toArray, List.set_cons_zero, List.set_cons_succ]
  repeat ((fail_if_success (with_reducible show wpList _ _ _ (List.cons _ _) _ _)); (fail_if_success (with_reducible show Code.wp _ (Code.region _ _ true) _ _ _)); go_step)
  refine wp_region_env 9 (by kernel_rfl) (by kernel_rfl) (fun _ _ d _ _ h => by cases d <;> exact h) hE8 ?_
  refine headRun_val (fun w9 hW => (v_load (i := 4) hW rfl rfl rfl Try.underlying22 rfl (sz_of (n := 32) (by kernel_rfl) (by first | (simp only [ints_size, digs_length, List.length_replicate, List.length_cons, List.length_nil]; done) | (simp only [ints_size, digs_length, List.length_replicate, List.length_cons, List.length_nil, List.length_set, List.length_append]; omega) | rfl))) w9 (Below.refl _ _)) ?_
  simp only [Act.put, List.setIfInBounds_toArray, List.set_cons_zero, List.set_cons_succ]
  refine headRun_call (fun w1 => run_call rfl Try.call21) (fun w1 hW => HRA.out _) ?_
  simp only [Act.put, List.setIfInBounds_toArray, List.set_cons_zero, List.set_cons_succ]
  refine headRun_val (fun w9 hW => (v_load (i := 3) hW rfl rfl rfl Try.underlying22 rfl (sz_of (n := 32) (by kernel_rfl) (by first | (simp only [ints_size, digs_length, List.length_replicate, List.length_cons, List.length_nil]; done) | (simp only [ints_size, digs_length, List.length_replicate, List.length_cons, List.length_nil, List.length_set, List.length_append]; omega) | rfl))) w9 (Below.refl _ _)) ?_
  simp only [Act.put, List.setIfInBounds_toArray, List.set_cons_zero, List.set_cons_succ]
  refine headRun_call (fun w1 => run_call rfl Try.call21) (fun w1 hW => HRB.out _) ?_
  simp only [Act.put, List.setIfInBounds_toArray, List.set_cons_zero, List.set_cons_succ]
  refine headRun_call (fun w1 => run_call rfl Try.call20) (fun w1 hW => KR.out _) ?_
  simp only [Act.put, List.setIfInBounds_toArray, List.set_cons_zero, List.set_cons_succ]
  refine headRun_val (fun w9 hW => (v_moveT (.inl rfl) rfl) w9 (Below.refl _ _)) ?_
  simp only [Act.put, List.setIfInBounds_toArray, List.set_cons_zero, List.set_cons_succ]
  refine headRun_val (fun w9 hW => (v_extract rfl rfl rfl) w9 (Below.refl _ _)) ?_
  simp only [Act.put, List.setIfInBounds_toArray, List.set_cons_zero, List.set_cons_succ]
  refine headRun_val (fun w9 hW => (v_extract rfl rfl rfl) w9 (Below.refl _ _)) ?_
  simp only [Act.put, List.setIfInBounds_toArray, List.set_cons_zero, List.set_cons_succ]
  refine headRun_alloc (zs := ints .u32 (List.replicate 8 0)) rfl rfl (fun w => by kernel_rfl) ?_
  simp only [Act.put, List.setIfInBounds_toArray, List.set_cons_zero, List.set_cons_succ]
  refine headRun_nil (endK1 ?_)
  intro g5 w9 hE9
  clear hE8
  simp only [List.drop_succ_cons, List.drop_zero, Act.put, List.setIfInBounds_toArray, List.set_cons_zero, List.set_cons_succ]
  refine wl_step (st_store (i := 0) hE9 rfl rfl rfl rfl rfl (sz_of (n := 8) (by kernel_rfl) (by first | (simp only [ints_size, digs_length, List.length_replicate, List.length_cons, List.length_nil]; done) | (simp only [ints_size, digs_length, List.length_replicate, List.length_cons, List.length_nil, List.length_set, List.length_append]; omega) | rfl)) (by first | (simp only [ints_size, digs_length, List.length_replicate, List.length_cons, List.length_nil]; done) | (simp only [ints_size, digs_length, List.length_replicate, List.length_cons, List.length_nil, List.length_set, List.length_append]; omega) | rfl) (by first | exact ints_one _ _ | decide | simp [*]) ?_)
  intro w10 hE10
  clear hE9
  simp only [List.set_cons_zero, List.set_cons_succ] at hE10
  simp only [Act.put, List.setIfInBounds_toArray, List.set_cons_zero, List.set_cons_succ]
  refine wl_step (st_val rfl (v_moveT (.inr rfl) rfl) ?_)
  simp only [Act.put, List.setIfInBounds_toArray, List.set_cons_zero, List.set_cons_succ]
  repeat ((fail_if_success (with_reducible show wpList _ _ _ (List.cons _ _) _ _)); (fail_if_success (with_reducible show Code.wp _ (Code.region _ _ true) _ _ _)); go_step)
  refine wp_region_B (n := 10) 10 (by kernel_rfl) rfl hE10 ?_
  intro w11 hb11 hE11
  clear hE10
  refine wpB_take (i := 0) (by kernel_rfl) rfl (by kernel_rfl) (fun _ _ _ h => h) rfl (v_moveT (.inl rfl) rfl) ?_
  simp only [Act.put, List.setIfInBounds_toArray, List.set_cons_zero, List.set_cons_succ]
  refine wpB_take (i := 1) (by kernel_rfl) rfl (by kernel_rfl) (fun _ _ _ h => h) rfl (v_moveT (.inl rfl) rfl) ?_
  simp only [Act.put, List.setIfInBounds_toArray, List.set_cons_zero, List.set_cons_succ]
  refine wpB_take (i := 2) (by kernel_rfl) rfl (by kernel_rfl) (fun _ _ _ h => h) rfl (v_neBs rfl rfl rfl Try.underlying4) ?_
  simp only [Act.put, List.setIfInBounds_toArray, List.set_cons_zero, List.set_cons_succ]
  refine wpB_take (i := 3) (by kernel_rfl) rfl (by kernel_rfl) (fun _ _ _ h => h) rfl (v_moveT (.inl rfl) rfl) ?_
  simp only [Act.put, List.setIfInBounds_toArray, List.set_cons_zero, List.set_cons_succ]
  refine wpB_take (i := 4) (by kernel_rfl) rfl (by kernel_rfl) (fun _ _ _ h => h) rfl (v_load (i := 1) hE11 rfl rfl rfl Try.underlying26 rfl (sz_of (n := 5) (by kernel_rfl) (by first | (simp only [ints_size, digs_length, List.length_replicate, List.length_cons, List.length_nil]; done) | (simp only [ints_size, digs_length, List.length_replicate, List.length_cons, List.length_nil, List.length_set, List.length_append]; omega) | rfl))) ?_
  simp only [Act.put, List.setIfInBounds_toArray, List.set_cons_zero, List.set_cons_succ]
  refine wpB_take (i := 6) (by kernel_rfl) rfl (by kernel_rfl) (fun _ _ _ h => h) rfl (v_load (i := 0) hE11 rfl rfl rfl Try.underlying38 rfl (sz_of (n := 8) (by kernel_rfl) (by first | (simp only [ints_size, digs_length, List.length_replicate, List.length_cons, List.length_nil]; done) | (simp only [ints_size, digs_length, List.length_replicate, List.length_cons, List.length_nil, List.length_set, List.length_append]; omega) | rfl))) ?_
  simp only [Act.put, List.setIfInBounds_toArray, List.set_cons_zero, List.set_cons_succ]
  refine wpB_step (i := 5) (by kernel_rfl) rfl (st_gives hE11 rfl (run_call rfl Try.call22) (B1.out _) ?_)
  intro w12 hb12 hE12
  clear hE11
  refine ⟨fun _ => hb12, ?_⟩
  simp only [Act.put, List.setIfInBounds_toArray, List.set_cons_zero, List.set_cons_succ]
  refine wpB_step (i := 7) (by kernel_rfl) rfl (st_gives hE12 rfl (run_call rfl Try.call23) (B2.out _) ?_)
  intro w13 hb13 hE13
  clear hE12
  refine ⟨fun _ => hb13, ?_⟩
  simp only [Act.put, List.setIfInBounds_toArray, List.set_cons_zero, List.set_cons_succ]
  refine wpB_take (i := 8) (by kernel_rfl) rfl (by kernel_rfl) (fun _ _ _ h => h) rfl (v_ne32s rfl rfl rfl hdl) ?_
  simp only [Act.put, List.setIfInBounds_toArray, List.set_cons_zero, List.set_cons_succ]
  refine wpB_take (i := 9) (by kernel_rfl) rfl (by kernel_rfl) (fun _ _ _ h => h) rfl (v_or rfl rfl (fun _ => rfl)) ?_
  simp only [Act.put, List.setIfInBounds_toArray, List.set_cons_zero, List.set_cons_succ]
  refine wpB_done (by kernel_rfl) ?_ _
  repeat ((fail_if_success (with_reducible show wpList _ _ _ (List.cons _ _) _ _)); (fail_if_success (with_reducible show Code.wp _ (Code.region _ _ true) _ _ _)); (fail_if_success (with_reducible show Code.wp _ (Code.cond _ _ _) _ _ _)); go_step)
  refine wp_cond_false (by first | rfl | exact congrArg Value.bool (decide_eq_false (by omega))) ?_
  skip
  repeat ((fail_if_success (with_reducible show wpList _ _ _ (List.cons _ _) _ _)); (fail_if_success (with_reducible show Code.wp _ (Code.region _ _ true) _ _ _)); go_step)
  refine wp_region_env 11 (by kernel_rfl) (by kernel_rfl) (fun _ _ d _ _ h => by cases d <;> exact h) hE13 ?_
  refine headRun_val (fun w9 hW => (v_load (i := 2) hW rfl rfl rfl Try.underlying26 rfl (sz_of (n := 5) (by kernel_rfl) (by first | (simp only [ints_size, digs_length, List.length_replicate, List.length_cons, List.length_nil]; done) | (simp only [ints_size, digs_length, List.length_replicate, List.length_cons, List.length_nil, List.length_set, List.length_append]; omega) | rfl))) w9 (Below.refl _ _)) ?_
  simp only [Act.put, List.setIfInBounds_toArray, List.set_cons_zero, List.set_cons_succ]
  refine headRun_val (fun w9 hW => (v_load (i := 2) hW rfl rfl rfl Try.underlying26 rfl (sz_of (n := 5) (by kernel_rfl) (by first | (simp only [ints_size, digs_length, List.length_replicate, List.length_cons, List.length_nil]; done) | (simp only [ints_size, digs_length, List.length_replicate, List.length_cons, List.length_nil, List.length_set, List.length_append]; omega) | rfl))) w9 (Below.refl _ _)) ?_
  simp only [Act.put, List.setIfInBounds_toArray, List.set_cons_zero, List.set_cons_succ]
  refine headRun_call (fun w1 => run_call rfl Try.call13) (fun w1 hW => M1.out _) ?_
  simp only [Act.put, List.setIfInBounds_toArray, List.set_cons_zero, List.set_cons_succ]
  refine headRun_val (fun w9 hW => (v_load (i := 3) hW rfl rfl rfl Try.underlying26 rfl (sz_of (n := 5) (by kernel_rfl) (by first | (simp only [ints_size, digs_length, List.length_replicate, List.length_cons, List.length_nil]; done) | (simp only [ints_size, digs_length, List.length_replicate, List.length_cons, List.length_nil, List.length_set, List.length_append]; omega) | rfl))) w9 (Below.refl _ _)) ?_
  simp only [Act.put, List.setIfInBounds_toArray, List.set_cons_zero, List.set_cons_succ]
  refine headRun_call (fun w1 => run_call rfl Try.call13) (fun w1 hW => M2.out _) ?_
  simp only [Act.put, List.setIfInBounds_toArray, List.set_cons_zero, List.set_cons_succ]
  refine headRun_val (fun w9 hW => (v_load (i := 3) hW rfl rfl rfl Try.underlying26 rfl (sz_of (n := 5) (by kernel_rfl) (by first | (simp only [ints_size, digs_length, List.length_replicate, List.length_cons, List.length_nil]; done) | (simp only [ints_size, digs_length, List.length_replicate, List.length_cons, List.length_nil, List.length_set, List.length_append]; omega) | rfl))) w9 (Below.refl _ _)) ?_
  simp only [Act.put, List.setIfInBounds_toArray, List.set_cons_zero, List.set_cons_succ]
  refine headRun_call (fun w1 => run_call rfl Try.call19) (fun w1 hW => K2.out _) ?_
  simp only [Act.put, List.setIfInBounds_toArray, List.set_cons_zero, List.set_cons_succ]
  refine headRun_val (fun w9 hW => (v_moveT (.inl rfl) rfl) w9 (Below.refl _ _)) ?_
  simp only [Act.put, List.setIfInBounds_toArray, List.set_cons_zero, List.set_cons_succ]
  refine headRun_val (fun w9 hW => (v_extract rfl rfl rfl) w9 (Below.refl _ _)) ?_
  simp only [Act.put, List.setIfInBounds_toArray, List.set_cons_zero, List.set_cons_succ]
  refine headRun_val (fun w9 hW => (v_extract rfl rfl rfl) w9 (Below.refl _ _)) ?_
  simp only [Act.put, List.setIfInBounds_toArray, List.set_cons_zero, List.set_cons_succ]
  refine headRun_alloc (zs := ints .u64 (List.replicate 5 0)) rfl rfl (fun w => by kernel_rfl) ?_
  simp only [Act.put, List.setIfInBounds_toArray, List.set_cons_zero, List.set_cons_succ]
  refine headRun_nil (endK1 ?_)
  intro g6 w14 hE14
  clear hE13
  simp only [List.drop_succ_cons, List.drop_zero, Act.put, List.setIfInBounds_toArray, List.set_cons_zero, List.set_cons_succ]
  refine wl_step (st_store (i := 0) hE14 rfl rfl rfl rfl rfl (sz_of (n := 5) (by kernel_rfl) (by first | (simp only [ints_size, digs_length, List.length_replicate, List.length_cons, List.length_nil]; done) | (simp only [ints_size, digs_length, List.length_replicate, List.length_cons, List.length_nil, List.length_set, List.length_append]; omega) | rfl)) (by first | (simp only [ints_size, digs_length, List.length_replicate, List.length_cons, List.length_nil]; done) | (simp only [ints_size, digs_length, List.length_replicate, List.length_cons, List.length_nil, List.length_set, List.length_append]; omega) | rfl) (by first | exact ints_one _ _ | decide | simp [*]) ?_)
  intro w15 hE15
  clear hE14
  simp only [List.set_cons_zero, List.set_cons_succ] at hE15
  simp only [Act.put, List.setIfInBounds_toArray, List.set_cons_zero, List.set_cons_succ]
  refine wl_step (st_val rfl (v_moveT (.inr rfl) rfl) ?_)
  simp only [Act.put, List.setIfInBounds_toArray, List.set_cons_zero, List.set_cons_succ]
  by_cases h0 : y = 0
  · have hz := HZ.out
    rw [decide_eq_true h0] at hz
    have HZ2 := Lib.hid hz
    rw [HN.out h0]
    clear hz h0 HZ
    repeat ((fail_if_success (with_reducible show wpList _ _ _ (List.cons _ _) _ _)); (fail_if_success (with_reducible show Code.wp _ (Code.region _ _ true) _ _ _)); go_step)
    refine wp_region_B (n := 24) 23 (by kernel_rfl) rfl hE15 ?_
    intro w16 hb16 hE16
    clear hE15
    refine wpB_take (i := 0) (by kernel_rfl) rfl (by kernel_rfl) (fun _ _ _ h => h) rfl (v_moveT (.inl rfl) rfl) ?_
    simp only [Act.put, List.setIfInBounds_toArray, List.set_cons_zero, List.set_cons_succ]
    refine wpB_take (i := 1) (by kernel_rfl) rfl (by kernel_rfl) (fun _ _ _ h => h) rfl (v_load (i := 4) hE16 rfl rfl rfl Try.underlying26 rfl (sz_of (n := 5) (by kernel_rfl) (by first | (simp only [ints_size, digs_length, List.length_replicate, List.length_cons, List.length_nil]; done) | (simp only [ints_size, digs_length, List.length_replicate, List.length_cons, List.length_nil, List.length_set, List.length_append]; omega) | rfl))) ?_
    simp only [Act.put, List.setIfInBounds_toArray, List.set_cons_zero, List.set_cons_succ]
    refine wpB_step (i := 2) (by kernel_rfl) rfl (st_gives hE16 rfl (run_call rfl Try.call16) (HZ2.out _) ?_)
    intro w17 hb17 hE17
    clear hE16
    refine ⟨fun _ => hb17, ?_⟩
    simp only [Act.put, List.setIfInBounds_toArray, List.set_cons_zero, List.set_cons_succ]
    refine wpB_take (i := 3) (by kernel_rfl) rfl (by kernel_rfl) (fun _ _ _ h => h) rfl (v_not rfl rfl) ?_
    simp only [Act.put, List.setIfInBounds_toArray, List.set_cons_zero, List.set_cons_succ]
    refine wpB_take (i := 4) (by kernel_rfl) rfl (by kernel_rfl) (fun _ _ _ h => h) rfl (v_eqBs rfl rfl rfl Try.underlying4) ?_
    simp only [Act.put, List.setIfInBounds_toArray, List.set_cons_zero, List.set_cons_succ]
    refine wpB_take (i := 5) (by kernel_rfl) rfl (by kernel_rfl) (fun _ _ _ h => h) rfl (v_moveT (.inl rfl) rfl) ?_
    simp only [Act.put, List.setIfInBounds_toArray, List.set_cons_zero, List.set_cons_succ]
    refine wpB_take (i := 6) (by kernel_rfl) rfl (by kernel_rfl) (fun _ _ _ h => h) rfl (v_moveT (.inl rfl) rfl) ?_
    simp only [Act.put, List.setIfInBounds_toArray, List.set_cons_zero, List.set_cons_succ]
    refine wpB_take (i := 7) (by kernel_rfl) rfl (by kernel_rfl) (fun _ _ _ h => h) rfl (v_not rfl rfl) ?_
    simp only [Act.put, List.setIfInBounds_toArray, List.set_cons_zero, List.set_cons_succ]
    refine wpB_take (i := 8) (by kernel_rfl) rfl (by kernel_rfl) (fun _ _ _ h => h) rfl (v_moveT (.inl rfl) rfl) ?_
    simp only [Act.put, List.setIfInBounds_toArray, List.set_cons_zero, List.set_cons_succ]
    refine wpB_pass (i := 9) (by kernel_rfl) rfl (by kernel_rfl) (fun _ _ _ h => h) rfl ?_
    simp only [Act.put, List.setIfInBounds_toArray, List.set_cons_zero, List.set_cons_succ]
    refine wpB_pass (i := 10) (by kernel_rfl) rfl (by kernel_rfl) (fun _ _ _ h => h) rfl ?_
    simp only [Act.put, List.setIfInBounds_toArray, List.set_cons_zero, List.set_cons_succ]
    refine wpB_pass (i := 11) (by kernel_rfl) rfl (by kernel_rfl) (fun _ _ _ h => h) rfl ?_
    simp only [Act.put, List.setIfInBounds_toArray, List.set_cons_zero, List.set_cons_succ]
    refine wpB_take (i := 12) (by kernel_rfl) rfl (by kernel_rfl) (fun _ _ _ h => h) rfl (v_orT rfl rfl) ?_
    simp only [Act.put, List.setIfInBounds_toArray, List.set_cons_zero, List.set_cons_succ]
    refine wpB_take (i := 13) (by kernel_rfl) rfl (by kernel_rfl) (fun _ _ _ h => h) rfl (v_moveT (.inl rfl) rfl) ?_
    simp only [Act.put, List.setIfInBounds_toArray, List.set_cons_zero, List.set_cons_succ]
    refine wpB_pass (i := 14) (by kernel_rfl) rfl (by kernel_rfl) (fun _ _ _ h => h) rfl ?_
    simp only [Act.put, List.setIfInBounds_toArray, List.set_cons_zero, List.set_cons_succ]
    refine wpB_pass (i := 15) (by kernel_rfl) rfl (by kernel_rfl) (fun _ _ _ h => h) rfl ?_
    simp only [Act.put, List.setIfInBounds_toArray, List.set_cons_zero, List.set_cons_succ]
    refine wpB_pass (i := 16) (by kernel_rfl) rfl (by kernel_rfl) (fun _ _ _ h => h) rfl ?_
    simp only [Act.put, List.setIfInBounds_toArray, List.set_cons_zero, List.set_cons_succ]
    refine wpB_pass (i := 17) (by kernel_rfl) rfl (by kernel_rfl) (fun _ _ _ h => h) rfl ?_
    simp only [Act.put, List.setIfInBounds_toArray, List.set_cons_zero, List.set_cons_succ]
    refine wpB_take (i := 18) (by kernel_rfl) rfl (by kernel_rfl) (fun _ _ _ h => h) rfl (v_orT rfl rfl) ?_
    simp only [Act.put, List.setIfInBounds_toArray, List.set_cons_zero, List.set_cons_succ]
    refine wpB_take (i := 19) (by kernel_rfl) rfl (by kernel_rfl) (fun _ _ _ h => h) rfl (v_and rfl rfl (fun _ => rfl)) ?_
    simp only [Act.put, List.setIfInBounds_toArray, List.set_cons_zero, List.set_cons_succ]
    refine wpB_take (i := 20) (by kernel_rfl) rfl (by kernel_rfl) (fun _ _ _ h => h) rfl (v_moveT (.inl rfl) rfl) ?_
    simp only [Act.put, List.setIfInBounds_toArray, List.set_cons_zero, List.set_cons_succ]
    refine wpB_step (i := 21) (by kernel_rfl) rfl (st_gives hE17 rfl (run_call rfl Try.call18) (awake_any _) ?_)
    intro w18 hb18 hE18
    clear hE17
    refine ⟨fun _ => hb18, ?_⟩
    simp only [Act.put, List.setIfInBounds_toArray, List.set_cons_zero, List.set_cons_succ]
    refine wpB_take (i := 22) (by kernel_rfl) rfl (by kernel_rfl) (fun _ _ _ h => h) rfl (v_and rfl rfl (fun _ => rfl)) ?_
    simp only [Act.put, List.setIfInBounds_toArray, List.set_cons_zero, List.set_cons_succ]
    refine wpB_step (i := 23) (by kernel_rfl) rfl (st_val rfl (v_moveT (.inr rfl) rfl) ?_)
    refine ⟨fun _ => Below.refl _ _, ?_⟩
    simp only [Act.put, List.setIfInBounds_toArray, List.set_cons_zero, List.set_cons_succ]
    refine wpB_done (by kernel_rfl) ?_ _
    repeat ((fail_if_success (with_reducible show wpList _ _ _ (List.cons _ _) _ _)); (fail_if_success (with_reducible show Code.wp _ (Code.region _ _ true) _ _ _)); go_step)
    go_returns
    exact ⟨rfl, hE18.below⟩
  · have hz := HZ.out
    rw [decide_eq_false h0] at hz
    have HZ2 := Lib.hid hz
    have hs1 := S1.out
    have hs2 := S2.out
    rw [HQ.out h0] at hs1 hs2 ⊢
    by_cases h1 : evenN x = x
    · rw [decide_eq_true h1] at hs1
      have HS1 := Lib.hid hs1
      clear hz h0 HZ hs1 h1 hs2
      repeat ((fail_if_success (with_reducible show wpList _ _ _ (List.cons _ _) _ _)); (fail_if_success (with_reducible show Code.wp _ (Code.region _ _ true) _ _ _)); go_step)
      refine wp_region_B (n := 24) 23 (by kernel_rfl) rfl hE15 ?_
      intro w16 hb16 hE16
      clear hE15
      refine wpB_take (i := 0) (by kernel_rfl) rfl (by kernel_rfl) (fun _ _ _ h => h) rfl (v_moveT (.inl rfl) rfl) ?_
      simp only [Act.put, List.setIfInBounds_toArray, List.set_cons_zero, List.set_cons_succ]
      refine wpB_take (i := 1) (by kernel_rfl) rfl (by kernel_rfl) (fun _ _ _ h => h) rfl (v_load (i := 4) hE16 rfl rfl rfl Try.underlying26 rfl (sz_of (n := 5) (by kernel_rfl) (by first | (simp only [ints_size, digs_length, List.length_replicate, List.length_cons, List.length_nil]; done) | (simp only [ints_size, digs_length, List.length_replicate, List.length_cons, List.length_nil, List.length_set, List.length_append]; omega) | rfl))) ?_
      simp only [Act.put, List.setIfInBounds_toArray, List.set_cons_zero, List.set_cons_succ]
      refine wpB_step (i := 2) (by kernel_rfl) rfl (st_gives hE16 rfl (run_call rfl Try.call16) (HZ2.out _) ?_)
      intro w17 hb17 hE17
      clear hE16
      refine ⟨fun _ => hb17, ?_⟩
      simp only [Act.put, List.setIfInBounds_toArray, List.set_cons_zero, List.set_cons_succ]
      refine wpB_take (i := 3) (by kernel_rfl) rfl (by kernel_rfl) (fun _ _ _ h => h) rfl (v_not rfl rfl) ?_
      simp only [Act.put, List.setIfInBounds_toArray, List.set_cons_zero, List.set_cons_succ]
      refine wpB_take (i := 4) (by kernel_rfl) rfl (by kernel_rfl) (fun _ _ _ h => h) rfl (v_eqBs rfl rfl rfl Try.underlying4) ?_
      simp only [Act.put, List.setIfInBounds_toArray, List.set_cons_zero, List.set_cons_succ]
      refine wpB_take (i := 5) (by kernel_rfl) rfl (by kernel_rfl) (fun _ _ _ h => h) rfl (v_moveT (.inl rfl) rfl) ?_
      simp only [Act.put, List.setIfInBounds_toArray, List.set_cons_zero, List.set_cons_succ]
      refine wpB_take (i := 6) (by kernel_rfl) rfl (by kernel_rfl) (fun _ _ _ h => h) rfl (v_moveT (.inl rfl) rfl) ?_
      simp only [Act.put, List.setIfInBounds_toArray, List.set_cons_zero, List.set_cons_succ]
      refine wpB_take (i := 7) (by kernel_rfl) rfl (by kernel_rfl) (fun _ _ _ h => h) rfl (v_not rfl rfl) ?_
      simp only [Act.put, List.setIfInBounds_toArray, List.set_cons_zero, List.set_cons_succ]
      refine wpB_take (i := 8) (by kernel_rfl) rfl (by kernel_rfl) (fun _ _ _ h => h) rfl (v_moveT (.inl rfl) rfl) ?_
      simp only [Act.put, List.setIfInBounds_toArray, List.set_cons_zero, List.set_cons_succ]
      refine wpB_take (i := 9) (by kernel_rfl) rfl (by kernel_rfl) (fun _ _ _ h => h) rfl (v_load (i := 0) hE17 rfl rfl rfl Try.underlying26 rfl (sz_of (n := 5) (by kernel_rfl) (by first | (simp only [ints_size, digs_length, List.length_replicate, List.length_cons, List.length_nil]; done) | (simp only [ints_size, digs_length, List.length_replicate, List.length_cons, List.length_nil, List.length_set, List.length_append]; omega) | rfl))) ?_
      simp only [Act.put, List.setIfInBounds_toArray, List.set_cons_zero, List.set_cons_succ]
      refine wpB_take (i := 10) (by kernel_rfl) rfl (by kernel_rfl) (fun _ _ _ h => h) rfl (v_load (i := 3) hE17 rfl rfl rfl Try.underlying26 rfl (sz_of (n := 5) (by kernel_rfl) (by first | (simp only [ints_size, digs_length, List.length_replicate, List.length_cons, List.length_nil]; done) | (simp only [ints_size, digs_length, List.length_replicate, List.length_cons, List.length_nil, List.length_set, List.length_append]; omega) | rfl))) ?_
      simp only [Act.put, List.setIfInBounds_toArray, List.set_cons_zero, List.set_cons_succ]
      refine wpB_step (i := 11) (by kernel_rfl) rfl (st_gives hE17 rfl (run_call rfl Try.call12) (HS1.out _) ?_)
      intro w18 hb18 hE18
      clear hE17
      refine ⟨fun _ => hb18, ?_⟩
      simp only [Act.put, List.setIfInBounds_toArray, List.set_cons_zero, List.set_cons_succ]
      refine wpB_take (i := 12) (by kernel_rfl) rfl (by kernel_rfl) (fun _ _ _ h => h) rfl (v_or rfl rfl (fun _ => rfl)) ?_
      simp only [Act.put, List.setIfInBounds_toArray, List.set_cons_zero, List.set_cons_succ]
      refine wpB_take (i := 13) (by kernel_rfl) rfl (by kernel_rfl) (fun _ _ _ h => h) rfl (v_moveT (.inl rfl) rfl) ?_
      simp only [Act.put, List.setIfInBounds_toArray, List.set_cons_zero, List.set_cons_succ]
      refine wpB_pass (i := 14) (by kernel_rfl) rfl (by kernel_rfl) (fun _ _ _ h => h) rfl ?_
      simp only [Act.put, List.setIfInBounds_toArray, List.set_cons_zero, List.set_cons_succ]
      refine wpB_pass (i := 15) (by kernel_rfl) rfl (by kernel_rfl) (fun _ _ _ h => h) rfl ?_
      simp only [Act.put, List.setIfInBounds_toArray, List.set_cons_zero, List.set_cons_succ]
      refine wpB_pass (i := 16) (by kernel_rfl) rfl (by kernel_rfl) (fun _ _ _ h => h) rfl ?_
      simp only [Act.put, List.setIfInBounds_toArray, List.set_cons_zero, List.set_cons_succ]
      refine wpB_pass (i := 17) (by kernel_rfl) rfl (by kernel_rfl) (fun _ _ _ h => h) rfl ?_
      simp only [Act.put, List.setIfInBounds_toArray, List.set_cons_zero, List.set_cons_succ]
      refine wpB_take (i := 18) (by kernel_rfl) rfl (by kernel_rfl) (fun _ _ _ h => h) rfl (v_orT rfl rfl) ?_
      simp only [Act.put, List.setIfInBounds_toArray, List.set_cons_zero, List.set_cons_succ]
      refine wpB_take (i := 19) (by kernel_rfl) rfl (by kernel_rfl) (fun _ _ _ h => h) rfl (v_and rfl rfl (fun _ => rfl)) ?_
      simp only [Act.put, List.setIfInBounds_toArray, List.set_cons_zero, List.set_cons_succ]
      refine wpB_take (i := 20) (by kernel_rfl) rfl (by kernel_rfl) (fun _ _ _ h => h) rfl (v_moveT (.inl rfl) rfl) ?_
      simp only [Act.put, List.setIfInBounds_toArray, List.set_cons_zero, List.set_cons_succ]
      refine wpB_step (i := 21) (by kernel_rfl) rfl (st_gives hE18 rfl (run_call rfl Try.call18) (awake_any _) ?_)
      intro w19 hb19 hE19
      clear hE18
      refine ⟨fun _ => hb19, ?_⟩
      simp only [Act.put, List.setIfInBounds_toArray, List.set_cons_zero, List.set_cons_succ]
      refine wpB_take (i := 22) (by kernel_rfl) rfl (by kernel_rfl) (fun _ _ _ h => h) rfl (v_and rfl rfl (fun _ => rfl)) ?_
      simp only [Act.put, List.setIfInBounds_toArray, List.set_cons_zero, List.set_cons_succ]
      refine wpB_step (i := 23) (by kernel_rfl) rfl (st_val rfl (v_moveT (.inr rfl) rfl) ?_)
      refine ⟨fun _ => Below.refl _ _, ?_⟩
      simp only [Act.put, List.setIfInBounds_toArray, List.set_cons_zero, List.set_cons_succ]
      refine wpB_done (by kernel_rfl) ?_ _
      repeat ((fail_if_success (with_reducible show wpList _ _ _ (List.cons _ _) _ _)); (fail_if_success (with_reducible show Code.wp _ (Code.region _ _ true) _ _ _)); go_step)
      go_returns
      exact ⟨rfl, hE19.below⟩
    · rw [decide_eq_false h1] at hs1
      have h2 := HE.out.resolve_left h1
      rw [decide_eq_true h2] at hs2
      have HS1 := Lib.hid hs1
      have HS2 := Lib.hid hs2
      clear hz h0 HZ hs1 h1 hs2 h2
      repeat ((fail_if_success (with_reducible show wpList _ _ _ (List.cons _ _) _ _)); (fail_if_success (with_reducible show Code.wp _ (Code.region _ _ true) _ _ _)); go_step)
      refine wp_region_B (n := 24) 23 (by kernel_rfl) rfl hE15 ?_
      intro w16 hb16 hE16
      clear hE15
      refine wpB_take (i := 0) (by kernel_rfl) rfl (by kernel_rfl) (fun _ _ _ h => h) rfl (v_moveT (.inl rfl) rfl) ?_
      simp only [Act.put, List.setIfInBounds_toArray, List.set_cons_zero, List.set_cons_succ]
      refine wpB_take (i := 1) (by kernel_rfl) rfl (by kernel_rfl) (fun _ _ _ h => h) rfl (v_load (i := 4) hE16 rfl rfl rfl Try.underlying26 rfl (sz_of (n := 5) (by kernel_rfl) (by first | (simp only [ints_size, digs_length, List.length_replicate, List.length_cons, List.length_nil]; done) | (simp only [ints_size, digs_length, List.length_replicate, List.length_cons, List.length_nil, List.length_set, List.length_append]; omega) | rfl))) ?_
      simp only [Act.put, List.setIfInBounds_toArray, List.set_cons_zero, List.set_cons_succ]
      refine wpB_step (i := 2) (by kernel_rfl) rfl (st_gives hE16 rfl (run_call rfl Try.call16) (HZ2.out _) ?_)
      intro w17 hb17 hE17
      clear hE16
      refine ⟨fun _ => hb17, ?_⟩
      simp only [Act.put, List.setIfInBounds_toArray, List.set_cons_zero, List.set_cons_succ]
      refine wpB_take (i := 3) (by kernel_rfl) rfl (by kernel_rfl) (fun _ _ _ h => h) rfl (v_not rfl rfl) ?_
      simp only [Act.put, List.setIfInBounds_toArray, List.set_cons_zero, List.set_cons_succ]
      refine wpB_take (i := 4) (by kernel_rfl) rfl (by kernel_rfl) (fun _ _ _ h => h) rfl (v_eqBs rfl rfl rfl Try.underlying4) ?_
      simp only [Act.put, List.setIfInBounds_toArray, List.set_cons_zero, List.set_cons_succ]
      refine wpB_take (i := 5) (by kernel_rfl) rfl (by kernel_rfl) (fun _ _ _ h => h) rfl (v_moveT (.inl rfl) rfl) ?_
      simp only [Act.put, List.setIfInBounds_toArray, List.set_cons_zero, List.set_cons_succ]
      refine wpB_take (i := 6) (by kernel_rfl) rfl (by kernel_rfl) (fun _ _ _ h => h) rfl (v_moveT (.inl rfl) rfl) ?_
      simp only [Act.put, List.setIfInBounds_toArray, List.set_cons_zero, List.set_cons_succ]
      refine wpB_take (i := 7) (by kernel_rfl) rfl (by kernel_rfl) (fun _ _ _ h => h) rfl (v_not rfl rfl) ?_
      simp only [Act.put, List.setIfInBounds_toArray, List.set_cons_zero, List.set_cons_succ]
      refine wpB_take (i := 8) (by kernel_rfl) rfl (by kernel_rfl) (fun _ _ _ h => h) rfl (v_moveT (.inl rfl) rfl) ?_
      simp only [Act.put, List.setIfInBounds_toArray, List.set_cons_zero, List.set_cons_succ]
      refine wpB_take (i := 9) (by kernel_rfl) rfl (by kernel_rfl) (fun _ _ _ h => h) rfl (v_load (i := 0) hE17 rfl rfl rfl Try.underlying26 rfl (sz_of (n := 5) (by kernel_rfl) (by first | (simp only [ints_size, digs_length, List.length_replicate, List.length_cons, List.length_nil]; done) | (simp only [ints_size, digs_length, List.length_replicate, List.length_cons, List.length_nil, List.length_set, List.length_append]; omega) | rfl))) ?_
      simp only [Act.put, List.setIfInBounds_toArray, List.set_cons_zero, List.set_cons_succ]
      refine wpB_take (i := 10) (by kernel_rfl) rfl (by kernel_rfl) (fun _ _ _ h => h) rfl (v_load (i := 3) hE17 rfl rfl rfl Try.underlying26 rfl (sz_of (n := 5) (by kernel_rfl) (by first | (simp only [ints_size, digs_length, List.length_replicate, List.length_cons, List.length_nil]; done) | (simp only [ints_size, digs_length, List.length_replicate, List.length_cons, List.length_nil, List.length_set, List.length_append]; omega) | rfl))) ?_
      simp only [Act.put, List.setIfInBounds_toArray, List.set_cons_zero, List.set_cons_succ]
      refine wpB_step (i := 11) (by kernel_rfl) rfl (st_gives hE17 rfl (run_call rfl Try.call12) (HS1.out _) ?_)
      intro w18 hb18 hE18
      clear hE17
      refine ⟨fun _ => hb18, ?_⟩
      simp only [Act.put, List.setIfInBounds_toArray, List.set_cons_zero, List.set_cons_succ]
      refine wpB_take (i := 12) (by kernel_rfl) rfl (by kernel_rfl) (fun _ _ _ h => h) rfl (v_or rfl rfl (fun _ => rfl)) ?_
      simp only [Act.put, List.setIfInBounds_toArray, List.set_cons_zero, List.set_cons_succ]
      refine wpB_take (i := 13) (by kernel_rfl) rfl (by kernel_rfl) (fun _ _ _ h => h) rfl (v_moveT (.inl rfl) rfl) ?_
      simp only [Act.put, List.setIfInBounds_toArray, List.set_cons_zero, List.set_cons_succ]
      refine wpB_take (i := 14) (by kernel_rfl) rfl (by kernel_rfl) (fun _ _ _ h => h) rfl (v_load (i := 0) hE18 rfl rfl rfl Try.underlying26 rfl (sz_of (n := 5) (by kernel_rfl) (by first | (simp only [ints_size, digs_length, List.length_replicate, List.length_cons, List.length_nil]; done) | (simp only [ints_size, digs_length, List.length_replicate, List.length_cons, List.length_nil, List.length_set, List.length_append]; omega) | rfl))) ?_
      simp only [Act.put, List.setIfInBounds_toArray, List.set_cons_zero, List.set_cons_succ]
      refine wpB_take (i := 15) (by kernel_rfl) rfl (by kernel_rfl) (fun _ _ _ h => h) rfl (v_load (i := 3) hE18 rfl rfl rfl Try.underlying26 rfl (sz_of (n := 5) (by kernel_rfl) (by first | (simp only [ints_size, digs_length, List.length_replicate, List.length_cons, List.length_nil]; done) | (simp only [ints_size, digs_length, List.length_replicate, List.length_cons, List.length_nil, List.length_set, List.length_append]; omega) | rfl))) ?_
      simp only [Act.put, List.setIfInBounds_toArray, List.set_cons_zero, List.set_cons_succ]
      refine wpB_step (i := 16) (by kernel_rfl) rfl (st_gives hE18 rfl (run_call rfl Try.call15) (N1.out _) ?_)
      intro w19 hb19 hE19
      clear hE18
      refine ⟨fun _ => hb19, ?_⟩
      simp only [Act.put, List.setIfInBounds_toArray, List.set_cons_zero, List.set_cons_succ]
      refine wpB_step (i := 17) (by kernel_rfl) rfl (st_gives hE19 rfl (run_call rfl Try.call12) (HS2.out _) ?_)
      intro w20 hb20 hE20
      clear hE19
      refine ⟨fun _ => hb20, ?_⟩
      simp only [Act.put, List.setIfInBounds_toArray, List.set_cons_zero, List.set_cons_succ]
      refine wpB_take (i := 18) (by kernel_rfl) rfl (by kernel_rfl) (fun _ _ _ h => h) rfl (v_or rfl rfl (fun _ => rfl)) ?_
      simp only [Act.put, List.setIfInBounds_toArray, List.set_cons_zero, List.set_cons_succ]
      refine wpB_take (i := 19) (by kernel_rfl) rfl (by kernel_rfl) (fun _ _ _ h => h) rfl (v_and rfl rfl (fun _ => rfl)) ?_
      simp only [Act.put, List.setIfInBounds_toArray, List.set_cons_zero, List.set_cons_succ]
      refine wpB_take (i := 20) (by kernel_rfl) rfl (by kernel_rfl) (fun _ _ _ h => h) rfl (v_moveT (.inl rfl) rfl) ?_
      simp only [Act.put, List.setIfInBounds_toArray, List.set_cons_zero, List.set_cons_succ]
      refine wpB_step (i := 21) (by kernel_rfl) rfl (st_gives hE20 rfl (run_call rfl Try.call18) (awake_any _) ?_)
      intro w21 hb21 hE21
      clear hE20
      refine ⟨fun _ => hb21, ?_⟩
      simp only [Act.put, List.setIfInBounds_toArray, List.set_cons_zero, List.set_cons_succ]
      refine wpB_take (i := 22) (by kernel_rfl) rfl (by kernel_rfl) (fun _ _ _ h => h) rfl (v_and rfl rfl (fun _ => rfl)) ?_
      simp only [Act.put, List.setIfInBounds_toArray, List.set_cons_zero, List.set_cons_succ]
      refine wpB_step (i := 23) (by kernel_rfl) rfl (st_val rfl (v_moveT (.inr rfl) rfl) ?_)
      refine ⟨fun _ => Below.refl _ _, ?_⟩
      simp only [Act.put, List.setIfInBounds_toArray, List.set_cons_zero, List.set_cons_succ]
      refine wpB_done (by kernel_rfl) ?_ _
      repeat ((fail_if_success (with_reducible show wpList _ _ _ (List.cons _ _) _ _)); (fail_if_success (with_reducible show Code.wp _ (Code.region _ _ true) _ _ _)); go_step)
      go_returns
      exact ⟨rfl, hE21.below⟩
set_option maxRecDepth 100000 in
theorem fieldRoots_lifted (os : Os) (started : os.Started) (H : Type) (enc : TypeId × Value → H) :
    ReturnsInHanded {} Try.checked os 4 .any (Rows.fieldRootsSpec.pre6 enc Try.prog Try.f4 Rows.fieldRootsRow.domain false) (Rows.fieldRootsSpec.post enc Try.prog Try.f4 false true false false) := by
  refine returnsInHanded_of_change (C := Try.checked) own started (by kernel_rfl) Try.func4
    (ChangeSpec.witness6 (enc := enc) (C := Try.checked) false ⟨#[], #[.agg (ints .u8 (List.replicate 32 0)), .agg (ints .u8 (List.replicate 32 0))], []⟩ 8 (by kernel_rfl) (by kernel_rfl) (by kernel_rfl) (by kernel_rfl)) ?_
  intro W base args ds gs before hval0 hW hcnd _
  have hval : ∀ (j : Nat) t v, Try.f4.params[j]? = some t → args[j]? = some v → Value.okWide Try.prog W .any base t v := hval0
  have hW' := hW
  obtain ⟨p, q, hA0, hV, rfl, hfz, hnd⟩ := hW
  have hA : DataW.TrodAll enc Try.prog W 0 (fun _ => true) true Try.f4.params.toList args.toList ds p := hA0
  rw [Try.params4] at hA hval
  obtain ⟨v0, vs0, d0, ds0, p0, q0, hargs, rfl, rfl, h0, r0⟩ := trodAll_cons hA
  obtain ⟨v1, vs1, d1, ds1, p1, q1, rfl, rfl, rfl, h1, r1⟩ := trodAll_cons r0
  obtain ⟨rfl, rfl, rfl⟩ := trodAll_nil r1
  obtain rfl : args = #[v0, v1] := by cases args; simp_all
  obtain ⟨rfl, rfl⟩ := trodVars_none hV
  have k0 := h0
  have lt0 : ∀ x ∈ p0, x.block < W.heap.size := by obtain ⟨m, hm⟩ := k0; exact DataW.trod_lt m _ _ _ hm
  have k1 := h1
  have lt1 : ∀ x ∈ p1, x.block < W.heap.size := by obtain ⟨m, hm⟩ := k1; exact DataW.trod_lt m _ _ _ hm
  obtain ⟨l0, rfl, hl0, dl0⟩ := open_u8s Try.underlying22 Try.underlying5 (by kernel_rfl) (by kernel_rfl) (hval 0 22 v0 rfl rfl) h0
  obtain ⟨l1, rfl, hl1, dl1⟩ := open_u8s Try.underlying22 Try.underlying5 (by kernel_rfl) (by kernel_rfl) (hval 1 22 v1 rfl rfl) h1
  clear hA0 hval0
  refine (fieldRoots_walk l0 l1 hl0 hl1 dl0 dl1 W).mono fun e W' ⟨he, bel⟩ => ?_
  subst he
  exact ⟨_, rfl, _, _, _, [], _, [], hW', trodAll_mk1 (shut_bool Try.underlying4 _), (trodAll_cons_mk (Below.trod laidOut (by kernel_rfl) (of_decide_eq_true (by kernel_rfl)) k0 bel lt0) (trodAll_cons_mk (Below.trod laidOut (by kernel_rfl) (of_decide_eq_true (by kernel_rfl)) k1 bel lt1) trodAll_mk0)), rfl, bel.frame _, fun h => by cases h⟩

theorem fieldRoots_over : Rows.fieldRootsRow.holds Try.pinned (OpenSpec.ofChange Rows.fieldRootsSpec) :=
  OpenClaim.holds_of_wide 4 Try.f4 rfl rfl rfl rfl rfl rfl rfl ⟨rfl, rfl, rfl, rfl, rfl⟩ rfl rfl rfl rfl rfl (by kernel_rfl) Try.func4 (by kernel_rfl)
    (of_decide_eq_true (by kernel_rfl)) (by unfold Func.isWrapper; first | (rw [if_pos (by decide +kernel)]; kernel_rfl) | (rw [if_neg (by decide +kernel)]; exact ⟨rfl, rfl⟩))
    (fun os started H enc _ => fieldRoots_lifted os started H enc)

theorem fieldRoots_holds : Rows.FieldRootsSaid := fieldRoots_over

#print axioms fieldRoots_holds
end Go.Proofs.Ytlejdddhgnfkdaa
