/-
  Layer 4: the root of a quotient.
  Plain: powers by squares; one digit set; the root of 4.
-/
import Derived.Test.YthddoelflmoedaaJ13
namespace Go.Proofs.Ythddoelflmoedaa
open Go.RowKit
set_option maxRecDepth 100000
set_option linter.unusedVariables false
set_option linter.unusedSimpArgs false

/-- A root of u / v, if there is one: up to a root of -1. -/
def rootR (U V : Nat) : Nat := U * V ^ 3 * (U * V ^ 7) ^ ((pN - 5) / 8) % pN
/-- Of a number and its negative the one that isn't odd. -/
def evenN (r : Nat) : Nat := if r % 2 = 1 then (pN - r) % pN else r
def rootN (U V : Nat) : Nat × Bool :=
  if V % pN = 0 then (0, false)
  else if V * rootR U V * rootR U V % pN = U % pN then (evenN (rootR U V), true)
  else if V * rootR U V * rootR U V % pN = (pN - U % pN) % pN then (evenN (rootR U V * unitN % pN), true)
  else (0, false)

theorem mod_mul_l {a b c n : Nat} (h : a % n = b % n) : a * c % n = b * c % n := by rw [Nat.mul_mod, h, ← Nat.mul_mod]
theorem mod_mul_r {a b c n : Nat} (h : a % n = b % n) : c * a % n = c * b % n := by rw [Nat.mul_comm, mod_mul_l h, Nat.mul_comm]
theorem mod_mul2 {a b c d n : Nat} (h : a % n = b % n) (h' : c % n = d % n) : a * c % n = b * d % n := (mod_mul_l h).trans (mod_mul_r h')
theorem mod_pow {a b n : Nat} (h : a % n = b % n) : ∀ k, a ^ k % n = b ^ k % n
  | 0 => rfl
  | k + 1 => by rw [Nat.pow_succ, Nat.pow_succ]; exact mod_mul2 (mod_pow h k) h

theorem Fe_ints {c : List Nat} (h : Fe c) : c.length = 5 := h.1
set_option maxRecDepth 100000 in
set_option maxHeartbeats 8000000 in
theorem Root_any {u v : List Nat} (hu : Fe u) (hv : Fe v) : ∃ c, Fe c ∧ fval c % pN = (rootN (fval u) (fval v)).1 ∧ ∀ w, Gives 41 #[elem u, elem v] w (.tuple #[elem c, .bool (rootN (fval u) (fval v)).2]) := by
  obtain ⟨c1, f1, e1, G1⟩ := Mul_any hv hv
  obtain ⟨cube, f2, e2, G2⟩ := Mul_any f1 hv
  obtain ⟨c3, f3, e3, G3⟩ := Mul_any f2 f2
  obtain ⟨sev, f4, e4, G4⟩ := Mul_any f3 hv
  obtain ⟨c5, f5, e5, G5⟩ := Mul_any hu f2
  obtain ⟨c6, f6, e6, G6⟩ := Mul_any hu f4
  obtain ⟨c7, f7, e7, G7⟩ := powFun_any f6 Try.call65 rootBit_any
  obtain ⟨r, f8, e8, G8⟩ := Mul_any f5 f7
  obtain ⟨c9, f9, e9, G9⟩ := Mul_any hv f8
  obtain ⟨fo, f10, e10, G10⟩ := Mul_any f9 f8
  obtain ⟨nu, f11, e11, G11⟩ := Neg_any hu
  obtain ⟨un, f12, e12, G12⟩ := unit_any
  obtain ⟨ru, f13, e13, G13⟩ := Mul_any f8 f12
  have Z := fun w => Zero_any hv w
  have S1 := fun w => Same_any f10 hu w
  have S2 := fun w => Same_any f10 f11 w
  -- the numbers
  have n2 : fval cube % pN = fval v ^ 3 % pN := by rw [e2, mod_mul_l (b := fval v * fval v) e1]; simp only [Nat.pow_succ, Nat.pow_zero, Nat.one_mul]
  have n4 : fval sev % pN = fval v ^ 7 % pN := by
    rw [e4, mod_mul_l (b := fval v ^ 3 * fval v ^ 3) (e3.trans (mod_mul2 n2 n2)), ← Nat.pow_add, ← Nat.pow_succ]
  have n8 : fval r % pN = rootR (fval u) (fval v) := by
    rw [e8, rootR, ← rootBit_val]
    exact mod_mul2 (e5.trans (mod_mul_r n2)) (e7.trans (mod_pow (e6.trans (mod_mul_r n4)) _))
  have n10 : fval fo % pN = fval v * rootR (fval u) (fval v) * rootR (fval u) (fval v) % pN := by
    have hr : fval r % pN = rootR (fval u) (fval v) % pN := by rw [← n8, Nat.mod_mod]
    rw [e10]
    exact mod_mul2 (e9.trans (mod_mul_r hr)) hr
  have n13 : fval ru % pN = rootR (fval u) (fval v) * unitN % pN := by
    rw [e13, e12]
    exact mod_mul_l (by rw [← n8, Nat.mod_mod])
  rw [n10, e11] at S2
  rw [n10] at S1
  have O8 := fun w => Odd_any f8 w
  have O13 := fun w => Odd_any f13 w
  obtain ⟨n8c, g8, q8, Q8⟩ := Neg_any f8
  obtain ⟨n13c, g13, q13, Q13⟩ := Neg_any f13
  rw [n8] at O8 q8
  rw [n13] at O13 q13
  have hr8 : rootR (fval u) (fval v) % pN = rootR (fval u) (fval v) := by rw [← n8, Nat.mod_mod]
  have lu := hu.1
  have lq8 := g8.1
  have lq13 := g13.1
  have lv := hv.1
  have l2 := f2.1
  have l4 := f4.1
  have l8 := f8.1
  have l10 := f10.1
  have l13 := f13.1
  have H1 := Lib.hid G1
  have H2 := Lib.hid G2
  have H3 := Lib.hid G3
  have H4 := Lib.hid G4
  have H5 := Lib.hid G5
  have H6 := Lib.hid G6
  have H7 := Lib.hid G7
  have H8 := Lib.hid G8
  have H9 := Lib.hid G9
  have H10 := Lib.hid G10
  have H11 := Lib.hid G11
  have H12 := Lib.hid G12
  have H13 := Lib.hid G13
  have HZ := Lib.hid Z
  have HS1 := Lib.hid S1
  have HS2 := Lib.hid S2
  have N8 := Lib.hid n8
  have N13 := Lib.hid n13
  have HO8 := Lib.hid O8
  have HO13 := Lib.hid O13
  have HQ8 := Lib.hid Q8
  have HQ13 := Lib.hid Q13
  have q8' := Lib.hid q8
  have q13' := Lib.hid q13
  have F8 := Lib.hid f8
  have F13 := Lib.hid f13
  have K8 := Lib.hid g8
  have K13 := Lib.hid g13
  clear O8 O13 Q8 Q13 q8 q13 f8 f13 g8 g13 hr8
  obtain ⟨U, hU⟩ : ∃ U, U = fval u := ⟨_, rfl⟩
  obtain ⟨V, hV⟩ : ∃ V, V = fval v := ⟨_, rfl⟩
  rw [← hU, ← hV] at HS1 HS2 N8 N13 HO8 HO13 q8' q13' ⊢
  rw [← hV] at HZ
  clear G1 G2 G3 G4 G5 G6 G7 G8 G9 G10 G11 G12 G13 Z S1 S2 e1 e2 e3 e4 e5 e6 e7 e8 e9 e10 e11 e12 e13 n2 n4 n8 n10 n13 f1 f2 f3 f4 f5 f6 f7 f9 f10 f11 f12 hu hv hU hV
  obtain ⟨A, hA⟩ : ∃ A, A = V * rootR U V * rootR U V % pN := ⟨_, rfl⟩
  have hroot : rootN U V = if V % pN = 0 then (0, false) else if A = U % pN then (evenN (rootR U V), true) else if A = (pN - U % pN) % pN then (evenN (rootR U V * unitN % pN), true) else (0, false) := by rw [rootN, ← hA]
  rw [← hA] at HS1 HS2
  clear hA
  have Hroot := Lib.hid hroot
  clear hroot
  by_cases hz : V % pN = 0
  · have hr : rootN U V = (0, false) := by rw [Hroot.out, if_pos hz]
    rw [hr]
    refine ⟨List.replicate 5 0, Fe_zero, by rw [show fval (List.replicate 5 0) = 0 from val_replicate _ _]; rfl, fun w => ?_⟩
    rw [decide_eq_true hz] at HZ
    clear Hroot hr HS1 HS2 hz
    have hE0 := Env.nil w
    go_enter Try.func41, Try.ntmps41
    repeat ((fail_if_success with_reducible show wA ..); (fail_if_success with_reducible show wB ..); go_step)
    refine wl_step (st_boxA hE0 rfl rfl rfl ?_)
    intro g0 w1 hb1 hE1
    clear hE0
    simp only [Act.put, pA, pB, pC]
    refine wl_step (st_boxA hE1 rfl rfl rfl ?_)
    intro g1 w2 hb2 hE2
    clear hE1
    simp only [Act.put, pA, pB, pC]
    refine wl_step (st_alloc (zs := ints .u64 (List.replicate 5 0)) hE2 rfl rfl (fun w => by kernel_rfl) ?_)
    intro g2 w3 hb3 hE3
    clear hE2
    simp only [Act.put, pA, pB, pC]
    refine wv (v_moveC (.inr rfl)) ?_
    simp only [Act.put, pA, pB, pC]
    repeat ((fail_if_success with_reducible show wA ..); (fail_if_success with_reducible show wB ..); go_step)
    refine wp_region_env 6 (by kernel_rfl) (by kernel_rfl) (fun _ _ d _ _ h => by cases d <;> exact h) hE3 ?_
    refine hv (fun _ hW => (v_load (i := 1) hW rfl rfl rfl Try.underlying41 rfl (szA (n := 5)))) ?_
    simp only [Act.put, pA, pB, pC]
    refine hv (fun _ hW => (v_load (i := 1) hW rfl rfl rfl Try.underlying41 rfl (szA (n := 5)))) ?_
    simp only [Act.put, pA, pB, pC]
    refine headRun_call (fun w1 => run_call rfl Try.call30) (fun w1 hW => H1.out _) ?_
    simp only [Act.put, pA, pB, pC]
    refine hv (fun _ hW => (v_load (i := 1) hW rfl rfl rfl Try.underlying41 rfl (szA (n := 5)))) ?_
    simp only [Act.put, pA, pB, pC]
    refine headRun_call (fun w1 => run_call rfl Try.call30) (fun w1 hW => H2.out _) ?_
    simp only [Act.put, pA, pB, pC]
    refine headRun_alloc (zs := ints .u64 (List.replicate 5 0)) rfl rfl (fun w => by kernel_rfl) ?_
    simp only [Act.put, pA, pB, pC]
    refine headRun_nil (endK1 ?_)
    intro g3 w4 hE4
    clear hE3
    simp only [List.drop_succ_cons, List.drop_zero, Act.put, pA, pB, pC]
    refine wl_step (st_store (i := 0) hE4 rfl rfl rfl rfl rfl (szA (n := 5)) (by first | (simp only [ints_size, digs_length, List.length_replicate, List.length_cons, List.length_nil]; done) | (simp only [ints_size, digs_length, List.length_replicate, List.length_cons, List.length_nil, List.length_set, List.length_append]; omega) | rfl) (by first | exact ints_one _ _ | decide | simp [*]) ?_)
    intro w5 hE5
    clear hE4
    simp only [pB, pC] at hE5
    simp only [Act.put, pA, pB, pC]
    repeat ((fail_if_success with_reducible show wA ..); (fail_if_success with_reducible show wB ..); go_step)
    refine wp_region_env 6 (by kernel_rfl) (by kernel_rfl) (fun _ _ d _ _ h => by cases d <;> exact h) hE5 ?_
    refine hv (fun _ hW => (v_load (i := 0) hW rfl rfl rfl Try.underlying41 rfl (szA (n := 5)))) ?_
    simp only [Act.put, pA, pB, pC]
    refine hv (fun _ hW => (v_load (i := 0) hW rfl rfl rfl Try.underlying41 rfl (szA (n := 5)))) ?_
    simp only [Act.put, pA, pB, pC]
    refine headRun_call (fun w1 => run_call rfl Try.call30) (fun w1 hW => H3.out _) ?_
    simp only [Act.put, pA, pB, pC]
    refine hv (fun _ hW => (v_load (i := 2) hW rfl rfl rfl Try.underlying41 rfl (szA (n := 5)))) ?_
    simp only [Act.put, pA, pB, pC]
    refine headRun_call (fun w1 => run_call rfl Try.call30) (fun w1 hW => H4.out _) ?_
    simp only [Act.put, pA, pB, pC]
    refine headRun_alloc (zs := ints .u64 (List.replicate 5 0)) rfl rfl (fun w => by kernel_rfl) ?_
    simp only [Act.put, pA, pB, pC]
    refine headRun_nil (endK1 ?_)
    intro g4 w6 hE6
    clear hE5
    simp only [List.drop_succ_cons, List.drop_zero, Act.put, pA, pB, pC]
    refine wl_step (st_store (i := 0) hE6 rfl rfl rfl rfl rfl (szA (n := 5)) (by first | (simp only [ints_size, digs_length, List.length_replicate, List.length_cons, List.length_nil]; done) | (simp only [ints_size, digs_length, List.length_replicate, List.length_cons, List.length_nil, List.length_set, List.length_append]; omega) | rfl) (by first | exact ints_one _ _ | decide | simp [*]) ?_)
    intro w7 hE7
    clear hE6
    simp only [pB, pC] at hE7
    simp only [Act.put, pA, pB, pC]
    repeat ((fail_if_success with_reducible show wA ..); (fail_if_success with_reducible show wB ..); go_step)
    refine wp_region_env 9 (by kernel_rfl) (by kernel_rfl) (fun _ _ d _ _ h => by cases d <;> exact h) hE7 ?_
    refine hv (fun _ hW => (v_load (i := 4) hW rfl rfl rfl Try.underlying41 rfl (szA (n := 5)))) ?_
    simp only [Act.put, pA, pB, pC]
    refine hv (fun _ hW => (v_load (i := 1) hW rfl rfl rfl Try.underlying41 rfl (szA (n := 5)))) ?_
    simp only [Act.put, pA, pB, pC]
    refine headRun_call (fun w1 => run_call rfl Try.call30) (fun w1 hW => H5.out _) ?_
    simp only [Act.put, pA, pB, pC]
    refine hv (fun _ hW => (v_load (i := 4) hW rfl rfl rfl Try.underlying41 rfl (szA (n := 5)))) ?_
    simp only [Act.put, pA, pB, pC]
    refine hv (fun _ hW => (v_load (i := 0) hW rfl rfl rfl Try.underlying41 rfl (szA (n := 5)))) ?_
    simp only [Act.put, pA, pB, pC]
    refine headRun_call (fun w1 => run_call rfl Try.call30) (fun w1 hW => H6.out _) ?_
    simp only [Act.put, pA, pB, pC]
    refine headRun_call (fun w1 => run_call rfl Try.call54) (fun w1 hW => H7.out _) ?_
    simp only [Act.put, pA, pB, pC]
    refine headRun_call (fun w1 => run_call rfl Try.call30) (fun w1 hW => H8.out _) ?_
    simp only [Act.put, pA, pB, pC]
    refine headRun_alloc (zs := ints .u64 (List.replicate 5 0)) rfl rfl (fun w => by kernel_rfl) ?_
    simp only [Act.put, pA, pB, pC]
    refine headRun_nil (endK1 ?_)
    intro g5 w8 hE8
    clear hE7
    simp only [List.drop_succ_cons, List.drop_zero, Act.put, pA, pB, pC]
    refine wl_step (st_store (i := 0) hE8 rfl rfl rfl rfl rfl (szA (n := 5)) (by first | (simp only [ints_size, digs_length, List.length_replicate, List.length_cons, List.length_nil]; done) | (simp only [ints_size, digs_length, List.length_replicate, List.length_cons, List.length_nil, List.length_set, List.length_append]; omega) | rfl) (by first | exact ints_one _ _ | decide | simp [*]) ?_)
    intro w9 hE9
    clear hE8
    simp only [pB, pC] at hE9
    simp only [Act.put, pA, pB, pC]
    repeat ((fail_if_success with_reducible show wA ..); (fail_if_success with_reducible show wB ..); go_step)
    refine wp_region_env 6 (by kernel_rfl) (by kernel_rfl) (fun _ _ d _ _ h => by cases d <;> exact h) hE9 ?_
    refine hv (fun _ hW => (v_load (i := 4) hW rfl rfl rfl Try.underlying41 rfl (szA (n := 5)))) ?_
    simp only [Act.put, pA, pB, pC]
    refine hv (fun _ hW => (v_load (i := 0) hW rfl rfl rfl Try.underlying41 rfl (szA (n := 5)))) ?_
    simp only [Act.put, pA, pB, pC]
    refine headRun_call (fun w1 => run_call rfl Try.call30) (fun w1 hW => H9.out _) ?_
    simp only [Act.put, pA, pB, pC]
    refine hv (fun _ hW => (v_load (i := 0) hW rfl rfl rfl Try.underlying41 rfl (szA (n := 5)))) ?_
    simp only [Act.put, pA, pB, pC]
    refine headRun_call (fun w1 => run_call rfl Try.call30) (fun w1 hW => H10.out _) ?_
    simp only [Act.put, pA, pB, pC]
    refine headRun_alloc (zs := ints .u64 (List.replicate 5 0)) rfl rfl (fun w => by kernel_rfl) ?_
    simp only [Act.put, pA, pB, pC]
    refine headRun_nil (endK1 ?_)
    intro g6 w10 hE10
    clear hE9
    simp only [List.drop_succ_cons, List.drop_zero, Act.put, pA, pB, pC]
    refine wl_step (st_store (i := 0) hE10 rfl rfl rfl rfl rfl (szA (n := 5)) (by first | (simp only [ints_size, digs_length, List.length_replicate, List.length_cons, List.length_nil]; done) | (simp only [ints_size, digs_length, List.length_replicate, List.length_cons, List.length_nil, List.length_set, List.length_append]; omega) | rfl) (by first | exact ints_one _ _ | decide | simp [*]) ?_)
    intro w11 hE11
    clear hE10
    simp only [pB, pC] at hE11
    simp only [Act.put, pA, pB, pC]
    repeat ((fail_if_success with_reducible show wA ..); (fail_if_success with_reducible show wB ..); go_step)
    refine wv (v_load (i := 5) hE11 rfl rfl rfl Try.underlying41 rfl (szA (n := 5))) ?_
    simp only [Act.put, pA, pB, pC]
    refine wl_step (st_gives hE11 rfl (run_call rfl Try.call45) (HZ.out _) ?_)
    intro w12 hb12 hE12
    clear hE11
    simp only [Act.put, pA, pB, pC]
    refine wv (v_moveT (.inr rfl) rfl) ?_
    simp only [Act.put, pA, pB, pC]
    repeat ((fail_if_success with_reducible show wA ..); (fail_if_success with_reducible show wB ..); (fail_if_success (with_reducible show Code.wp _ (Code.cond _ _ _) _ _ _)); go_step)
    refine wp_cond_true (by first | rfl | exact congrArg Value.bool (decide_eq_true (by omega))) ?_
    skip
    repeat ((fail_if_success with_reducible show wA ..); (fail_if_success with_reducible show wB ..); go_step)
    refine wv (v_built (k := .u64) (l := List.replicate 5 0) rfl (fun w => by kernel_rfl)) ?_
    simp only [Act.put, pA, pB, pC]
    refine wl_step (st_store (i := 4) hE12 rfl rfl rfl rfl rfl (szA (n := 5)) (by first | (simp only [ints_size, digs_length, List.length_replicate, List.length_cons, List.length_nil]; done) | (simp only [ints_size, digs_length, List.length_replicate, List.length_cons, List.length_nil, List.length_set, List.length_append]; omega) | rfl) (by first | exact ints_one _ _ | decide | simp [*]) ?_)
    intro w13 hE13
    clear hE12
    simp only [pB, pC] at hE13
    simp only [Act.put, pA, pB, pC]
    refine wv (v_moveC (.inr rfl)) ?_
    simp only [Act.put, pA, pB, pC]
    repeat ((fail_if_success with_reducible show wA ..); (fail_if_success with_reducible show wB ..); go_step)
    refine bodyPost_ret (results_ct rfl _ _ _ _ _ (0, 0) _ rfl (hE13.get (i := 4) rfl) Try.underlying41 rfl (szA (n := 5)) rfl) rfl ⟨rfl, hE13.below⟩
  · rw [decide_eq_false hz] at HZ
    by_cases h1 : A = U % pN
    · have hr : rootN U V = (evenN (rootR U V), true) := by rw [Hroot.out, if_neg hz, if_pos h1]
      rw [hr]
      rw [decide_eq_true h1] at HS1
      by_cases ho : rootR U V % 2 = 1
      · refine ⟨n8c, K8.out, by rw [q8'.out]; unfold evenN; rw [if_pos ho], fun w => ?_⟩
        rw [decide_eq_true ho] at HO8
        clear Hroot hr h1 hz ho HS2
        have hE0 := Env.nil w
        go_enter Try.func41, Try.ntmps41
        repeat ((fail_if_success with_reducible show wA ..); (fail_if_success with_reducible show wB ..); go_step)
        refine wl_step (st_boxA hE0 rfl rfl rfl ?_)
        intro g0 w1 hb1 hE1
        clear hE0
        simp only [Act.put, pA, pB, pC]
        refine wl_step (st_boxA hE1 rfl rfl rfl ?_)
        intro g1 w2 hb2 hE2
        clear hE1
        simp only [Act.put, pA, pB, pC]
        refine wl_step (st_alloc (zs := ints .u64 (List.replicate 5 0)) hE2 rfl rfl (fun w => by kernel_rfl) ?_)
        intro g2 w3 hb3 hE3
        clear hE2
        simp only [Act.put, pA, pB, pC]
        refine wv (v_moveC (.inr rfl)) ?_
        simp only [Act.put, pA, pB, pC]
        repeat ((fail_if_success with_reducible show wA ..); (fail_if_success with_reducible show wB ..); go_step)
        refine wp_region_env 6 (by kernel_rfl) (by kernel_rfl) (fun _ _ d _ _ h => by cases d <;> exact h) hE3 ?_
        refine hv (fun _ hW => (v_load (i := 1) hW rfl rfl rfl Try.underlying41 rfl (szA (n := 5)))) ?_
        simp only [Act.put, pA, pB, pC]
        refine hv (fun _ hW => (v_load (i := 1) hW rfl rfl rfl Try.underlying41 rfl (szA (n := 5)))) ?_
        simp only [Act.put, pA, pB, pC]
        refine headRun_call (fun w1 => run_call rfl Try.call30) (fun w1 hW => H1.out _) ?_
        simp only [Act.put, pA, pB, pC]
        refine hv (fun _ hW => (v_load (i := 1) hW rfl rfl rfl Try.underlying41 rfl (szA (n := 5)))) ?_
        simp only [Act.put, pA, pB, pC]
        refine headRun_call (fun w1 => run_call rfl Try.call30) (fun w1 hW => H2.out _) ?_
        simp only [Act.put, pA, pB, pC]
        refine headRun_alloc (zs := ints .u64 (List.replicate 5 0)) rfl rfl (fun w => by kernel_rfl) ?_
        simp only [Act.put, pA, pB, pC]
        refine headRun_nil (endK1 ?_)
        intro g3 w4 hE4
        clear hE3
        simp only [List.drop_succ_cons, List.drop_zero, Act.put, pA, pB, pC]
        refine wl_step (st_store (i := 0) hE4 rfl rfl rfl rfl rfl (szA (n := 5)) (by first | (simp only [ints_size, digs_length, List.length_replicate, List.length_cons, List.length_nil]; done) | (simp only [ints_size, digs_length, List.length_replicate, List.length_cons, List.length_nil, List.length_set, List.length_append]; omega) | rfl) (by first | exact ints_one _ _ | decide | simp [*]) ?_)
        intro w5 hE5
        clear hE4
        simp only [pB, pC] at hE5
        simp only [Act.put, pA, pB, pC]
        repeat ((fail_if_success with_reducible show wA ..); (fail_if_success with_reducible show wB ..); go_step)
        refine wp_region_env 6 (by kernel_rfl) (by kernel_rfl) (fun _ _ d _ _ h => by cases d <;> exact h) hE5 ?_
        refine hv (fun _ hW => (v_load (i := 0) hW rfl rfl rfl Try.underlying41 rfl (szA (n := 5)))) ?_
        simp only [Act.put, pA, pB, pC]
        refine hv (fun _ hW => (v_load (i := 0) hW rfl rfl rfl Try.underlying41 rfl (szA (n := 5)))) ?_
        simp only [Act.put, pA, pB, pC]
        refine headRun_call (fun w1 => run_call rfl Try.call30) (fun w1 hW => H3.out _) ?_
        simp only [Act.put, pA, pB, pC]
        refine hv (fun _ hW => (v_load (i := 2) hW rfl rfl rfl Try.underlying41 rfl (szA (n := 5)))) ?_
        simp only [Act.put, pA, pB, pC]
        refine headRun_call (fun w1 => run_call rfl Try.call30) (fun w1 hW => H4.out _) ?_
        simp only [Act.put, pA, pB, pC]
        refine headRun_alloc (zs := ints .u64 (List.replicate 5 0)) rfl rfl (fun w => by kernel_rfl) ?_
        simp only [Act.put, pA, pB, pC]
        refine headRun_nil (endK1 ?_)
        intro g4 w6 hE6
        clear hE5
        simp only [List.drop_succ_cons, List.drop_zero, Act.put, pA, pB, pC]
        refine wl_step (st_store (i := 0) hE6 rfl rfl rfl rfl rfl (szA (n := 5)) (by first | (simp only [ints_size, digs_length, List.length_replicate, List.length_cons, List.length_nil]; done) | (simp only [ints_size, digs_length, List.length_replicate, List.length_cons, List.length_nil, List.length_set, List.length_append]; omega) | rfl) (by first | exact ints_one _ _ | decide | simp [*]) ?_)
        intro w7 hE7
        clear hE6
        simp only [pB, pC] at hE7
        simp only [Act.put, pA, pB, pC]
        repeat ((fail_if_success with_reducible show wA ..); (fail_if_success with_reducible show wB ..); go_step)
        refine wp_region_env 9 (by kernel_rfl) (by kernel_rfl) (fun _ _ d _ _ h => by cases d <;> exact h) hE7 ?_
        refine hv (fun _ hW => (v_load (i := 4) hW rfl rfl rfl Try.underlying41 rfl (szA (n := 5)))) ?_
        simp only [Act.put, pA, pB, pC]
        refine hv (fun _ hW => (v_load (i := 1) hW rfl rfl rfl Try.underlying41 rfl (szA (n := 5)))) ?_
        simp only [Act.put, pA, pB, pC]
        refine headRun_call (fun w1 => run_call rfl Try.call30) (fun w1 hW => H5.out _) ?_
        simp only [Act.put, pA, pB, pC]
        refine hv (fun _ hW => (v_load (i := 4) hW rfl rfl rfl Try.underlying41 rfl (szA (n := 5)))) ?_
        simp only [Act.put, pA, pB, pC]
        refine hv (fun _ hW => (v_load (i := 0) hW rfl rfl rfl Try.underlying41 rfl (szA (n := 5)))) ?_
        simp only [Act.put, pA, pB, pC]
        refine headRun_call (fun w1 => run_call rfl Try.call30) (fun w1 hW => H6.out _) ?_
        simp only [Act.put, pA, pB, pC]
        refine headRun_call (fun w1 => run_call rfl Try.call54) (fun w1 hW => H7.out _) ?_
        simp only [Act.put, pA, pB, pC]
        refine headRun_call (fun w1 => run_call rfl Try.call30) (fun w1 hW => H8.out _) ?_
        simp only [Act.put, pA, pB, pC]
        refine headRun_alloc (zs := ints .u64 (List.replicate 5 0)) rfl rfl (fun w => by kernel_rfl) ?_
        simp only [Act.put, pA, pB, pC]
        refine headRun_nil (endK1 ?_)
        intro g5 w8 hE8
        clear hE7
        simp only [List.drop_succ_cons, List.drop_zero, Act.put, pA, pB, pC]
        refine wl_step (st_store (i := 0) hE8 rfl rfl rfl rfl rfl (szA (n := 5)) (by first | (simp only [ints_size, digs_length, List.length_replicate, List.length_cons, List.length_nil]; done) | (simp only [ints_size, digs_length, List.length_replicate, List.length_cons, List.length_nil, List.length_set, List.length_append]; omega) | rfl) (by first | exact ints_one _ _ | decide | simp [*]) ?_)
        intro w9 hE9
        clear hE8
        simp only [pB, pC] at hE9
        simp only [Act.put, pA, pB, pC]
        repeat ((fail_if_success with_reducible show wA ..); (fail_if_success with_reducible show wB ..); go_step)
        refine wp_region_env 6 (by kernel_rfl) (by kernel_rfl) (fun _ _ d _ _ h => by cases d <;> exact h) hE9 ?_
        refine hv (fun _ hW => (v_load (i := 4) hW rfl rfl rfl Try.underlying41 rfl (szA (n := 5)))) ?_
        simp only [Act.put, pA, pB, pC]
        refine hv (fun _ hW => (v_load (i := 0) hW rfl rfl rfl Try.underlying41 rfl (szA (n := 5)))) ?_
        simp only [Act.put, pA, pB, pC]
        refine headRun_call (fun w1 => run_call rfl Try.call30) (fun w1 hW => H9.out _) ?_
        simp only [Act.put, pA, pB, pC]
        refine hv (fun _ hW => (v_load (i := 0) hW rfl rfl rfl Try.underlying41 rfl (szA (n := 5)))) ?_
        simp only [Act.put, pA, pB, pC]
        refine headRun_call (fun w1 => run_call rfl Try.call30) (fun w1 hW => H10.out _) ?_
        simp only [Act.put, pA, pB, pC]
        refine headRun_alloc (zs := ints .u64 (List.replicate 5 0)) rfl rfl (fun w => by kernel_rfl) ?_
        simp only [Act.put, pA, pB, pC]
        refine headRun_nil (endK1 ?_)
        intro g6 w10 hE10
        clear hE9
        simp only [List.drop_succ_cons, List.drop_zero, Act.put, pA, pB, pC]
        refine wl_step (st_store (i := 0) hE10 rfl rfl rfl rfl rfl (szA (n := 5)) (by first | (simp only [ints_size, digs_length, List.length_replicate, List.length_cons, List.length_nil]; done) | (simp only [ints_size, digs_length, List.length_replicate, List.length_cons, List.length_nil, List.length_set, List.length_append]; omega) | rfl) (by first | exact ints_one _ _ | decide | simp [*]) ?_)
        intro w11 hE11
        clear hE10
        simp only [pB, pC] at hE11
        simp only [Act.put, pA, pB, pC]
        repeat ((fail_if_success with_reducible show wA ..); (fail_if_success with_reducible show wB ..); go_step)
        refine wv (v_load (i := 5) hE11 rfl rfl rfl Try.underlying41 rfl (szA (n := 5))) ?_
        simp only [Act.put, pA, pB, pC]
        refine wl_step (st_gives hE11 rfl (run_call rfl Try.call45) (HZ.out _) ?_)
        intro w12 hb12 hE12
        clear hE11
        simp only [Act.put, pA, pB, pC]
        refine wv (v_moveT (.inr rfl) rfl) ?_
        simp only [Act.put, pA, pB, pC]
        repeat ((fail_if_success with_reducible show wA ..); (fail_if_success with_reducible show wB ..); (fail_if_success (with_reducible show Code.wp _ (Code.cond _ _ _) _ _ _)); go_step)
        refine wp_cond_false (by first | rfl | exact congrArg Value.bool (decide_eq_false (by omega))) ?_
        skip
        repeat ((fail_if_success with_reducible show wA ..); (fail_if_success with_reducible show wB ..); go_step)
        refine wv (v_load (i := 0) hE12 rfl rfl rfl Try.underlying41 rfl (szA (n := 5))) ?_
        simp only [Act.put, pA, pB, pC]
        refine wv (v_load (i := 6) hE12 rfl rfl rfl Try.underlying41 rfl (szA (n := 5))) ?_
        simp only [Act.put, pA, pB, pC]
        refine wl_step (st_gives hE12 rfl (run_call rfl Try.call66) (HS1.out _) ?_)
        intro w13 hb13 hE13
        clear hE12
        simp only [Act.put, pA, pB, pC]
        refine wv (v_moveT (.inr rfl) rfl) ?_
        simp only [Act.put, pA, pB, pC]
        repeat ((fail_if_success with_reducible show wA ..); (fail_if_success with_reducible show wB ..); (fail_if_success (with_reducible show Code.wp _ (Code.cond _ _ _) _ _ _)); go_step)
        refine wp_cond_true (by first | rfl | exact congrArg Value.bool (decide_eq_true (by omega))) ?_
        skip
        repeat ((fail_if_success with_reducible show wA ..); (fail_if_success with_reducible show wB ..); go_step)
        refine wv (v_load (i := 1) hE13 rfl rfl rfl Try.underlying41 rfl (szA (n := 5))) ?_
        simp only [Act.put, pA, pB, pC]
        refine wl_step (st_gives hE13 rfl (run_call rfl Try.call32) (HO8.out _) ?_)
        intro w14 hb14 hE14
        clear hE13
        simp only [Act.put, pA, pB, pC]
        repeat ((fail_if_success with_reducible show wA ..); (fail_if_success with_reducible show wB ..); (fail_if_success (with_reducible show Code.wp _ (Code.cond _ _ _) _ _ _)); go_step)
        refine wp_cond_true (by first | rfl | exact congrArg Value.bool (decide_eq_true (by omega))) ?_
        skip
        repeat ((fail_if_success with_reducible show wA ..); (fail_if_success with_reducible show wB ..); go_step)
        refine wv (v_load (i := 1) hE14 rfl rfl rfl Try.underlying41 rfl (szA (n := 5))) ?_
        simp only [Act.put, pA, pB, pC]
        refine wl_step (st_gives hE14 rfl (run_call rfl Try.call46) (HQ8.out _) ?_)
        intro w15 hb15 hE15
        clear hE14
        simp only [Act.put, pA, pB, pC]
        refine wl_step (st_store (i := 1) hE15 rfl rfl rfl rfl rfl (szA (n := 5)) (by first | (simp only [ints_size, digs_length, List.length_replicate, List.length_cons, List.length_nil]; done) | (simp only [ints_size, digs_length, List.length_replicate, List.length_cons, List.length_nil, List.length_set, List.length_append]; omega) | rfl) (by first | exact ints_one _ _ | decide | simp [*]) ?_)
        intro w16 hE16
        clear hE15
        simp only [pB, pC] at hE16
        simp only [Act.put, pA, pB, pC]
        repeat ((fail_if_success with_reducible show wA ..); (fail_if_success with_reducible show wB ..); go_step)
        refine wv (v_load (i := 1) hE16 rfl rfl rfl Try.underlying41 rfl (szA (n := 5))) ?_
        simp only [Act.put, pA, pB, pC]
        refine wl_step (st_store (i := 4) hE16 rfl rfl rfl rfl rfl (szA (n := 5)) (by first | (simp only [ints_size, digs_length, List.length_replicate, List.length_cons, List.length_nil]; done) | (simp only [ints_size, digs_length, List.length_replicate, List.length_cons, List.length_nil, List.length_set, List.length_append]; omega) | rfl) (by first | exact ints_one _ _ | decide | simp [*]) ?_)
        intro w17 hE17
        clear hE16
        simp only [pB, pC] at hE17
        simp only [Act.put, pA, pB, pC]
        refine wv (v_moveC (.inr rfl)) ?_
        simp only [Act.put, pA, pB, pC]
        repeat ((fail_if_success with_reducible show wA ..); (fail_if_success with_reducible show wB ..); go_step)
        refine bodyPost_ret (results_ct rfl _ _ _ _ _ (0, 0) _ rfl (hE17.get (i := 4) rfl) Try.underlying41 rfl (szA (n := 5)) rfl) rfl ⟨rfl, hE17.below⟩
      · refine ⟨r, F8.out, by rw [N8.out]; unfold evenN; rw [if_neg ho], fun w => ?_⟩
        rw [decide_eq_false ho] at HO8
        clear Hroot hr h1 hz ho HS2
        have hE0 := Env.nil w
        go_enter Try.func41, Try.ntmps41
        repeat ((fail_if_success with_reducible show wA ..); (fail_if_success with_reducible show wB ..); go_step)
        refine wl_step (st_boxA hE0 rfl rfl rfl ?_)
        intro g0 w1 hb1 hE1
        clear hE0
        simp only [Act.put, pA, pB, pC]
        refine wl_step (st_boxA hE1 rfl rfl rfl ?_)
        intro g1 w2 hb2 hE2
        clear hE1
        simp only [Act.put, pA, pB, pC]
        refine wl_step (st_alloc (zs := ints .u64 (List.replicate 5 0)) hE2 rfl rfl (fun w => by kernel_rfl) ?_)
        intro g2 w3 hb3 hE3
        clear hE2
        simp only [Act.put, pA, pB, pC]
        refine wv (v_moveC (.inr rfl)) ?_
        simp only [Act.put, pA, pB, pC]
        repeat ((fail_if_success with_reducible show wA ..); (fail_if_success with_reducible show wB ..); go_step)
        refine wp_region_env 6 (by kernel_rfl) (by kernel_rfl) (fun _ _ d _ _ h => by cases d <;> exact h) hE3 ?_
        refine hv (fun _ hW => (v_load (i := 1) hW rfl rfl rfl Try.underlying41 rfl (szA (n := 5)))) ?_
        simp only [Act.put, pA, pB, pC]
        refine hv (fun _ hW => (v_load (i := 1) hW rfl rfl rfl Try.underlying41 rfl (szA (n := 5)))) ?_
        simp only [Act.put, pA, pB, pC]
        refine headRun_call (fun w1 => run_call rfl Try.call30) (fun w1 hW => H1.out _) ?_
        simp only [Act.put, pA, pB, pC]
        refine hv (fun _ hW => (v_load (i := 1) hW rfl rfl rfl Try.underlying41 rfl (szA (n := 5)))) ?_
        simp only [Act.put, pA, pB, pC]
        refine headRun_call (fun w1 => run_call rfl Try.call30) (fun w1 hW => H2.out _) ?_
        simp only [Act.put, pA, pB, pC]
        refine headRun_alloc (zs := ints .u64 (List.replicate 5 0)) rfl rfl (fun w => by kernel_rfl) ?_
        simp only [Act.put, pA, pB, pC]
        refine headRun_nil (endK1 ?_)
        intro g3 w4 hE4
        clear hE3
        simp only [List.drop_succ_cons, List.drop_zero, Act.put, pA, pB, pC]
        refine wl_step (st_store (i := 0) hE4 rfl rfl rfl rfl rfl (szA (n := 5)) (by first | (simp only [ints_size, digs_length, List.length_replicate, List.length_cons, List.length_nil]; done) | (simp only [ints_size, digs_length, List.length_replicate, List.length_cons, List.length_nil, List.length_set, List.length_append]; omega) | rfl) (by first | exact ints_one _ _ | decide | simp [*]) ?_)
        intro w5 hE5
        clear hE4
        simp only [pB, pC] at hE5
        simp only [Act.put, pA, pB, pC]
        repeat ((fail_if_success with_reducible show wA ..); (fail_if_success with_reducible show wB ..); go_step)
        refine wp_region_env 6 (by kernel_rfl) (by kernel_rfl) (fun _ _ d _ _ h => by cases d <;> exact h) hE5 ?_
        refine hv (fun _ hW => (v_load (i := 0) hW rfl rfl rfl Try.underlying41 rfl (szA (n := 5)))) ?_
        simp only [Act.put, pA, pB, pC]
        refine hv (fun _ hW => (v_load (i := 0) hW rfl rfl rfl Try.underlying41 rfl (szA (n := 5)))) ?_
        simp only [Act.put, pA, pB, pC]
        refine headRun_call (fun w1 => run_call rfl Try.call30) (fun w1 hW => H3.out _) ?_
        simp only [Act.put, pA, pB, pC]
        refine hv (fun _ hW => (v_load (i := 2) hW rfl rfl rfl Try.underlying41 rfl (szA (n := 5)))) ?_
        simp only [Act.put, pA, pB, pC]
        refine headRun_call (fun w1 => run_call rfl Try.call30) (fun w1 hW => H4.out _) ?_
        simp only [Act.put, pA, pB, pC]
        refine headRun_alloc (zs := ints .u64 (List.replicate 5 0)) rfl rfl (fun w => by kernel_rfl) ?_
        simp only [Act.put, pA, pB, pC]
        refine headRun_nil (endK1 ?_)
        intro g4 w6 hE6
        clear hE5
        simp only [List.drop_succ_cons, List.drop_zero, Act.put, pA, pB, pC]
        refine wl_step (st_store (i := 0) hE6 rfl rfl rfl rfl rfl (szA (n := 5)) (by first | (simp only [ints_size, digs_length, List.length_replicate, List.length_cons, List.length_nil]; done) | (simp only [ints_size, digs_length, List.length_replicate, List.length_cons, List.length_nil, List.length_set, List.length_append]; omega) | rfl) (by first | exact ints_one _ _ | decide | simp [*]) ?_)
        intro w7 hE7
        clear hE6
        simp only [pB, pC] at hE7
        simp only [Act.put, pA, pB, pC]
        repeat ((fail_if_success with_reducible show wA ..); (fail_if_success with_reducible show wB ..); go_step)
        refine wp_region_env 9 (by kernel_rfl) (by kernel_rfl) (fun _ _ d _ _ h => by cases d <;> exact h) hE7 ?_
        refine hv (fun _ hW => (v_load (i := 4) hW rfl rfl rfl Try.underlying41 rfl (szA (n := 5)))) ?_
        simp only [Act.put, pA, pB, pC]
        refine hv (fun _ hW => (v_load (i := 1) hW rfl rfl rfl Try.underlying41 rfl (szA (n := 5)))) ?_
        simp only [Act.put, pA, pB, pC]
        refine headRun_call (fun w1 => run_call rfl Try.call30) (fun w1 hW => H5.out _) ?_
        simp only [Act.put, pA, pB, pC]
        refine hv (fun _ hW => (v_load (i := 4) hW rfl rfl rfl Try.underlying41 rfl (szA (n := 5)))) ?_
        simp only [Act.put, pA, pB, pC]
        refine hv (fun _ hW => (v_load (i := 0) hW rfl rfl rfl Try.underlying41 rfl (szA (n := 5)))) ?_
        simp only [Act.put, pA, pB, pC]
        refine headRun_call (fun w1 => run_call rfl Try.call30) (fun w1 hW => H6.out _) ?_
        simp only [Act.put, pA, pB, pC]
        refine headRun_call (fun w1 => run_call rfl Try.call54) (fun w1 hW => H7.out _) ?_
        simp only [Act.put, pA, pB, pC]
        refine headRun_call (fun w1 => run_call rfl Try.call30) (fun w1 hW => H8.out _) ?_
        simp only [Act.put, pA, pB, pC]
        refine headRun_alloc (zs := ints .u64 (List.replicate 5 0)) rfl rfl (fun w => by kernel_rfl) ?_
        simp only [Act.put, pA, pB, pC]
        refine headRun_nil (endK1 ?_)
        intro g5 w8 hE8
        clear hE7
        simp only [List.drop_succ_cons, List.drop_zero, Act.put, pA, pB, pC]
        refine wl_step (st_store (i := 0) hE8 rfl rfl rfl rfl rfl (szA (n := 5)) (by first | (simp only [ints_size, digs_length, List.length_replicate, List.length_cons, List.length_nil]; done) | (simp only [ints_size, digs_length, List.length_replicate, List.length_cons, List.length_nil, List.length_set, List.length_append]; omega) | rfl) (by first | exact ints_one _ _ | decide | simp [*]) ?_)
        intro w9 hE9
        clear hE8
        simp only [pB, pC] at hE9
        simp only [Act.put, pA, pB, pC]
        repeat ((fail_if_success with_reducible show wA ..); (fail_if_success with_reducible show wB ..); go_step)
        refine wp_region_env 6 (by kernel_rfl) (by kernel_rfl) (fun _ _ d _ _ h => by cases d <;> exact h) hE9 ?_
        refine hv (fun _ hW => (v_load (i := 4) hW rfl rfl rfl Try.underlying41 rfl (szA (n := 5)))) ?_
        simp only [Act.put, pA, pB, pC]
        refine hv (fun _ hW => (v_load (i := 0) hW rfl rfl rfl Try.underlying41 rfl (szA (n := 5)))) ?_
        simp only [Act.put, pA, pB, pC]
        refine headRun_call (fun w1 => run_call rfl Try.call30) (fun w1 hW => H9.out _) ?_
        simp only [Act.put, pA, pB, pC]
        refine hv (fun _ hW => (v_load (i := 0) hW rfl rfl rfl Try.underlying41 rfl (szA (n := 5)))) ?_
        simp only [Act.put, pA, pB, pC]
        refine headRun_call (fun w1 => run_call rfl Try.call30) (fun w1 hW => H10.out _) ?_
        simp only [Act.put, pA, pB, pC]
        refine headRun_alloc (zs := ints .u64 (List.replicate 5 0)) rfl rfl (fun w => by kernel_rfl) ?_
        simp only [Act.put, pA, pB, pC]
        refine headRun_nil (endK1 ?_)
        intro g6 w10 hE10
        clear hE9
        simp only [List.drop_succ_cons, List.drop_zero, Act.put, pA, pB, pC]
        refine wl_step (st_store (i := 0) hE10 rfl rfl rfl rfl rfl (szA (n := 5)) (by first | (simp only [ints_size, digs_length, List.length_replicate, List.length_cons, List.length_nil]; done) | (simp only [ints_size, digs_length, List.length_replicate, List.length_cons, List.length_nil, List.length_set, List.length_append]; omega) | rfl) (by first | exact ints_one _ _ | decide | simp [*]) ?_)
        intro w11 hE11
        clear hE10
        simp only [pB, pC] at hE11
        simp only [Act.put, pA, pB, pC]
        repeat ((fail_if_success with_reducible show wA ..); (fail_if_success with_reducible show wB ..); go_step)
        refine wv (v_load (i := 5) hE11 rfl rfl rfl Try.underlying41 rfl (szA (n := 5))) ?_
        simp only [Act.put, pA, pB, pC]
        refine wl_step (st_gives hE11 rfl (run_call rfl Try.call45) (HZ.out _) ?_)
        intro w12 hb12 hE12
        clear hE11
        simp only [Act.put, pA, pB, pC]
        refine wv (v_moveT (.inr rfl) rfl) ?_
        simp only [Act.put, pA, pB, pC]
        repeat ((fail_if_success with_reducible show wA ..); (fail_if_success with_reducible show wB ..); (fail_if_success (with_reducible show Code.wp _ (Code.cond _ _ _) _ _ _)); go_step)
        refine wp_cond_false (by first | rfl | exact congrArg Value.bool (decide_eq_false (by omega))) ?_
        skip
        repeat ((fail_if_success with_reducible show wA ..); (fail_if_success with_reducible show wB ..); go_step)
        refine wv (v_load (i := 0) hE12 rfl rfl rfl Try.underlying41 rfl (szA (n := 5))) ?_
        simp only [Act.put, pA, pB, pC]
        refine wv (v_load (i := 6) hE12 rfl rfl rfl Try.underlying41 rfl (szA (n := 5))) ?_
        simp only [Act.put, pA, pB, pC]
        refine wl_step (st_gives hE12 rfl (run_call rfl Try.call66) (HS1.out _) ?_)
        intro w13 hb13 hE13
        clear hE12
        simp only [Act.put, pA, pB, pC]
        refine wv (v_moveT (.inr rfl) rfl) ?_
        simp only [Act.put, pA, pB, pC]
        repeat ((fail_if_success with_reducible show wA ..); (fail_if_success with_reducible show wB ..); (fail_if_success (with_reducible show Code.wp _ (Code.cond _ _ _) _ _ _)); go_step)
        refine wp_cond_true (by first | rfl | exact congrArg Value.bool (decide_eq_true (by omega))) ?_
        skip
        repeat ((fail_if_success with_reducible show wA ..); (fail_if_success with_reducible show wB ..); go_step)
        refine wv (v_load (i := 1) hE13 rfl rfl rfl Try.underlying41 rfl (szA (n := 5))) ?_
        simp only [Act.put, pA, pB, pC]
        refine wl_step (st_gives hE13 rfl (run_call rfl Try.call32) (HO8.out _) ?_)
        intro w14 hb14 hE14
        clear hE13
        simp only [Act.put, pA, pB, pC]
        repeat ((fail_if_success with_reducible show wA ..); (fail_if_success with_reducible show wB ..); (fail_if_success (with_reducible show Code.wp _ (Code.cond _ _ _) _ _ _)); go_step)
        refine wp_cond_false (by first | rfl | exact congrArg Value.bool (decide_eq_false (by omega))) ?_
        skip
        repeat ((fail_if_success with_reducible show wA ..); (fail_if_success with_reducible show wB ..); go_step)
        refine wv (v_load (i := 1) hE14 rfl rfl rfl Try.underlying41 rfl (szA (n := 5))) ?_
        simp only [Act.put, pA, pB, pC]
        refine wl_step (st_store (i := 4) hE14 rfl rfl rfl rfl rfl (szA (n := 5)) (by first | (simp only [ints_size, digs_length, List.length_replicate, List.length_cons, List.length_nil]; done) | (simp only [ints_size, digs_length, List.length_replicate, List.length_cons, List.length_nil, List.length_set, List.length_append]; omega) | rfl) (by first | exact ints_one _ _ | decide | simp [*]) ?_)
        intro w15 hE15
        clear hE14
        simp only [pB, pC] at hE15
        simp only [Act.put, pA, pB, pC]
        refine wv (v_moveC (.inr rfl)) ?_
        simp only [Act.put, pA, pB, pC]
        repeat ((fail_if_success with_reducible show wA ..); (fail_if_success with_reducible show wB ..); go_step)
        refine bodyPost_ret (results_ct rfl _ _ _ _ _ (0, 0) _ rfl (hE15.get (i := 4) rfl) Try.underlying41 rfl (szA (n := 5)) rfl) rfl ⟨rfl, hE15.below⟩
    · rw [decide_eq_false h1] at HS1
      by_cases h2 : A = (pN - U % pN) % pN
      · have hr : rootN U V = (evenN (rootR U V * unitN % pN), true) := by rw [Hroot.out, if_neg hz, if_neg h1, if_pos h2]
        rw [hr]
        rw [decide_eq_true h2] at HS2
        by_cases ho : (rootR U V * unitN % pN) % 2 = 1
        · refine ⟨n13c, K13.out, by rw [q13'.out]; unfold evenN; rw [if_pos ho], fun w => ?_⟩
          rw [decide_eq_true ho] at HO13
          clear Hroot hr h1 hz ho h2
          have hE0 := Env.nil w
          go_enter Try.func41, Try.ntmps41
          repeat ((fail_if_success with_reducible show wA ..); (fail_if_success with_reducible show wB ..); go_step)
          refine wl_step (st_boxA hE0 rfl rfl rfl ?_)
          intro g0 w1 hb1 hE1
          clear hE0
          simp only [Act.put, pA, pB, pC]
          refine wl_step (st_boxA hE1 rfl rfl rfl ?_)
          intro g1 w2 hb2 hE2
          clear hE1
          simp only [Act.put, pA, pB, pC]
          refine wl_step (st_alloc (zs := ints .u64 (List.replicate 5 0)) hE2 rfl rfl (fun w => by kernel_rfl) ?_)
          intro g2 w3 hb3 hE3
          clear hE2
          simp only [Act.put, pA, pB, pC]
          refine wv (v_moveC (.inr rfl)) ?_
          simp only [Act.put, pA, pB, pC]
          repeat ((fail_if_success with_reducible show wA ..); (fail_if_success with_reducible show wB ..); go_step)
          refine wp_region_env 6 (by kernel_rfl) (by kernel_rfl) (fun _ _ d _ _ h => by cases d <;> exact h) hE3 ?_
          refine hv (fun _ hW => (v_load (i := 1) hW rfl rfl rfl Try.underlying41 rfl (szA (n := 5)))) ?_
          simp only [Act.put, pA, pB, pC]
          refine hv (fun _ hW => (v_load (i := 1) hW rfl rfl rfl Try.underlying41 rfl (szA (n := 5)))) ?_
          simp only [Act.put, pA, pB, pC]
          refine headRun_call (fun w1 => run_call rfl Try.call30) (fun w1 hW => H1.out _) ?_
          simp only [Act.put, pA, pB, pC]
          refine hv (fun _ hW => (v_load (i := 1) hW rfl rfl rfl Try.underlying41 rfl (szA (n := 5)))) ?_
          simp only [Act.put, pA, pB, pC]
          refine headRun_call (fun w1 => run_call rfl Try.call30) (fun w1 hW => H2.out _) ?_
          simp only [Act.put, pA, pB, pC]
          refine headRun_alloc (zs := ints .u64 (List.replicate 5 0)) rfl rfl (fun w => by kernel_rfl) ?_
          simp only [Act.put, pA, pB, pC]
          refine headRun_nil (endK1 ?_)
          intro g3 w4 hE4
          clear hE3
          simp only [List.drop_succ_cons, List.drop_zero, Act.put, pA, pB, pC]
          refine wl_step (st_store (i := 0) hE4 rfl rfl rfl rfl rfl (szA (n := 5)) (by first | (simp only [ints_size, digs_length, List.length_replicate, List.length_cons, List.length_nil]; done) | (simp only [ints_size, digs_length, List.length_replicate, List.length_cons, List.length_nil, List.length_set, List.length_append]; omega) | rfl) (by first | exact ints_one _ _ | decide | simp [*]) ?_)
          intro w5 hE5
          clear hE4
          simp only [pB, pC] at hE5
          simp only [Act.put, pA, pB, pC]
          repeat ((fail_if_success with_reducible show wA ..); (fail_if_success with_reducible show wB ..); go_step)
          refine wp_region_env 6 (by kernel_rfl) (by kernel_rfl) (fun _ _ d _ _ h => by cases d <;> exact h) hE5 ?_
          refine hv (fun _ hW => (v_load (i := 0) hW rfl rfl rfl Try.underlying41 rfl (szA (n := 5)))) ?_
          simp only [Act.put, pA, pB, pC]
          refine hv (fun _ hW => (v_load (i := 0) hW rfl rfl rfl Try.underlying41 rfl (szA (n := 5)))) ?_
          simp only [Act.put, pA, pB, pC]
          refine headRun_call (fun w1 => run_call rfl Try.call30) (fun w1 hW => H3.out _) ?_
          simp only [Act.put, pA, pB, pC]
          refine hv (fun _ hW => (v_load (i := 2) hW rfl rfl rfl Try.underlying41 rfl (szA (n := 5)))) ?_
          simp only [Act.put, pA, pB, pC]
          refine headRun_call (fun w1 => run_call rfl Try.call30) (fun w1 hW => H4.out _) ?_
          simp only [Act.put, pA, pB, pC]
          refine headRun_alloc (zs := ints .u64 (List.replicate 5 0)) rfl rfl (fun w => by kernel_rfl) ?_
          simp only [Act.put, pA, pB, pC]
          refine headRun_nil (endK1 ?_)
          intro g4 w6 hE6
          clear hE5
          simp only [List.drop_succ_cons, List.drop_zero, Act.put, pA, pB, pC]
          refine wl_step (st_store (i := 0) hE6 rfl rfl rfl rfl rfl (szA (n := 5)) (by first | (simp only [ints_size, digs_length, List.length_replicate, List.length_cons, List.length_nil]; done) | (simp only [ints_size, digs_length, List.length_replicate, List.length_cons, List.length_nil, List.length_set, List.length_append]; omega) | rfl) (by first | exact ints_one _ _ | decide | simp [*]) ?_)
          intro w7 hE7
          clear hE6
          simp only [pB, pC] at hE7
          simp only [Act.put, pA, pB, pC]
          repeat ((fail_if_success with_reducible show wA ..); (fail_if_success with_reducible show wB ..); go_step)
          refine wp_region_env 9 (by kernel_rfl) (by kernel_rfl) (fun _ _ d _ _ h => by cases d <;> exact h) hE7 ?_
          refine hv (fun _ hW => (v_load (i := 4) hW rfl rfl rfl Try.underlying41 rfl (szA (n := 5)))) ?_
          simp only [Act.put, pA, pB, pC]
          refine hv (fun _ hW => (v_load (i := 1) hW rfl rfl rfl Try.underlying41 rfl (szA (n := 5)))) ?_
          simp only [Act.put, pA, pB, pC]
          refine headRun_call (fun w1 => run_call rfl Try.call30) (fun w1 hW => H5.out _) ?_
          simp only [Act.put, pA, pB, pC]
          refine hv (fun _ hW => (v_load (i := 4) hW rfl rfl rfl Try.underlying41 rfl (szA (n := 5)))) ?_
          simp only [Act.put, pA, pB, pC]
          refine hv (fun _ hW => (v_load (i := 0) hW rfl rfl rfl Try.underlying41 rfl (szA (n := 5)))) ?_
          simp only [Act.put, pA, pB, pC]
          refine headRun_call (fun w1 => run_call rfl Try.call30) (fun w1 hW => H6.out _) ?_
          simp only [Act.put, pA, pB, pC]
          refine headRun_call (fun w1 => run_call rfl Try.call54) (fun w1 hW => H7.out _) ?_
          simp only [Act.put, pA, pB, pC]
          refine headRun_call (fun w1 => run_call rfl Try.call30) (fun w1 hW => H8.out _) ?_
          simp only [Act.put, pA, pB, pC]
          refine headRun_alloc (zs := ints .u64 (List.replicate 5 0)) rfl rfl (fun w => by kernel_rfl) ?_
          simp only [Act.put, pA, pB, pC]
          refine headRun_nil (endK1 ?_)
          intro g5 w8 hE8
          clear hE7
          simp only [List.drop_succ_cons, List.drop_zero, Act.put, pA, pB, pC]
          refine wl_step (st_store (i := 0) hE8 rfl rfl rfl rfl rfl (szA (n := 5)) (by first | (simp only [ints_size, digs_length, List.length_replicate, List.length_cons, List.length_nil]; done) | (simp only [ints_size, digs_length, List.length_replicate, List.length_cons, List.length_nil, List.length_set, List.length_append]; omega) | rfl) (by first | exact ints_one _ _ | decide | simp [*]) ?_)
          intro w9 hE9
          clear hE8
          simp only [pB, pC] at hE9
          simp only [Act.put, pA, pB, pC]
          repeat ((fail_if_success with_reducible show wA ..); (fail_if_success with_reducible show wB ..); go_step)
          refine wp_region_env 6 (by kernel_rfl) (by kernel_rfl) (fun _ _ d _ _ h => by cases d <;> exact h) hE9 ?_
          refine hv (fun _ hW => (v_load (i := 4) hW rfl rfl rfl Try.underlying41 rfl (szA (n := 5)))) ?_
          simp only [Act.put, pA, pB, pC]
          refine hv (fun _ hW => (v_load (i := 0) hW rfl rfl rfl Try.underlying41 rfl (szA (n := 5)))) ?_
          simp only [Act.put, pA, pB, pC]
          refine headRun_call (fun w1 => run_call rfl Try.call30) (fun w1 hW => H9.out _) ?_
          simp only [Act.put, pA, pB, pC]
          refine hv (fun _ hW => (v_load (i := 0) hW rfl rfl rfl Try.underlying41 rfl (szA (n := 5)))) ?_
          simp only [Act.put, pA, pB, pC]
          refine headRun_call (fun w1 => run_call rfl Try.call30) (fun w1 hW => H10.out _) ?_
          simp only [Act.put, pA, pB, pC]
          refine headRun_alloc (zs := ints .u64 (List.replicate 5 0)) rfl rfl (fun w => by kernel_rfl) ?_
          simp only [Act.put, pA, pB, pC]
          refine headRun_nil (endK1 ?_)
          intro g6 w10 hE10
          clear hE9
          simp only [List.drop_succ_cons, List.drop_zero, Act.put, pA, pB, pC]
          refine wl_step (st_store (i := 0) hE10 rfl rfl rfl rfl rfl (szA (n := 5)) (by first | (simp only [ints_size, digs_length, List.length_replicate, List.length_cons, List.length_nil]; done) | (simp only [ints_size, digs_length, List.length_replicate, List.length_cons, List.length_nil, List.length_set, List.length_append]; omega) | rfl) (by first | exact ints_one _ _ | decide | simp [*]) ?_)
          intro w11 hE11
          clear hE10
          simp only [pB, pC] at hE11
          simp only [Act.put, pA, pB, pC]
          repeat ((fail_if_success with_reducible show wA ..); (fail_if_success with_reducible show wB ..); go_step)
          refine wv (v_load (i := 5) hE11 rfl rfl rfl Try.underlying41 rfl (szA (n := 5))) ?_
          simp only [Act.put, pA, pB, pC]
          refine wl_step (st_gives hE11 rfl (run_call rfl Try.call45) (HZ.out _) ?_)
          intro w12 hb12 hE12
          clear hE11
          simp only [Act.put, pA, pB, pC]
          refine wv (v_moveT (.inr rfl) rfl) ?_
          simp only [Act.put, pA, pB, pC]
          repeat ((fail_if_success with_reducible show wA ..); (fail_if_success with_reducible show wB ..); (fail_if_success (with_reducible show Code.wp _ (Code.cond _ _ _) _ _ _)); go_step)
          refine wp_cond_false (by first | rfl | exact congrArg Value.bool (decide_eq_false (by omega))) ?_
          skip
          repeat ((fail_if_success with_reducible show wA ..); (fail_if_success with_reducible show wB ..); go_step)
          refine wv (v_load (i := 0) hE12 rfl rfl rfl Try.underlying41 rfl (szA (n := 5))) ?_
          simp only [Act.put, pA, pB, pC]
          refine wv (v_load (i := 6) hE12 rfl rfl rfl Try.underlying41 rfl (szA (n := 5))) ?_
          simp only [Act.put, pA, pB, pC]
          refine wl_step (st_gives hE12 rfl (run_call rfl Try.call66) (HS1.out _) ?_)
          intro w13 hb13 hE13
          clear hE12
          simp only [Act.put, pA, pB, pC]
          refine wv (v_moveT (.inr rfl) rfl) ?_
          simp only [Act.put, pA, pB, pC]
          repeat ((fail_if_success with_reducible show wA ..); (fail_if_success with_reducible show wB ..); (fail_if_success (with_reducible show Code.wp _ (Code.cond _ _ _) _ _ _)); go_step)
          refine wp_cond_false (by first | rfl | exact congrArg Value.bool (decide_eq_false (by omega))) ?_
          skip
          repeat ((fail_if_success with_reducible show wA ..); (fail_if_success with_reducible show wB ..); go_step)
          refine wp_region_B (n := 5) 4 (by kernel_rfl) rfl hE13 ?_
          intro w14 hb14 hE14
          clear hE13
          refine wpB_take (i := 0) (by kernel_rfl) rfl (by kernel_rfl) (fun _ _ _ h => h) rfl (v_load (i := 0) hE14 rfl rfl rfl Try.underlying41 rfl (szA (n := 5))) ?_
          simp only [Act.put, pA, pB, pC]
          refine wpB_take (i := 1) (by kernel_rfl) rfl (by kernel_rfl) (fun _ _ _ h => h) rfl (v_load (i := 6) hE14 rfl rfl rfl Try.underlying41 rfl (szA (n := 5))) ?_
          simp only [Act.put, pA, pB, pC]
          refine wpB_step (i := 2) (by kernel_rfl) rfl (st_gives hE14 rfl (run_call rfl Try.call46) (H11.out _) ?_)
          intro w15 hb15 hE15
          clear hE14
          refine ⟨fun _ => hb15, ?_⟩
          simp only [Act.put, pA, pB, pC]
          refine wpB_step (i := 3) (by kernel_rfl) rfl (st_gives hE15 rfl (run_call rfl Try.call66) (HS2.out _) ?_)
          intro w16 hb16 hE16
          clear hE15
          refine ⟨fun _ => hb16, ?_⟩
          simp only [Act.put, pA, pB, pC]
          refine wpB_step (i := 4) (by kernel_rfl) rfl (st_val rfl (v_moveT (.inr rfl) rfl) ?_)
          refine ⟨fun _ => Below.refl _ _, ?_⟩
          simp only [Act.put, pA, pB, pC]
          refine wpB_done (by kernel_rfl) ?_ _
          repeat ((fail_if_success with_reducible show wA ..); (fail_if_success with_reducible show wB ..); (fail_if_success (with_reducible show Code.wp _ (Code.cond _ _ _) _ _ _)); go_step)
          refine wp_cond_true (by first | rfl | exact congrArg Value.bool (decide_eq_true (by omega))) ?_
          skip
          repeat ((fail_if_success with_reducible show wA ..); (fail_if_success with_reducible show wB ..); go_step)
          refine wp_region_B (n := 4) 3 (by kernel_rfl) rfl hE16 ?_
          intro w17 hb17 hE17
          clear hE16
          refine wpB_take (i := 0) (by kernel_rfl) rfl (by kernel_rfl) (fun _ _ _ h => h) rfl (v_load (i := 1) hE17 rfl rfl rfl Try.underlying41 rfl (szA (n := 5))) ?_
          simp only [Act.put, pA, pB, pC]
          refine wpB_step (i := 1) (by kernel_rfl) rfl (st_gives hE17 rfl (run_call rfl Try.call67) (H12.out _) ?_)
          intro w18 hb18 hE18
          clear hE17
          refine ⟨fun _ => hb18, ?_⟩
          simp only [Act.put, pA, pB, pC]
          refine wpB_step (i := 2) (by kernel_rfl) rfl (st_gives hE18 rfl (run_call rfl Try.call30) (H13.out _) ?_)
          intro w19 hb19 hE19
          clear hE18
          refine ⟨fun _ => hb19, ?_⟩
          simp only [Act.put, pA, pB, pC]
          refine wpB_step (i := 3) (by kernel_rfl) rfl (st_store (i := 1) hE19 rfl rfl rfl rfl rfl (szA (n := 5)) (by first | (simp only [ints_size, digs_length, List.length_replicate, List.length_cons, List.length_nil]; done) | (simp only [ints_size, digs_length, List.length_replicate, List.length_cons, List.length_nil, List.length_set, List.length_append]; omega) | rfl) (by first | exact ints_one _ _ | decide | simp [*]) ?_)
          intro w20 hE20
          clear hE19
          simp only [pB, pC] at hE20
          refine ⟨fun h => absurd h (by decide), ?_⟩
          simp only [Act.put, pA, pB, pC]
          refine wpB_done (by kernel_rfl) ?_ _
          repeat ((fail_if_success with_reducible show wA ..); (fail_if_success with_reducible show wB ..); go_step)
          refine wv (v_load (i := 1) hE20 rfl rfl rfl Try.underlying41 rfl (szA (n := 5))) ?_
          simp only [Act.put, pA, pB, pC]
          refine wl_step (st_gives hE20 rfl (run_call rfl Try.call32) (HO13.out _) ?_)
          intro w21 hb21 hE21
          clear hE20
          simp only [Act.put, pA, pB, pC]
          repeat ((fail_if_success with_reducible show wA ..); (fail_if_success with_reducible show wB ..); (fail_if_success (with_reducible show Code.wp _ (Code.cond _ _ _) _ _ _)); go_step)
          refine wp_cond_true (by first | rfl | exact congrArg Value.bool (decide_eq_true (by omega))) ?_
          skip
          repeat ((fail_if_success with_reducible show wA ..); (fail_if_success with_reducible show wB ..); go_step)
          refine wv (v_load (i := 1) hE21 rfl rfl rfl Try.underlying41 rfl (szA (n := 5))) ?_
          simp only [Act.put, pA, pB, pC]
          refine wl_step (st_gives hE21 rfl (run_call rfl Try.call46) (HQ13.out _) ?_)
          intro w22 hb22 hE22
          clear hE21
          simp only [Act.put, pA, pB, pC]
          refine wl_step (st_store (i := 1) hE22 rfl rfl rfl rfl rfl (szA (n := 5)) (by first | (simp only [ints_size, digs_length, List.length_replicate, List.length_cons, List.length_nil]; done) | (simp only [ints_size, digs_length, List.length_replicate, List.length_cons, List.length_nil, List.length_set, List.length_append]; omega) | rfl) (by first | exact ints_one _ _ | decide | simp [*]) ?_)
          intro w23 hE23
          clear hE22
          simp only [pB, pC] at hE23
          simp only [Act.put, pA, pB, pC]
          repeat ((fail_if_success with_reducible show wA ..); (fail_if_success with_reducible show wB ..); go_step)
          refine wv (v_load (i := 1) hE23 rfl rfl rfl Try.underlying41 rfl (szA (n := 5))) ?_
          simp only [Act.put, pA, pB, pC]
          refine wl_step (st_store (i := 4) hE23 rfl rfl rfl rfl rfl (szA (n := 5)) (by first | (simp only [ints_size, digs_length, List.length_replicate, List.length_cons, List.length_nil]; done) | (simp only [ints_size, digs_length, List.length_replicate, List.length_cons, List.length_nil, List.length_set, List.length_append]; omega) | rfl) (by first | exact ints_one _ _ | decide | simp [*]) ?_)
          intro w24 hE24
          clear hE23
          simp only [pB, pC] at hE24
          simp only [Act.put, pA, pB, pC]
          refine wv (v_moveC (.inr rfl)) ?_
          simp only [Act.put, pA, pB, pC]
          repeat ((fail_if_success with_reducible show wA ..); (fail_if_success with_reducible show wB ..); go_step)
          refine bodyPost_ret (results_ct rfl _ _ _ _ _ (0, 0) _ rfl (hE24.get (i := 4) rfl) Try.underlying41 rfl (szA (n := 5)) rfl) rfl ⟨rfl, hE24.below⟩
        · refine ⟨ru, F13.out, by rw [N13.out]; unfold evenN; rw [if_neg ho], fun w => ?_⟩
          rw [decide_eq_false ho] at HO13
          clear Hroot hr h1 hz ho h2
          have hE0 := Env.nil w
          go_enter Try.func41, Try.ntmps41
          repeat ((fail_if_success with_reducible show wA ..); (fail_if_success with_reducible show wB ..); go_step)
          refine wl_step (st_boxA hE0 rfl rfl rfl ?_)
          intro g0 w1 hb1 hE1
          clear hE0
          simp only [Act.put, pA, pB, pC]
          refine wl_step (st_boxA hE1 rfl rfl rfl ?_)
          intro g1 w2 hb2 hE2
          clear hE1
          simp only [Act.put, pA, pB, pC]
          refine wl_step (st_alloc (zs := ints .u64 (List.replicate 5 0)) hE2 rfl rfl (fun w => by kernel_rfl) ?_)
          intro g2 w3 hb3 hE3
          clear hE2
          simp only [Act.put, pA, pB, pC]
          refine wv (v_moveC (.inr rfl)) ?_
          simp only [Act.put, pA, pB, pC]
          repeat ((fail_if_success with_reducible show wA ..); (fail_if_success with_reducible show wB ..); go_step)
          refine wp_region_env 6 (by kernel_rfl) (by kernel_rfl) (fun _ _ d _ _ h => by cases d <;> exact h) hE3 ?_
          refine hv (fun _ hW => (v_load (i := 1) hW rfl rfl rfl Try.underlying41 rfl (szA (n := 5)))) ?_
          simp only [Act.put, pA, pB, pC]
          refine hv (fun _ hW => (v_load (i := 1) hW rfl rfl rfl Try.underlying41 rfl (szA (n := 5)))) ?_
          simp only [Act.put, pA, pB, pC]
          refine headRun_call (fun w1 => run_call rfl Try.call30) (fun w1 hW => H1.out _) ?_
          simp only [Act.put, pA, pB, pC]
          refine hv (fun _ hW => (v_load (i := 1) hW rfl rfl rfl Try.underlying41 rfl (szA (n := 5)))) ?_
          simp only [Act.put, pA, pB, pC]
          refine headRun_call (fun w1 => run_call rfl Try.call30) (fun w1 hW => H2.out _) ?_
          simp only [Act.put, pA, pB, pC]
          refine headRun_alloc (zs := ints .u64 (List.replicate 5 0)) rfl rfl (fun w => by kernel_rfl) ?_
          simp only [Act.put, pA, pB, pC]
          refine headRun_nil (endK1 ?_)
          intro g3 w4 hE4
          clear hE3
          simp only [List.drop_succ_cons, List.drop_zero, Act.put, pA, pB, pC]
          refine wl_step (st_store (i := 0) hE4 rfl rfl rfl rfl rfl (szA (n := 5)) (by first | (simp only [ints_size, digs_length, List.length_replicate, List.length_cons, List.length_nil]; done) | (simp only [ints_size, digs_length, List.length_replicate, List.length_cons, List.length_nil, List.length_set, List.length_append]; omega) | rfl) (by first | exact ints_one _ _ | decide | simp [*]) ?_)
          intro w5 hE5
          clear hE4
          simp only [pB, pC] at hE5
          simp only [Act.put, pA, pB, pC]
          repeat ((fail_if_success with_reducible show wA ..); (fail_if_success with_reducible show wB ..); go_step)
          refine wp_region_env 6 (by kernel_rfl) (by kernel_rfl) (fun _ _ d _ _ h => by cases d <;> exact h) hE5 ?_
          refine hv (fun _ hW => (v_load (i := 0) hW rfl rfl rfl Try.underlying41 rfl (szA (n := 5)))) ?_
          simp only [Act.put, pA, pB, pC]
          refine hv (fun _ hW => (v_load (i := 0) hW rfl rfl rfl Try.underlying41 rfl (szA (n := 5)))) ?_
          simp only [Act.put, pA, pB, pC]
          refine headRun_call (fun w1 => run_call rfl Try.call30) (fun w1 hW => H3.out _) ?_
          simp only [Act.put, pA, pB, pC]
          refine hv (fun _ hW => (v_load (i := 2) hW rfl rfl rfl Try.underlying41 rfl (szA (n := 5)))) ?_
          simp only [Act.put, pA, pB, pC]
          refine headRun_call (fun w1 => run_call rfl Try.call30) (fun w1 hW => H4.out _) ?_
          simp only [Act.put, pA, pB, pC]
          refine headRun_alloc (zs := ints .u64 (List.replicate 5 0)) rfl rfl (fun w => by kernel_rfl) ?_
          simp only [Act.put, pA, pB, pC]
          refine headRun_nil (endK1 ?_)
          intro g4 w6 hE6
          clear hE5
          simp only [List.drop_succ_cons, List.drop_zero, Act.put, pA, pB, pC]
          refine wl_step (st_store (i := 0) hE6 rfl rfl rfl rfl rfl (szA (n := 5)) (by first | (simp only [ints_size, digs_length, List.length_replicate, List.length_cons, List.length_nil]; done) | (simp only [ints_size, digs_length, List.length_replicate, List.length_cons, List.length_nil, List.length_set, List.length_append]; omega) | rfl) (by first | exact ints_one _ _ | decide | simp [*]) ?_)
          intro w7 hE7
          clear hE6
          simp only [pB, pC] at hE7
          simp only [Act.put, pA, pB, pC]
          repeat ((fail_if_success with_reducible show wA ..); (fail_if_success with_reducible show wB ..); go_step)
          refine wp_region_env 9 (by kernel_rfl) (by kernel_rfl) (fun _ _ d _ _ h => by cases d <;> exact h) hE7 ?_
          refine hv (fun _ hW => (v_load (i := 4) hW rfl rfl rfl Try.underlying41 rfl (szA (n := 5)))) ?_
          simp only [Act.put, pA, pB, pC]
          refine hv (fun _ hW => (v_load (i := 1) hW rfl rfl rfl Try.underlying41 rfl (szA (n := 5)))) ?_
          simp only [Act.put, pA, pB, pC]
          refine headRun_call (fun w1 => run_call rfl Try.call30) (fun w1 hW => H5.out _) ?_
          simp only [Act.put, pA, pB, pC]
          refine hv (fun _ hW => (v_load (i := 4) hW rfl rfl rfl Try.underlying41 rfl (szA (n := 5)))) ?_
          simp only [Act.put, pA, pB, pC]
          refine hv (fun _ hW => (v_load (i := 0) hW rfl rfl rfl Try.underlying41 rfl (szA (n := 5)))) ?_
          simp only [Act.put, pA, pB, pC]
          refine headRun_call (fun w1 => run_call rfl Try.call30) (fun w1 hW => H6.out _) ?_
          simp only [Act.put, pA, pB, pC]
          refine headRun_call (fun w1 => run_call rfl Try.call54) (fun w1 hW => H7.out _) ?_
          simp only [Act.put, pA, pB, pC]
          refine headRun_call (fun w1 => run_call rfl Try.call30) (fun w1 hW => H8.out _) ?_
          simp only [Act.put, pA, pB, pC]
          refine headRun_alloc (zs := ints .u64 (List.replicate 5 0)) rfl rfl (fun w => by kernel_rfl) ?_
          simp only [Act.put, pA, pB, pC]
          refine headRun_nil (endK1 ?_)
          intro g5 w8 hE8
          clear hE7
          simp only [List.drop_succ_cons, List.drop_zero, Act.put, pA, pB, pC]
          refine wl_step (st_store (i := 0) hE8 rfl rfl rfl rfl rfl (szA (n := 5)) (by first | (simp only [ints_size, digs_length, List.length_replicate, List.length_cons, List.length_nil]; done) | (simp only [ints_size, digs_length, List.length_replicate, List.length_cons, List.length_nil, List.length_set, List.length_append]; omega) | rfl) (by first | exact ints_one _ _ | decide | simp [*]) ?_)
          intro w9 hE9
          clear hE8
          simp only [pB, pC] at hE9
          simp only [Act.put, pA, pB, pC]
          repeat ((fail_if_success with_reducible show wA ..); (fail_if_success with_reducible show wB ..); go_step)
          refine wp_region_env 6 (by kernel_rfl) (by kernel_rfl) (fun _ _ d _ _ h => by cases d <;> exact h) hE9 ?_
          refine hv (fun _ hW => (v_load (i := 4) hW rfl rfl rfl Try.underlying41 rfl (szA (n := 5)))) ?_
          simp only [Act.put, pA, pB, pC]
          refine hv (fun _ hW => (v_load (i := 0) hW rfl rfl rfl Try.underlying41 rfl (szA (n := 5)))) ?_
          simp only [Act.put, pA, pB, pC]
          refine headRun_call (fun w1 => run_call rfl Try.call30) (fun w1 hW => H9.out _) ?_
          simp only [Act.put, pA, pB, pC]
          refine hv (fun _ hW => (v_load (i := 0) hW rfl rfl rfl Try.underlying41 rfl (szA (n := 5)))) ?_
          simp only [Act.put, pA, pB, pC]
          refine headRun_call (fun w1 => run_call rfl Try.call30) (fun w1 hW => H10.out _) ?_
          simp only [Act.put, pA, pB, pC]
          refine headRun_alloc (zs := ints .u64 (List.replicate 5 0)) rfl rfl (fun w => by kernel_rfl) ?_
          simp only [Act.put, pA, pB, pC]
          refine headRun_nil (endK1 ?_)
          intro g6 w10 hE10
          clear hE9
          simp only [List.drop_succ_cons, List.drop_zero, Act.put, pA, pB, pC]
          refine wl_step (st_store (i := 0) hE10 rfl rfl rfl rfl rfl (szA (n := 5)) (by first | (simp only [ints_size, digs_length, List.length_replicate, List.length_cons, List.length_nil]; done) | (simp only [ints_size, digs_length, List.length_replicate, List.length_cons, List.length_nil, List.length_set, List.length_append]; omega) | rfl) (by first | exact ints_one _ _ | decide | simp [*]) ?_)
          intro w11 hE11
          clear hE10
          simp only [pB, pC] at hE11
          simp only [Act.put, pA, pB, pC]
          repeat ((fail_if_success with_reducible show wA ..); (fail_if_success with_reducible show wB ..); go_step)
          refine wv (v_load (i := 5) hE11 rfl rfl rfl Try.underlying41 rfl (szA (n := 5))) ?_
          simp only [Act.put, pA, pB, pC]
          refine wl_step (st_gives hE11 rfl (run_call rfl Try.call45) (HZ.out _) ?_)
          intro w12 hb12 hE12
          clear hE11
          simp only [Act.put, pA, pB, pC]
          refine wv (v_moveT (.inr rfl) rfl) ?_
          simp only [Act.put, pA, pB, pC]
          repeat ((fail_if_success with_reducible show wA ..); (fail_if_success with_reducible show wB ..); (fail_if_success (with_reducible show Code.wp _ (Code.cond _ _ _) _ _ _)); go_step)
          refine wp_cond_false (by first | rfl | exact congrArg Value.bool (decide_eq_false (by omega))) ?_
          skip
          repeat ((fail_if_success with_reducible show wA ..); (fail_if_success with_reducible show wB ..); go_step)
          refine wv (v_load (i := 0) hE12 rfl rfl rfl Try.underlying41 rfl (szA (n := 5))) ?_
          simp only [Act.put, pA, pB, pC]
          refine wv (v_load (i := 6) hE12 rfl rfl rfl Try.underlying41 rfl (szA (n := 5))) ?_
          simp only [Act.put, pA, pB, pC]
          refine wl_step (st_gives hE12 rfl (run_call rfl Try.call66) (HS1.out _) ?_)
          intro w13 hb13 hE13
          clear hE12
          simp only [Act.put, pA, pB, pC]
          refine wv (v_moveT (.inr rfl) rfl) ?_
          simp only [Act.put, pA, pB, pC]
          repeat ((fail_if_success with_reducible show wA ..); (fail_if_success with_reducible show wB ..); (fail_if_success (with_reducible show Code.wp _ (Code.cond _ _ _) _ _ _)); go_step)
          refine wp_cond_false (by first | rfl | exact congrArg Value.bool (decide_eq_false (by omega))) ?_
          skip
          repeat ((fail_if_success with_reducible show wA ..); (fail_if_success with_reducible show wB ..); go_step)
          refine wp_region_B (n := 5) 4 (by kernel_rfl) rfl hE13 ?_
          intro w14 hb14 hE14
          clear hE13
          refine wpB_take (i := 0) (by kernel_rfl) rfl (by kernel_rfl) (fun _ _ _ h => h) rfl (v_load (i := 0) hE14 rfl rfl rfl Try.underlying41 rfl (szA (n := 5))) ?_
          simp only [Act.put, pA, pB, pC]
          refine wpB_take (i := 1) (by kernel_rfl) rfl (by kernel_rfl) (fun _ _ _ h => h) rfl (v_load (i := 6) hE14 rfl rfl rfl Try.underlying41 rfl (szA (n := 5))) ?_
          simp only [Act.put, pA, pB, pC]
          refine wpB_step (i := 2) (by kernel_rfl) rfl (st_gives hE14 rfl (run_call rfl Try.call46) (H11.out _) ?_)
          intro w15 hb15 hE15
          clear hE14
          refine ⟨fun _ => hb15, ?_⟩
          simp only [Act.put, pA, pB, pC]
          refine wpB_step (i := 3) (by kernel_rfl) rfl (st_gives hE15 rfl (run_call rfl Try.call66) (HS2.out _) ?_)
          intro w16 hb16 hE16
          clear hE15
          refine ⟨fun _ => hb16, ?_⟩
          simp only [Act.put, pA, pB, pC]
          refine wpB_step (i := 4) (by kernel_rfl) rfl (st_val rfl (v_moveT (.inr rfl) rfl) ?_)
          refine ⟨fun _ => Below.refl _ _, ?_⟩
          simp only [Act.put, pA, pB, pC]
          refine wpB_done (by kernel_rfl) ?_ _
          repeat ((fail_if_success with_reducible show wA ..); (fail_if_success with_reducible show wB ..); (fail_if_success (with_reducible show Code.wp _ (Code.cond _ _ _) _ _ _)); go_step)
          refine wp_cond_true (by first | rfl | exact congrArg Value.bool (decide_eq_true (by omega))) ?_
          skip
          repeat ((fail_if_success with_reducible show wA ..); (fail_if_success with_reducible show wB ..); go_step)
          refine wp_region_B (n := 4) 3 (by kernel_rfl) rfl hE16 ?_
          intro w17 hb17 hE17
          clear hE16
          refine wpB_take (i := 0) (by kernel_rfl) rfl (by kernel_rfl) (fun _ _ _ h => h) rfl (v_load (i := 1) hE17 rfl rfl rfl Try.underlying41 rfl (szA (n := 5))) ?_
          simp only [Act.put, pA, pB, pC]
          refine wpB_step (i := 1) (by kernel_rfl) rfl (st_gives hE17 rfl (run_call rfl Try.call67) (H12.out _) ?_)
          intro w18 hb18 hE18
          clear hE17
          refine ⟨fun _ => hb18, ?_⟩
          simp only [Act.put, pA, pB, pC]
          refine wpB_step (i := 2) (by kernel_rfl) rfl (st_gives hE18 rfl (run_call rfl Try.call30) (H13.out _) ?_)
          intro w19 hb19 hE19
          clear hE18
          refine ⟨fun _ => hb19, ?_⟩
          simp only [Act.put, pA, pB, pC]
          refine wpB_step (i := 3) (by kernel_rfl) rfl (st_store (i := 1) hE19 rfl rfl rfl rfl rfl (szA (n := 5)) (by first | (simp only [ints_size, digs_length, List.length_replicate, List.length_cons, List.length_nil]; done) | (simp only [ints_size, digs_length, List.length_replicate, List.length_cons, List.length_nil, List.length_set, List.length_append]; omega) | rfl) (by first | exact ints_one _ _ | decide | simp [*]) ?_)
          intro w20 hE20
          clear hE19
          simp only [pB, pC] at hE20
          refine ⟨fun h => absurd h (by decide), ?_⟩
          simp only [Act.put, pA, pB, pC]
          refine wpB_done (by kernel_rfl) ?_ _
          repeat ((fail_if_success with_reducible show wA ..); (fail_if_success with_reducible show wB ..); go_step)
          refine wv (v_load (i := 1) hE20 rfl rfl rfl Try.underlying41 rfl (szA (n := 5))) ?_
          simp only [Act.put, pA, pB, pC]
          refine wl_step (st_gives hE20 rfl (run_call rfl Try.call32) (HO13.out _) ?_)
          intro w21 hb21 hE21
          clear hE20
          simp only [Act.put, pA, pB, pC]
          repeat ((fail_if_success with_reducible show wA ..); (fail_if_success with_reducible show wB ..); (fail_if_success (with_reducible show Code.wp _ (Code.cond _ _ _) _ _ _)); go_step)
          refine wp_cond_false (by first | rfl | exact congrArg Value.bool (decide_eq_false (by omega))) ?_
          skip
          repeat ((fail_if_success with_reducible show wA ..); (fail_if_success with_reducible show wB ..); go_step)
          refine wv (v_load (i := 1) hE21 rfl rfl rfl Try.underlying41 rfl (szA (n := 5))) ?_
          simp only [Act.put, pA, pB, pC]
          refine wl_step (st_store (i := 4) hE21 rfl rfl rfl rfl rfl (szA (n := 5)) (by first | (simp only [ints_size, digs_length, List.length_replicate, List.length_cons, List.length_nil]; done) | (simp only [ints_size, digs_length, List.length_replicate, List.length_cons, List.length_nil, List.length_set, List.length_append]; omega) | rfl) (by first | exact ints_one _ _ | decide | simp [*]) ?_)
          intro w22 hE22
          clear hE21
          simp only [pB, pC] at hE22
          simp only [Act.put, pA, pB, pC]
          refine wv (v_moveC (.inr rfl)) ?_
          simp only [Act.put, pA, pB, pC]
          repeat ((fail_if_success with_reducible show wA ..); (fail_if_success with_reducible show wB ..); go_step)
          refine bodyPost_ret (results_ct rfl _ _ _ _ _ (0, 0) _ rfl (hE22.get (i := 4) rfl) Try.underlying41 rfl (szA (n := 5)) rfl) rfl ⟨rfl, hE22.below⟩
      · have hr : rootN U V = (0, false) := by rw [Hroot.out, if_neg hz, if_neg h1, if_neg h2]
        rw [hr]
        refine ⟨List.replicate 5 0, Fe_zero, by rw [show fval (List.replicate 5 0) = 0 from val_replicate _ _]; rfl, fun w => ?_⟩
        rw [decide_eq_false h2] at HS2
        clear Hroot hr h1 h2 hz
        have hE0 := Env.nil w
        go_enter Try.func41, Try.ntmps41
        repeat ((fail_if_success with_reducible show wA ..); (fail_if_success with_reducible show wB ..); go_step)
        refine wl_step (st_boxA hE0 rfl rfl rfl ?_)
        intro g0 w1 hb1 hE1
        clear hE0
        simp only [Act.put, pA, pB, pC]
        refine wl_step (st_boxA hE1 rfl rfl rfl ?_)
        intro g1 w2 hb2 hE2
        clear hE1
        simp only [Act.put, pA, pB, pC]
        refine wl_step (st_alloc (zs := ints .u64 (List.replicate 5 0)) hE2 rfl rfl (fun w => by kernel_rfl) ?_)
        intro g2 w3 hb3 hE3
        clear hE2
        simp only [Act.put, pA, pB, pC]
        refine wv (v_moveC (.inr rfl)) ?_
        simp only [Act.put, pA, pB, pC]
        repeat ((fail_if_success with_reducible show wA ..); (fail_if_success with_reducible show wB ..); go_step)
        refine wp_region_env 6 (by kernel_rfl) (by kernel_rfl) (fun _ _ d _ _ h => by cases d <;> exact h) hE3 ?_
        refine hv (fun _ hW => (v_load (i := 1) hW rfl rfl rfl Try.underlying41 rfl (szA (n := 5)))) ?_
        simp only [Act.put, pA, pB, pC]
        refine hv (fun _ hW => (v_load (i := 1) hW rfl rfl rfl Try.underlying41 rfl (szA (n := 5)))) ?_
        simp only [Act.put, pA, pB, pC]
        refine headRun_call (fun w1 => run_call rfl Try.call30) (fun w1 hW => H1.out _) ?_
        simp only [Act.put, pA, pB, pC]
        refine hv (fun _ hW => (v_load (i := 1) hW rfl rfl rfl Try.underlying41 rfl (szA (n := 5)))) ?_
        simp only [Act.put, pA, pB, pC]
        refine headRun_call (fun w1 => run_call rfl Try.call30) (fun w1 hW => H2.out _) ?_
        simp only [Act.put, pA, pB, pC]
        refine headRun_alloc (zs := ints .u64 (List.replicate 5 0)) rfl rfl (fun w => by kernel_rfl) ?_
        simp only [Act.put, pA, pB, pC]
        refine headRun_nil (endK1 ?_)
        intro g3 w4 hE4
        clear hE3
        simp only [List.drop_succ_cons, List.drop_zero, Act.put, pA, pB, pC]
        refine wl_step (st_store (i := 0) hE4 rfl rfl rfl rfl rfl (szA (n := 5)) (by first | (simp only [ints_size, digs_length, List.length_replicate, List.length_cons, List.length_nil]; done) | (simp only [ints_size, digs_length, List.length_replicate, List.length_cons, List.length_nil, List.length_set, List.length_append]; omega) | rfl) (by first | exact ints_one _ _ | decide | simp [*]) ?_)
        intro w5 hE5
        clear hE4
        simp only [pB, pC] at hE5
        simp only [Act.put, pA, pB, pC]
        repeat ((fail_if_success with_reducible show wA ..); (fail_if_success with_reducible show wB ..); go_step)
        refine wp_region_env 6 (by kernel_rfl) (by kernel_rfl) (fun _ _ d _ _ h => by cases d <;> exact h) hE5 ?_
        refine hv (fun _ hW => (v_load (i := 0) hW rfl rfl rfl Try.underlying41 rfl (szA (n := 5)))) ?_
        simp only [Act.put, pA, pB, pC]
        refine hv (fun _ hW => (v_load (i := 0) hW rfl rfl rfl Try.underlying41 rfl (szA (n := 5)))) ?_
        simp only [Act.put, pA, pB, pC]
        refine headRun_call (fun w1 => run_call rfl Try.call30) (fun w1 hW => H3.out _) ?_
        simp only [Act.put, pA, pB, pC]
        refine hv (fun _ hW => (v_load (i := 2) hW rfl rfl rfl Try.underlying41 rfl (szA (n := 5)))) ?_
        simp only [Act.put, pA, pB, pC]
        refine headRun_call (fun w1 => run_call rfl Try.call30) (fun w1 hW => H4.out _) ?_
        simp only [Act.put, pA, pB, pC]
        refine headRun_alloc (zs := ints .u64 (List.replicate 5 0)) rfl rfl (fun w => by kernel_rfl) ?_
        simp only [Act.put, pA, pB, pC]
        refine headRun_nil (endK1 ?_)
        intro g4 w6 hE6
        clear hE5
        simp only [List.drop_succ_cons, List.drop_zero, Act.put, pA, pB, pC]
        refine wl_step (st_store (i := 0) hE6 rfl rfl rfl rfl rfl (szA (n := 5)) (by first | (simp only [ints_size, digs_length, List.length_replicate, List.length_cons, List.length_nil]; done) | (simp only [ints_size, digs_length, List.length_replicate, List.length_cons, List.length_nil, List.length_set, List.length_append]; omega) | rfl) (by first | exact ints_one _ _ | decide | simp [*]) ?_)
        intro w7 hE7
        clear hE6
        simp only [pB, pC] at hE7
        simp only [Act.put, pA, pB, pC]
        repeat ((fail_if_success with_reducible show wA ..); (fail_if_success with_reducible show wB ..); go_step)
        refine wp_region_env 9 (by kernel_rfl) (by kernel_rfl) (fun _ _ d _ _ h => by cases d <;> exact h) hE7 ?_
        refine hv (fun _ hW => (v_load (i := 4) hW rfl rfl rfl Try.underlying41 rfl (szA (n := 5)))) ?_
        simp only [Act.put, pA, pB, pC]
        refine hv (fun _ hW => (v_load (i := 1) hW rfl rfl rfl Try.underlying41 rfl (szA (n := 5)))) ?_
        simp only [Act.put, pA, pB, pC]
        refine headRun_call (fun w1 => run_call rfl Try.call30) (fun w1 hW => H5.out _) ?_
        simp only [Act.put, pA, pB, pC]
        refine hv (fun _ hW => (v_load (i := 4) hW rfl rfl rfl Try.underlying41 rfl (szA (n := 5)))) ?_
        simp only [Act.put, pA, pB, pC]
        refine hv (fun _ hW => (v_load (i := 0) hW rfl rfl rfl Try.underlying41 rfl (szA (n := 5)))) ?_
        simp only [Act.put, pA, pB, pC]
        refine headRun_call (fun w1 => run_call rfl Try.call30) (fun w1 hW => H6.out _) ?_
        simp only [Act.put, pA, pB, pC]
        refine headRun_call (fun w1 => run_call rfl Try.call54) (fun w1 hW => H7.out _) ?_
        simp only [Act.put, pA, pB, pC]
        refine headRun_call (fun w1 => run_call rfl Try.call30) (fun w1 hW => H8.out _) ?_
        simp only [Act.put, pA, pB, pC]
        refine headRun_alloc (zs := ints .u64 (List.replicate 5 0)) rfl rfl (fun w => by kernel_rfl) ?_
        simp only [Act.put, pA, pB, pC]
        refine headRun_nil (endK1 ?_)
        intro g5 w8 hE8
        clear hE7
        simp only [List.drop_succ_cons, List.drop_zero, Act.put, pA, pB, pC]
        refine wl_step (st_store (i := 0) hE8 rfl rfl rfl rfl rfl (szA (n := 5)) (by first | (simp only [ints_size, digs_length, List.length_replicate, List.length_cons, List.length_nil]; done) | (simp only [ints_size, digs_length, List.length_replicate, List.length_cons, List.length_nil, List.length_set, List.length_append]; omega) | rfl) (by first | exact ints_one _ _ | decide | simp [*]) ?_)
        intro w9 hE9
        clear hE8
        simp only [pB, pC] at hE9
        simp only [Act.put, pA, pB, pC]
        repeat ((fail_if_success with_reducible show wA ..); (fail_if_success with_reducible show wB ..); go_step)
        refine wp_region_env 6 (by kernel_rfl) (by kernel_rfl) (fun _ _ d _ _ h => by cases d <;> exact h) hE9 ?_
        refine hv (fun _ hW => (v_load (i := 4) hW rfl rfl rfl Try.underlying41 rfl (szA (n := 5)))) ?_
        simp only [Act.put, pA, pB, pC]
        refine hv (fun _ hW => (v_load (i := 0) hW rfl rfl rfl Try.underlying41 rfl (szA (n := 5)))) ?_
        simp only [Act.put, pA, pB, pC]
        refine headRun_call (fun w1 => run_call rfl Try.call30) (fun w1 hW => H9.out _) ?_
        simp only [Act.put, pA, pB, pC]
        refine hv (fun _ hW => (v_load (i := 0) hW rfl rfl rfl Try.underlying41 rfl (szA (n := 5)))) ?_
        simp only [Act.put, pA, pB, pC]
        refine headRun_call (fun w1 => run_call rfl Try.call30) (fun w1 hW => H10.out _) ?_
        simp only [Act.put, pA, pB, pC]
        refine headRun_alloc (zs := ints .u64 (List.replicate 5 0)) rfl rfl (fun w => by kernel_rfl) ?_
        simp only [Act.put, pA, pB, pC]
        refine headRun_nil (endK1 ?_)
        intro g6 w10 hE10
        clear hE9
        simp only [List.drop_succ_cons, List.drop_zero, Act.put, pA, pB, pC]
        refine wl_step (st_store (i := 0) hE10 rfl rfl rfl rfl rfl (szA (n := 5)) (by first | (simp only [ints_size, digs_length, List.length_replicate, List.length_cons, List.length_nil]; done) | (simp only [ints_size, digs_length, List.length_replicate, List.length_cons, List.length_nil, List.length_set, List.length_append]; omega) | rfl) (by first | exact ints_one _ _ | decide | simp [*]) ?_)
        intro w11 hE11
        clear hE10
        simp only [pB, pC] at hE11
        simp only [Act.put, pA, pB, pC]
        repeat ((fail_if_success with_reducible show wA ..); (fail_if_success with_reducible show wB ..); go_step)
        refine wv (v_load (i := 5) hE11 rfl rfl rfl Try.underlying41 rfl (szA (n := 5))) ?_
        simp only [Act.put, pA, pB, pC]
        refine wl_step (st_gives hE11 rfl (run_call rfl Try.call45) (HZ.out _) ?_)
        intro w12 hb12 hE12
        clear hE11
        simp only [Act.put, pA, pB, pC]
        refine wv (v_moveT (.inr rfl) rfl) ?_
        simp only [Act.put, pA, pB, pC]
        repeat ((fail_if_success with_reducible show wA ..); (fail_if_success with_reducible show wB ..); (fail_if_success (with_reducible show Code.wp _ (Code.cond _ _ _) _ _ _)); go_step)
        refine wp_cond_false (by first | rfl | exact congrArg Value.bool (decide_eq_false (by omega))) ?_
        skip
        repeat ((fail_if_success with_reducible show wA ..); (fail_if_success with_reducible show wB ..); go_step)
        refine wv (v_load (i := 0) hE12 rfl rfl rfl Try.underlying41 rfl (szA (n := 5))) ?_
        simp only [Act.put, pA, pB, pC]
        refine wv (v_load (i := 6) hE12 rfl rfl rfl Try.underlying41 rfl (szA (n := 5))) ?_
        simp only [Act.put, pA, pB, pC]
        refine wl_step (st_gives hE12 rfl (run_call rfl Try.call66) (HS1.out _) ?_)
        intro w13 hb13 hE13
        clear hE12
        simp only [Act.put, pA, pB, pC]
        refine wv (v_moveT (.inr rfl) rfl) ?_
        simp only [Act.put, pA, pB, pC]
        repeat ((fail_if_success with_reducible show wA ..); (fail_if_success with_reducible show wB ..); (fail_if_success (with_reducible show Code.wp _ (Code.cond _ _ _) _ _ _)); go_step)
        refine wp_cond_false (by first | rfl | exact congrArg Value.bool (decide_eq_false (by omega))) ?_
        skip
        repeat ((fail_if_success with_reducible show wA ..); (fail_if_success with_reducible show wB ..); go_step)
        refine wp_region_B (n := 5) 4 (by kernel_rfl) rfl hE13 ?_
        intro w14 hb14 hE14
        clear hE13
        refine wpB_take (i := 0) (by kernel_rfl) rfl (by kernel_rfl) (fun _ _ _ h => h) rfl (v_load (i := 0) hE14 rfl rfl rfl Try.underlying41 rfl (szA (n := 5))) ?_
        simp only [Act.put, pA, pB, pC]
        refine wpB_take (i := 1) (by kernel_rfl) rfl (by kernel_rfl) (fun _ _ _ h => h) rfl (v_load (i := 6) hE14 rfl rfl rfl Try.underlying41 rfl (szA (n := 5))) ?_
        simp only [Act.put, pA, pB, pC]
        refine wpB_step (i := 2) (by kernel_rfl) rfl (st_gives hE14 rfl (run_call rfl Try.call46) (H11.out _) ?_)
        intro w15 hb15 hE15
        clear hE14
        refine ⟨fun _ => hb15, ?_⟩
        simp only [Act.put, pA, pB, pC]
        refine wpB_step (i := 3) (by kernel_rfl) rfl (st_gives hE15 rfl (run_call rfl Try.call66) (HS2.out _) ?_)
        intro w16 hb16 hE16
        clear hE15
        refine ⟨fun _ => hb16, ?_⟩
        simp only [Act.put, pA, pB, pC]
        refine wpB_step (i := 4) (by kernel_rfl) rfl (st_val rfl (v_moveT (.inr rfl) rfl) ?_)
        refine ⟨fun _ => Below.refl _ _, ?_⟩
        simp only [Act.put, pA, pB, pC]
        refine wpB_done (by kernel_rfl) ?_ _
        repeat ((fail_if_success with_reducible show wA ..); (fail_if_success with_reducible show wB ..); (fail_if_success (with_reducible show Code.wp _ (Code.cond _ _ _) _ _ _)); go_step)
        refine wp_cond_false (by first | rfl | exact congrArg Value.bool (decide_eq_false (by omega))) ?_
        skip
        repeat ((fail_if_success with_reducible show wA ..); (fail_if_success with_reducible show wB ..); go_step)
        refine wv (v_built (k := .u64) (l := List.replicate 5 0) rfl (fun w => by kernel_rfl)) ?_
        simp only [Act.put, pA, pB, pC]
        refine wl_step (st_store (i := 4) hE16 rfl rfl rfl rfl rfl (szA (n := 5)) (by first | (simp only [ints_size, digs_length, List.length_replicate, List.length_cons, List.length_nil]; done) | (simp only [ints_size, digs_length, List.length_replicate, List.length_cons, List.length_nil, List.length_set, List.length_append]; omega) | rfl) (by first | exact ints_one _ _ | decide | simp [*]) ?_)
        intro w17 hE17
        clear hE16
        simp only [pB, pC] at hE17
        simp only [Act.put, pA, pB, pC]
        refine wv (v_moveC (.inr rfl)) ?_
        simp only [Act.put, pA, pB, pC]
        repeat ((fail_if_success with_reducible show wA ..); (fail_if_success with_reducible show wB ..); go_step)
        refine bodyPost_ret (results_ct rfl _ _ _ _ _ (0, 0) _ rfl (hE17.get (i := 4) rfl) Try.underlying41 rfl (szA (n := 5)) rfl) rfl ⟨rfl, hE17.below⟩
end Go.Proofs.Ythddoelflmoedaa
namespace Go.Proofs.Ythddoelflmoedaa
open Go.RowKit
set_option maxRecDepth 100000
set_option linter.unusedVariables false
set_option linter.unusedSimpArgs false

theorem digs_set {B k j A A' d : Nat} (hB : 0 < B) (hj : j < k) (hA : A < B ^ k) (hA' : A' < B ^ k) (hd : d < B) (h : A' + B ^ j * (A / B ^ j % B) = A + B ^ j * d) : (digs B k A).set j d = digs B k A' := by
  have hl : j < (digs B k A).length := by rw [digs_length]; exact hj
  have hv := val_set (B := B) (digs B k A) j d hl
  have hg : (digs B k A)[j] = A / B ^ j % B := by
    have := digs_getElem? B k A j hj
    rw [List.getElem?_eq_getElem hl] at this
    exact Option.some.inj this
  rw [hg, val_digs, Nat.mod_eq_of_lt hA] at hv
  apply val_inj ((digs_Digs hB k A).set j hd) (digs_Digs hB k A')
  · rw [List.length_set, digs_length, digs_length]
  · rw [val_digs, Nat.mod_eq_of_lt hA']
    omega
/-- A power, modulo p, by squares. -/
def powM (p : Nat) : Nat → Nat → Nat → Nat
  | 0, _, _ => 1 % p
  | f + 1, b, e => if e % 2 = 1 then b * powM p f (b * b % p) (e / 2) % p else powM p f (b * b % p) (e / 2)
theorem powM_eq (p : Nat) : ∀ (f b e : Nat), e < 2 ^ f → powM p f b e = b ^ e % p
  | 0, b, e, h => by
    have : e = 0 := by rw [Nat.pow_zero] at h; omega
    subst this
    rfl
  | f + 1, b, e, h => by
    have h2 : e / 2 < 2 ^ f := by rw [Nat.pow_succ] at h; omega
    have ih := powM_eq p f (b * b % p) (e / 2) h2
    have e1 : (b * b % p) ^ (e / 2) % p = b ^ (2 * (e / 2)) % p := by
      rw [← Nat.pow_mod, Nat.pow_mul, Nat.pow_two]
    unfold powM
    rw [ih, e1]
    split
    · rename_i h1
      have : e = 2 * (e / 2) + 1 := by omega
      conv => rhs; rw [this, Nat.pow_succ, Nat.mul_comm]
      exact (Nat.mul_mod_mod _ _ _)
    · rename_i h1
      have : e = 2 * (e / 2) := by omega
      conv => rhs; rw [this]
theorem powM_mul {b e c p f : Nat} (h : e < 2 ^ f) : b ^ e * c % p = powM p f b e * (c % p) % p := by rw [Nat.mul_mod, powM_eq p f b e h]
theorem mul_powM {b e c p f : Nat} (h : e < 2 ^ f) : c * b ^ e % p = (c % p) * powM p f b e % p := by rw [Nat.mul_mod, powM_eq p f b e h]
theorem half_mod : 2 ^ (pN - 2) * 2 % pN = 1 % pN := (powM_mul (f := 255) (of_decide_eq_true (by kernel_rfl))).trans (by kernel_rfl)
theorem rootR_one (U : Nat) : rootR U 1 = U * U ^ ((pN - 5) / 8) % pN := by
  unfold rootR
  simp only [Nat.one_pow, Nat.mul_one]
theorem rootR41 : rootR 4 1 = 39362322753415011913614158609977084030892133031847780325488042146247659569504 := (rootR_one 4).trans ((mul_powM (f := 255) (of_decide_eq_true (by kernel_rfl))).trans (by kernel_rfl))
theorem rootN41 : rootN 4 1 = (2, true) := by
  unfold rootN
  rw [rootR41]
  kernel_rfl

end Go.Proofs.Ythddoelflmoedaa
