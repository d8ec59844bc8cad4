/-
  Layer 4, the document's answer: numbers of eight digits: which is less; a difference; the number below p; bytes.
  Layer 4, the document's answer: a difference, the number below p, the sum; bytes.
  Layer 4, the document's answer: the sum, the difference, bytes.
  Layer 4, the document's answer: bytes of a number, a number of bytes.
-/
import Derived.Test.YtmebjoehmheknaaJ14
namespace Go.Proofs.Ytmebjoehmheknaa
open Go.RowKit
set_option linter.unusedVariables false
set_option linter.unusedSimpArgs false

/-- How many numbers of eight digits there are. -/
def big8 : Nat := 115792089237316195423570985008687907853269984665640564039457584007913129639936
theorem big8_eq : big8 = 4294967296 ^ 8 := by decide
/-- A number of eight digits. -/
abbrev nm (n : Nat) : Value := .agg (ints .u32 (digs 4294967296 8 n))
theorem nm_len (n : Nat) : (digs 4294967296 8 n).length = 8 := digs_length _ _ _
theorem nm_get (n i : Nat) (h : i < 8) : (digs 4294967296 8 n).getD i 0 = n / 4294967296 ^ i % 4294967296 := digs_getD _ _ _ _ h
theorem nm_val {n : Nat} (h : n < big8) : val 4294967296 (digs 4294967296 8 n) = n := by
  rw [val_digs]
  exact Nat.mod_eq_of_lt h
theorem w_u32 {n : Nat} (h : n < 4294967296) : IntKind.u32.wrap (n : Int) = (n : Int) := w_uns rfl h
theorem w_u32m (n : Nat) : IntKind.u32.wrap (n : Int) = ((n % 4294967296 : Nat) : Int) := by simp [IntKind.wrap, IntKind.bits, IntKind.signed]
theorem w_u64d (m n : Nat) (hn : n ≤ 18446744073709551616) : IntKind.u64.wrap ((m : Int) - (n : Int)) = (((m + 18446744073709551616 - n) % 18446744073709551616 : Nat) : Int) := by rw [IntKind.wrap_u64]; omega

set_option maxHeartbeats 1000000 in
theorem P_any (w : World) : Gives 50 #[] w (nm pN) := by
  have hE0 := Env.nil w
  go_enter Try.func50, Try.ntmps50
  repeat ((fail_if_success with_reducible show wA ..); (fail_if_success with_reducible show wB ..); go_step)
  refine wl_step (st_alloc (zs := ints .u32 (List.replicate 8 0)) hE0 rfl rfl (fun w => by kernel_rfl) ?_)
  intro g0 w1 hb1 hE1
  clear hE0
  simp only [Act.put, pA, pB, pC]
  repeat ((fail_if_success with_reducible show wA ..); (fail_if_success with_reducible show wB ..); go_step)
  refine wv (v_built (k := .u32) (l := digs 4294967296 8 pN) rfl (fun w => by kernel_rfl)) ?_
  simp only [Act.put, pA, pB, pC]
  refine wl_step (st_store (i := 0) hE1 rfl rfl rfl rfl rfl (szA (n := 8)) (by first | (simp only [ints_size, digs_length, List.length_replicate, List.length_cons, List.length_nil]; done) | (simp only [ints_size, digs_length, List.length_replicate, List.length_cons, List.length_nil, List.length_set, List.length_append]; omega) | rfl) (by first | exact ints_one _ _ | decide | simp [*]) ?_)
  intro w2 hE2
  clear hE1
  simp only [pB, pC] at hE2
  simp only [Act.put, pA, pB, pC]
  repeat ((fail_if_success with_reducible show wA ..); (fail_if_success with_reducible show wB ..); go_step)
  refine bodyPost_ret (results_cell_row rfl _ _ _ _ _ (0, 0) _ rfl (hE2.get (i := 0) rfl) Try.underlying43 rfl (szA (n := 8))) rfl ⟨rfl, hE2.below⟩
set_option maxHeartbeats 1000000 in
theorem rSmall_any {n : Nat} (hn : n < 4294967296) (w : World) : Gives 53 #[.int .u32 n] w (nm n) := by
  have e : digs 4294967296 8 n = [n, 0, 0, 0, 0, 0, 0, 0] := by
    rw [show digs 4294967296 8 n = n % 4294967296 :: digs 4294967296 7 (n / 4294967296) from rfl, Nat.mod_eq_of_lt hn, Nat.div_eq_of_lt hn]
    rfl
  show Gives _ _ w (.agg (ints .u32 (digs 4294967296 8 n)))
  rw [e]
  have hE0 := Env.nil w
  go_enter Try.func53, Try.ntmps53
  repeat ((fail_if_success with_reducible show wA ..); (fail_if_success with_reducible show wB ..); go_step)
  refine wl_step (st_alloc (zs := ints .u32 (List.replicate 8 0)) hE0 rfl rfl (fun w => by kernel_rfl) ?_)
  intro g0 w1 hb1 hE1
  clear hE0
  simp only [Act.put, pA, pB, pC]
  repeat ((fail_if_success with_reducible show wA ..); (fail_if_success with_reducible show wB ..); go_step)
  refine wv (v_moveT (.inl rfl) rfl) ?_
  simp only [Act.put, pA, pB, pC]
  refine wv (v_built (k := .u32) (l := [n, 0, 0, 0, 0, 0, 0, 0]) rfl (fun w => by kernel_rfl)) ?_
  simp only [Act.put, pA, pB, pC]
  refine wl_step (st_store (i := 0) hE1 rfl rfl rfl rfl rfl (szA (n := 8)) (by first | (simp only [ints_size, digs_length, List.length_replicate, List.length_cons, List.length_nil]; done) | (simp only [ints_size, digs_length, List.length_replicate, List.length_cons, List.length_nil, List.length_set, List.length_append]; omega) | rfl) (by first | exact ints_one _ _ | decide | simp [*]) ?_)
  intro w2 hE2
  clear hE1
  simp only [pB, pC] at hE2
  simp only [Act.put, pA, pB, pC]
  repeat ((fail_if_success with_reducible show wA ..); (fail_if_success with_reducible show wB ..); go_step)
  refine bodyPost_ret (results_cell_row rfl _ _ _ _ _ (0, 0) _ rfl (hE2.get (i := 0) rfl) Try.underlying43 rfl (szA (n := 8))) rfl ⟨rfl, hE2.below⟩
set_option maxHeartbeats 1000000 in
theorem rOdd_any {n : Nat} (hn : n < big8) (w : World) : Gives 60 #[nm n] w (.bool (decide (n % 2 = 1))) := by
  have hl := nm_len n
  have hg := Lib.hid (nm_get n 0 (by decide))
  have hm : n / 4294967296 ^ 0 % 4294967296 % 2 = n % 2 := by
    rw [Nat.pow_zero, Nat.div_one]
    exact Nat.mod_mod_of_dvd _ (by decide)
  have Hm := Lib.hid hm
  clear hm hn
  have hE0 := Env.nil w
  go_enter Try.func60, Try.ntmps60
  repeat ((fail_if_success with_reducible show wA ..); (fail_if_success with_reducible show wB ..); go_step)
  refine wl_step (st_boxA hE0 rfl rfl rfl ?_)
  intro g0 w1 hb1 hE1
  clear hE0
  simp only [Act.put, pA, pB, pC]
  refine wv (v_moveC (.inr rfl)) ?_
  simp only [Act.put, pA, pB, pC]
  repeat ((fail_if_success with_reducible show wA ..); (fail_if_success with_reducible show wB ..); go_step)
  refine wv (v_indexA0 (j := 0) rfl rfl rfl Try.underlying43 (by kernel_rfl) (by first | assumption | omega)) ?_
  simp only [Act.put, pA, pB, pC]
  refine wv (v_cell rfl rfl Try.underlying41 rfl (Env.cellv (i := 0) hE1 rfl (ints_get? _ _ _ (by first | assumption | omega | (simp; done) | (simp; omega))))) ?_
  simp only [Act.put, pA, pB, pC]
  rw [hg.out]
  refine wv (v_rem (n := 2) rfl rfl rfl (by omega)) ?_
  simp only [Act.put, pA, pB, pC]
  rw [Hm.out]
  refine wv (v_eql (n := 1) rfl rfl rfl) ?_
  simp only [Act.put, pA, pB, pC]
  refine wv (v_moveT (.inr rfl) rfl) ?_
  simp only [Act.put, pA, pB, pC]
  repeat ((fail_if_success with_reducible show wA ..); (fail_if_success with_reducible show wB ..); go_step)
  go_returns
  exact ⟨rfl, hE1.below⟩

/-! ### Which is less -/
theorem dstep (B A j : Nat) : A / B ^ j = B * (A / B ^ (j + 1)) + A / B ^ j % B := by
  rw [Nat.pow_succ, ← Nat.div_div_eq_div_mul]
  exact (Nat.div_add_mod _ _).symm
theorem lt_of_div' {B A C j : Nat} (h : A / B ^ j < C / B ^ j) : A < C := by
  rcases Nat.lt_or_ge A C with h' | h'
  · exact h'
  · have := Nat.div_le_div_right (c := B ^ j) h'
    omega
theorem tells' {B A C j : Nat} (hB : 0 < B) (h : A / B ^ (j + 1) = C / B ^ (j + 1)) (hne : ¬ A / B ^ j % B = C / B ^ j % B) : decide (A / B ^ j % B < C / B ^ j % B) = decide (A < C) := by
  apply decide_eq_decide.2
  have ha := dstep B A j
  have hb := dstep B C j
  rw [h] at ha
  constructor
  · intro h'
    exact lt_of_div' (B := B) (j := j) (by omega)
  · intro h'
    rcases Nat.lt_trichotomy (A / B ^ j) (C / B ^ j) with h1 | h1 | h1
    · omega
    · omega
    · have := lt_of_div' h1
      omega
theorem goes' {B A C j : Nat} (h : A / B ^ (j + 1) = C / B ^ (j + 1)) (he : A / B ^ j % B = C / B ^ j % B) : A / B ^ j = C / B ^ j := by
  rw [dstep B A j, dstep B C j, h, he]

theorem v_ltS {a : Act} {w : World} {o : Oper} {P : Program} {t t' : TypeId} {x y : Operand} {k : IntKind} {m n : Nat} {b : Bool} (ho : o.op = .binOp .lss t x y t') (hx : a.eval x = .int k (m : Int)) (hy : a.eval y = .int k (n : Int)) (hb : decide (m < n) = b) : Val P o a (.bool b) w := by
  subst hb
  exact v_lss ho hx hy
theorem v_neS {a : Act} {w : World} {o : Oper} {P : Program} {t t' : TypeId} {x y : Operand} {k : IntKind} {m n : Nat} {b : Bool} (ho : o.op = .binOp .neq t x y t') (hx : a.eval x = .int k (m : Int)) (hy : a.eval y = .int k (n : Int)) (hb : decide (m ≠ n) = b) : Val P o a (.bool b) w := by
  subst hb
  exact v_neq ho hx hy

set_option maxHeartbeats 2000000 in
theorem Less_any {m n : Nat} (hm : m < big8) (hn : n < big8) (w : World) : Gives 48 #[nm m, nm n] w (.bool (decide (m < n))) := by
  have hm8 := nm_len m
  have hn8 := nm_len n
  have h8 : m / 4294967296 ^ 8 = n / 4294967296 ^ 8 := by rw [Nat.div_eq_of_lt (big8_eq ▸ hm), Nat.div_eq_of_lt (big8_eq ▸ hn)]
  have H8 := Lib.hid h8
  have Hgm := Lib.hid (nm_get m)
  have Hgn := Lib.hid (nm_get n)
  clear hm hn h8
  have hE0 := Env.nil w
  go_enter Try.func48, Try.ntmps48
  repeat ((fail_if_success with_reducible show wA ..); (fail_if_success with_reducible show wB ..); go_step)
  refine wl_step (st_boxA hE0 rfl rfl rfl ?_)
  intro g0 w1 hb1 hE1
  clear hE0
  simp only [Act.put, pA, pB, pC]
  refine wl_step (st_boxA hE1 rfl rfl rfl ?_)
  intro g1 w2 hb2 hE2
  clear hE1
  simp only [Act.put, pA, pB, pC]
  refine wv (v_moveC (.inr rfl)) ?_
  simp only [Act.put, pA, pB, pC]
  repeat ((fail_if_success with_reducible show wA ..); (fail_if_success with_reducible show wB ..); go_step)
  refine wv (v_moveC (.inr rfl)) ?_
  simp only [Act.put, pA, pB, pC]
  go_wp2
  go_loopw [5] (fun i wr => ∃ K : Nat, K ≤ 8 ∧ i = .int .i64 ((K : Int) - 1) ∧ Hid (m / 4294967296 ^ K = n / 4294967296 ^ K) ∧ Env w [⟨g1, 43, ints .u32 (digs 4294967296 8 n)⟩, ⟨g0, 43, ints .u32 (digs 4294967296 8 m)⟩] wr) (fun i _ => (intOf i + 1).toNat)
  case atStart => exact ⟨8, Nat.le_refl _, rfl, H8, hE2⟩
  case round =>
    clear hE2
    obtain ⟨K, hK, rfl, hAB, hE0⟩ := hrel
    cases K with
    | zero =>
      have hfin : decide (m < n) = false := by
        have h := hAB.out
        rw [Nat.pow_zero, Nat.div_one, Nat.div_one] at h
        rw [h]
        exact decide_eq_false (Nat.lt_irrefl _)
      have HF := Lib.hid hfin
      clear hfin
      repeat ((fail_if_success with_reducible show wA ..); (fail_if_success with_reducible show wB ..); go_step)
      refine wv (v_moveT (.inl rfl) rfl) ?_
      simp only [Act.put, pA, pB, pC]
      refine wv (v_geqI rfl rfl rfl) ?_
      simp only [Act.put, pA, pB, pC]
      repeat ((fail_if_success with_reducible show wA ..); (fail_if_success with_reducible show wB ..); go_step)
      refine wv (v_moveC (.inr rfl)) ?_
      simp only [Act.put, pA, pB, pC]
      repeat ((fail_if_success with_reducible show wA ..); (fail_if_success with_reducible show wB ..); go_step)
      go_returns
      exact ⟨by rw [HF.out]; rfl, hE0.below⟩
    | succ j =>
      have hj : ((j + 1 : Nat) : Int) - 1 = (j : Int) := by omega
      rw [hj]
      clear hj
      have hj8 : j < 8 := by omega
      have hgm := Lib.hid (Hgm.out j hj8)
      have hgn := Lib.hid (Hgn.out j hj8)
      by_cases he : m / 4294967296 ^ j % 4294967296 = n / 4294967296 ^ j % 4294967296
      · have hgo := Lib.hid (goes' hAB.out he)
        have hd := Lib.hid (decide_eq_false (not_not_intro he))
        clear he hAB
        repeat ((fail_if_success with_reducible show wA ..); (fail_if_success with_reducible show wB ..); go_step)
        refine wv (v_moveT (.inl rfl) rfl) ?_
        simp only [Act.put, pA, pB, pC]
        refine wv (v_geqI rfl rfl rfl) ?_
        simp only [Act.put, pA, pB, pC]
        repeat ((fail_if_success with_reducible show wA ..); (fail_if_success with_reducible show wB ..); go_step)
        refine wp_region_B (n := 7) 7 (by kernel_rfl) rfl hE0 ?_
        intro w1 hb1 hE1
        clear hE0
        refine wpB_take (i := 0) (by kernel_rfl) rfl (by kernel_rfl) (fun _ _ _ h => h) rfl (v_moveT (.inl rfl) rfl) ?_
        simp only [Act.put, pA, pB, pC]
        refine wpB_take (i := 1) (by kernel_rfl) rfl (by kernel_rfl) (fun _ _ _ h => h) rfl (v_indexA0 rfl rfl rfl Try.underlying43 (by kernel_rfl) (by first | assumption | omega)) ?_
        simp only [Act.put, pA, pB, pC]
        refine wpB_take (i := 2) (by kernel_rfl) rfl (by kernel_rfl) (fun _ _ _ h => h) rfl (v_cell rfl rfl Try.underlying41 rfl (Env.cellv (i := 1) hE1 rfl (ints_get? _ _ _ (by first | assumption | omega | (simp; done) | (simp; omega))))) ?_
        simp only [Act.put, pA, pB, pC]
        rw [hgm.out]
        refine wpB_take (i := 3) (by kernel_rfl) rfl (by kernel_rfl) (fun _ _ _ h => h) rfl (v_moveT (.inl rfl) rfl) ?_
        simp only [Act.put, pA, pB, pC]
        refine wpB_take (i := 4) (by kernel_rfl) rfl (by kernel_rfl) (fun _ _ _ h => h) rfl (v_indexA0 rfl rfl rfl Try.underlying43 (by kernel_rfl) (by first | assumption | omega)) ?_
        simp only [Act.put, pA, pB, pC]
        refine wpB_take (i := 5) (by kernel_rfl) rfl (by kernel_rfl) (fun _ _ _ h => h) rfl (v_cell rfl rfl Try.underlying41 rfl (Env.cellv (i := 0) hE1 rfl (ints_get? _ _ _ (by first | assumption | omega | (simp; done) | (simp; omega))))) ?_
        simp only [Act.put, pA, pB, pC]
        rw [hgn.out]
        refine wpB_take (i := 6) (by kernel_rfl) rfl (by kernel_rfl) (fun _ _ _ h => h) rfl (v_neS rfl rfl rfl hd.out) ?_
        simp only [Act.put, pA, pB, pC]
        refine wpB_done (by kernel_rfl) ?_ _
        repeat ((fail_if_success with_reducible show wA ..); (fail_if_success with_reducible show wB ..); (fail_if_success (with_reducible show Code.wp _ (Code.cond _ _ _) _ _ _)); go_step)
        refine wp_cond_false (by first | rfl | exact congrArg Value.bool (decide_eq_false (by omega))) ?_
        skip
        repeat ((fail_if_success with_reducible show wA ..); (fail_if_success with_reducible show wB ..); go_step)
        refine wv (v_moveT (.inl rfl) rfl) ?_
        simp only [Act.put, pA, pB, pC]
        refine wv (v_sub (n := 1) rfl rfl rfl (by first | exact w_i64s (by omega) (by omega) | exact w_i64I (by omega) (by omega))) ?_
        simp only [Act.put, pA, pB, pC]
        refine wv (v_moveT (.inr rfl) rfl) ?_
        simp only [Act.put, pA, pB, pC]
        go_wp2
        go_roundw
        case rel => exact ⟨j, by omega, rfl, hgo, hE1⟩
        case measure => simp [intOf]
      · have hte := Lib.hid (tells' (by decide) hAB.out he)
        have hd := Lib.hid (decide_eq_true he)
        clear he hAB
        repeat ((fail_if_success with_reducible show wA ..); (fail_if_success with_reducible show wB ..); go_step)
        refine wv (v_moveT (.inl rfl) rfl) ?_
        simp only [Act.put, pA, pB, pC]
        refine wv (v_geqI rfl rfl rfl) ?_
        simp only [Act.put, pA, pB, pC]
        repeat ((fail_if_success with_reducible show wA ..); (fail_if_success with_reducible show wB ..); go_step)
        refine wp_region_B (n := 7) 7 (by kernel_rfl) rfl hE0 ?_
        intro w1 hb1 hE1
        clear hE0
        refine wpB_take (i := 0) (by kernel_rfl) rfl (by kernel_rfl) (fun _ _ _ h => h) rfl (v_moveT (.inl rfl) rfl) ?_
        simp only [Act.put, pA, pB, pC]
        refine wpB_take (i := 1) (by kernel_rfl) rfl (by kernel_rfl) (fun _ _ _ h => h) rfl (v_indexA0 rfl rfl rfl Try.underlying43 (by kernel_rfl) (by first | assumption | omega)) ?_
        simp only [Act.put, pA, pB, pC]
        refine wpB_take (i := 2) (by kernel_rfl) rfl (by kernel_rfl) (fun _ _ _ h => h) rfl (v_cell rfl rfl Try.underlying41 rfl (Env.cellv (i := 1) hE1 rfl (ints_get? _ _ _ (by first | assumption | omega | (simp; done) | (simp; omega))))) ?_
        simp only [Act.put, pA, pB, pC]
        rw [hgm.out]
        refine wpB_take (i := 3) (by kernel_rfl) rfl (by kernel_rfl) (fun _ _ _ h => h) rfl (v_moveT (.inl rfl) rfl) ?_
        simp only [Act.put, pA, pB, pC]
        refine wpB_take (i := 4) (by kernel_rfl) rfl (by kernel_rfl) (fun _ _ _ h => h) rfl (v_indexA0 rfl rfl rfl Try.underlying43 (by kernel_rfl) (by first | assumption | omega)) ?_
        simp only [Act.put, pA, pB, pC]
        refine wpB_take (i := 5) (by kernel_rfl) rfl (by kernel_rfl) (fun _ _ _ h => h) rfl (v_cell rfl rfl Try.underlying41 rfl (Env.cellv (i := 0) hE1 rfl (ints_get? _ _ _ (by first | assumption | omega | (simp; done) | (simp; omega))))) ?_
        simp only [Act.put, pA, pB, pC]
        rw [hgn.out]
        refine wpB_take (i := 6) (by kernel_rfl) rfl (by kernel_rfl) (fun _ _ _ h => h) rfl (v_neS rfl rfl rfl hd.out) ?_
        simp only [Act.put, pA, pB, pC]
        refine wpB_done (by kernel_rfl) ?_ _
        repeat ((fail_if_success with_reducible show wA ..); (fail_if_success with_reducible show wB ..); (fail_if_success (with_reducible show Code.wp _ (Code.cond _ _ _) _ _ _)); go_step)
        refine wp_cond_true (by first | rfl | exact congrArg Value.bool (decide_eq_true (by omega))) ?_
        skip
        repeat ((fail_if_success with_reducible show wA ..); (fail_if_success with_reducible show wB ..); go_step)
        refine wp_region_B (n := 8) 7 (by kernel_rfl) rfl hE1 ?_
        intro w2 hb2 hE2
        clear hE1
        refine wpB_take (i := 0) (by kernel_rfl) rfl (by kernel_rfl) (fun _ _ _ h => h) rfl (v_moveT (.inl rfl) rfl) ?_
        simp only [Act.put, pA, pB, pC]
        refine wpB_take (i := 1) (by kernel_rfl) rfl (by kernel_rfl) (fun _ _ _ h => h) rfl (v_indexA0 rfl rfl rfl Try.underlying43 (by kernel_rfl) (by first | assumption | omega)) ?_
        simp only [Act.put, pA, pB, pC]
        refine wpB_take (i := 2) (by kernel_rfl) rfl (by kernel_rfl) (fun _ _ _ h => h) rfl (v_cell rfl rfl Try.underlying41 rfl (Env.cellv (i := 1) hE2 rfl (ints_get? _ _ _ (by first | assumption | omega | (simp; done) | (simp; omega))))) ?_
        simp only [Act.put, pA, pB, pC]
        rw [hgm.out]
        refine wpB_take (i := 3) (by kernel_rfl) rfl (by kernel_rfl) (fun _ _ _ h => h) rfl (v_moveT (.inl rfl) rfl) ?_
        simp only [Act.put, pA, pB, pC]
        refine wpB_take (i := 4) (by kernel_rfl) rfl (by kernel_rfl) (fun _ _ _ h => h) rfl (v_indexA0 rfl rfl rfl Try.underlying43 (by kernel_rfl) (by first | assumption | omega)) ?_
        simp only [Act.put, pA, pB, pC]
        refine wpB_take (i := 5) (by kernel_rfl) rfl (by kernel_rfl) (fun _ _ _ h => h) rfl (v_cell rfl rfl Try.underlying41 rfl (Env.cellv (i := 0) hE2 rfl (ints_get? _ _ _ (by first | assumption | omega | (simp; done) | (simp; omega))))) ?_
        simp only [Act.put, pA, pB, pC]
        rw [hgn.out]
        refine wpB_take (i := 6) (by kernel_rfl) rfl (by kernel_rfl) (fun _ _ _ h => h) rfl (v_ltS rfl rfl rfl hte.out) ?_
        simp only [Act.put, pA, pB, pC]
        refine wpB_step (i := 7) (by kernel_rfl) rfl (st_val rfl (v_moveT (.inr rfl) rfl) ?_)
        refine ⟨fun _ => Below.refl _ _, ?_⟩
        simp only [Act.put, pA, pB, pC]
        refine wpB_done (by kernel_rfl) ?_ _
        repeat ((fail_if_success with_reducible show wA ..); (fail_if_success with_reducible show wB ..); go_step)
        go_returns
        exact ⟨rfl, hE2.below⟩
end Go.Proofs.Ytmebjoehmheknaa
namespace Go.Proofs.Ytmebjoehmheknaa
open Go.RowKit
set_option linter.unusedVariables false
set_option linter.unusedSimpArgs false

/-- Digits that are filled from the lowest one on. -/
structure Fill (i : Nat) (X : List Nat) : Prop where
  len : X.length = 8
  dg : Digs 4294967296 X
  zero : ∀ j, i ≤ j → X.getD j 0 = 0
theorem Fill.start : Fill 0 (List.replicate 8 0) := ⟨rfl, Digs.replicate (by decide) _, fun j _ => by rw [List.getD_eq_getElem?_getD, List.getElem?_replicate]; split <;> rfl⟩
theorem Fill.step {i d : Nat} {X : List Nat} (h : Fill i X) (hi : i < 8) (hd : d < 4294967296) : Fill (i + 1) (X.set i d) ∧ val 4294967296 (X.set i d) = val 4294967296 X + 4294967296 ^ i * d := by
  have hlt : i < X.length := by rw [h.len]; exact hi
  refine ⟨⟨by rw [List.length_set, h.len], h.dg.set _ hd, fun j hj => ?_⟩, ?_⟩
  · rw [List.getD_eq_getElem?_getD, List.getElem?_set_ne (by omega), ← List.getD_eq_getElem?_getD]
    exact h.zero j (by omega)
  · have hv := val_set (B := 4294967296) X i d hlt
    have hz := h.zero i (Nat.le_refl _)
    have e : X[i] = 0 := by rw [← hz]; simp [List.getD, hlt]
    rw [e, Nat.mul_zero, Nat.add_zero] at hv
    exact hv
theorem Fill.lt {X : List Nat} (h : Fill 8 X) : val 4294967296 X < big8 := by
  have := val_lt h.dg
  rw [h.len] at this
  rw [big8_eq]
  exact this
theorem Fill.eq {X : List Nat} (h : Fill 8 X) : X = digs 4294967296 8 (val 4294967296 X) := (digs_val' h.dg h.len).symm

theorem mod_digit (m i : Nat) : m % 4294967296 ^ (i + 1) = m % 4294967296 ^ i + 4294967296 ^ i * (m / 4294967296 ^ i % 4294967296) := by rw [Nat.pow_succ, Nat.mod_mul]

theorem minus_digit {a b u : Nat} (ha : a < 4294967296) (hb : b < 4294967296) (hu : u ≤ 1) :
    ((a + 18446744073709551616 - b) % 18446744073709551616 + 18446744073709551616 - u) % 18446744073709551616 % 4294967296 + b + u = a + 4294967296 * (((a + 18446744073709551616 - b) % 18446744073709551616 + 18446744073709551616 - u) % 18446744073709551616 / 9223372036854775808) ∧
    ((a + 18446744073709551616 - b) % 18446744073709551616 + 18446744073709551616 - u) % 18446744073709551616 / 9223372036854775808 ≤ 1 := by omega
theorem minus_step {V N M P d b a u u' : Nat} (h : V + N = M + P * u) (hd : d + b + u = a + 4294967296 * u') : V + P * d + (N + P * b) = M + P * a + P * 4294967296 * u' := by
  have e : P * (d + b + u) = P * (a + 4294967296 * u') := by rw [hd]
  simp only [Nat.mul_add] at e
  rw [← Nat.mul_assoc] at e
  omega
theorem minus_last {V m n u : Nat} (hV : V < big8) (hm : m < big8) (hn : n < big8) (hu : u ≤ 1) (h : V + n = m + big8 * u) : V = (m + big8 - n) % big8 ∧ decide (u = 1) = decide (m < n) := by
  rcases (show u = 0 ∨ u = 1 by omega) with rfl | rfl
  · rw [Nat.mul_zero, Nat.add_zero] at h
    refine ⟨?_, ?_⟩
    · have e : m + big8 - n = V + big8 := by omega
      rw [e, Nat.add_mod_right, Nat.mod_eq_of_lt hV]
    · rw [decide_eq_false (by omega : ¬ m < n)]
      rfl
  · rw [Nat.mul_one] at h
    refine ⟨?_, ?_⟩
    · have e : m + big8 - n = V := by omega
      rw [e, Nat.mod_eq_of_lt hV]
    · rw [decide_eq_true (by omega : m < n)]
      rfl

set_option maxHeartbeats 4000000 in
theorem minus_any {m n : Nat} (hm : m < big8) (hn : n < big8) (w : World) : Gives 74 #[nm m, nm n] w (.tuple #[nm ((m + big8 - n) % big8), .bool (decide (m < n))]) := by
  have hm8 := nm_len m
  have hn8 := nm_len n
  have Hgm := Lib.hid (nm_get m)
  have Hgn := Lib.hid (nm_get n)
  have Hm := Lib.hid hm
  have Hn := Lib.hid hn
  clear hm hn
  have hE0 := Env.nil w
  go_enter Try.func74, Try.ntmps74
  repeat ((fail_if_success with_reducible show wA ..); (fail_if_success with_reducible show wB ..); go_step)
  refine wl_step (st_boxA hE0 rfl rfl rfl ?_)
  intro g0 w1 hb1 hE1
  clear hE0
  simp only [Act.put, pA, pB, pC]
  refine wl_step (st_boxA hE1 rfl rfl rfl ?_)
  intro g1 w2 hb2 hE2
  clear hE1
  simp only [Act.put, pA, pB, pC]
  refine wl_step (st_alloc (zs := ints .u32 (List.replicate 8 0)) hE2 rfl rfl (fun w => by kernel_rfl) ?_)
  intro g2 w3 hb3 hE3
  clear hE2
  simp only [Act.put, pA, pB, pC]
  refine wv (v_moveC (.inr rfl)) ?_
  simp only [Act.put, pA, pB, pC]
  repeat ((fail_if_success with_reducible show wA ..); (fail_if_success with_reducible show wB ..); go_step)
  refine wl_step (st_alloc (zs := ints .u32 (List.replicate 8 0)) hE3 rfl rfl (fun w => by kernel_rfl) ?_)
  intro g3 w4 hb4 hE4
  clear hE3
  simp only [Act.put, pA, pB, pC]
  repeat ((fail_if_success with_reducible show wA ..); (fail_if_success with_reducible show wB ..); go_step)
  refine wv (v_moveC (.inr rfl)) ?_
  simp only [Act.put, pA, pB, pC]
  repeat ((fail_if_success with_reducible show wA ..); (fail_if_success with_reducible show wB ..); go_step)
  refine wv (v_moveC (.inr rfl)) ?_
  simp only [Act.put, pA, pB, pC]
  go_wp2
  go_loopw [7, 8] (fun uv i wr => ∃ (K u : Nat) (X : List Nat), K ≤ 8 ∧ i = .int .i64 K ∧ uv = .int .u64 u ∧ u ≤ 1 ∧ Fill K X ∧ Hid (val 4294967296 X + n % 4294967296 ^ K = m % 4294967296 ^ K + 4294967296 ^ K * u) ∧ Env w [⟨g3, 43, ints .u32 X⟩, ⟨g2, 43, ints .u32 (List.replicate 8 0)⟩, ⟨g1, 43, ints .u32 (digs 4294967296 8 n)⟩, ⟨g0, 43, ints .u32 (digs 4294967296 8 m)⟩] wr) (fun _ i _ => 8 - (intOf i).toNat)
  case atStart => exact ⟨0, 0, _, Nat.zero_le _, rfl, rfl, by decide, Fill.start, Lib.hid (by rw [val_replicate, Nat.pow_zero, Nat.mod_one, Nat.mod_one]), hE4⟩
  case round =>
    clear hE4
    obtain ⟨K, u, X, hK, rfl, rfl, hu, hF, hsum, hE0⟩ := hrel
    have hX8 := hF.len
    by_cases hK8 : K < 8
    · have hgm := Lib.hid (Hgm.out K hK8)
      have hgn := Lib.hid (Hgn.out K hK8)
      have ha : m / 4294967296 ^ K % 4294967296 < 4294967296 := Nat.mod_lt _ (by decide)
      have hb : n / 4294967296 ^ K % 4294967296 < 4294967296 := Nat.mod_lt _ (by decide)
      have hdg := minus_digit ha hb hu
      have hm1 := mod_digit m K
      have hn1 := mod_digit n K
      obtain ⟨a, hae⟩ : ∃ a, a = m / 4294967296 ^ K % 4294967296 := ⟨_, rfl⟩
      obtain ⟨b, hbe⟩ : ∃ b, b = n / 4294967296 ^ K % 4294967296 := ⟨_, rfl⟩
      rw [← hae] at hgm ha hdg hm1
      rw [← hbe] at hgn hb hdg hn1
      clear hae hbe
      obtain ⟨d, hde⟩ : ∃ d, d = ((a + 18446744073709551616 - b) % 18446744073709551616 + 18446744073709551616 - u) % 18446744073709551616 := ⟨_, rfl⟩
      rw [← hde] at hdg
      have hd64 : d < 18446744073709551616 := by rw [hde]; exact Nat.mod_lt _ (by decide)
      have hst := hF.step hK8 (show d % 4294967296 < 4294967296 from Nat.mod_lt _ (by decide))
      have hnew : Hid (val 4294967296 (X.set K (d % 4294967296)) + n % 4294967296 ^ (K + 1) = m % 4294967296 ^ (K + 1) + 4294967296 ^ (K + 1) * (d / 9223372036854775808)) := Lib.hid (by
        rw [hst.2, hm1, hn1, Nat.pow_succ]
        exact minus_step hsum.out hdg.1)
      have hF1 := Lib.hid hst.1
      have hu1 := hdg.2
      have Hde := Lib.hid hde
      clear hdg hm1 hn1 hde hst hsum hF
      repeat ((fail_if_success with_reducible show wA ..); (fail_if_success with_reducible show wB ..); go_step)
      refine wv (v_moveT (.inl rfl) rfl) ?_
      simp only [Act.put, pA, pB, pC]
      refine wv (v_lss (n := 8) rfl rfl rfl) ?_
      simp only [Act.put, pA, pB, pC]
      repeat ((fail_if_success with_reducible show wA ..); (fail_if_success with_reducible show wB ..); go_step)
      refine wp_region_B (n := 12) 11 (by kernel_rfl) rfl hE0 ?_
      intro w1 hb1 hE1
      clear hE0
      refine wpB_take (i := 0) (by kernel_rfl) rfl (by kernel_rfl) (fun _ _ _ h => h) rfl (v_moveT (.inl rfl) rfl) ?_
      simp only [Act.put, pA, pB, pC]
      refine wpB_take (i := 1) (by kernel_rfl) rfl (by kernel_rfl) (fun _ _ _ h => h) rfl (v_indexA0 rfl rfl rfl Try.underlying43 (by kernel_rfl) (by first | assumption | omega)) ?_
      simp only [Act.put, pA, pB, pC]
      refine wpB_take (i := 2) (by kernel_rfl) rfl (by kernel_rfl) (fun _ _ _ h => h) rfl (v_cell rfl rfl Try.underlying41 rfl (Env.cellv (i := 3) hE1 rfl (ints_get? _ _ _ (by first | assumption | omega | (simp; done) | (simp; omega))))) ?_
      simp only [Act.put, pA, pB, pC]
      rw [hgm.out]
      refine wpB_take (i := 3) (by kernel_rfl) rfl (by kernel_rfl) (fun _ _ _ h => h) rfl (v_convInt rfl rfl Try.underlying41 Try.underlying23 (by first | exact w_u64 (by omega) | exact w_u64m _)) ?_
      simp only [Act.put, pA, pB, pC]
      refine wpB_take (i := 4) (by kernel_rfl) rfl (by kernel_rfl) (fun _ _ _ h => h) rfl (v_moveT (.inl rfl) rfl) ?_
      simp only [Act.put, pA, pB, pC]
      refine wpB_take (i := 5) (by kernel_rfl) rfl (by kernel_rfl) (fun _ _ _ h => h) rfl (v_indexA0 rfl rfl rfl Try.underlying43 (by kernel_rfl) (by first | assumption | omega)) ?_
      simp only [Act.put, pA, pB, pC]
      refine wpB_take (i := 6) (by kernel_rfl) rfl (by kernel_rfl) (fun _ _ _ h => h) rfl (v_cell rfl rfl Try.underlying41 rfl (Env.cellv (i := 2) hE1 rfl (ints_get? _ _ _ (by first | assumption | omega | (simp; done) | (simp; omega))))) ?_
      simp only [Act.put, pA, pB, pC]
      rw [hgn.out]
      refine wpB_take (i := 7) (by kernel_rfl) rfl (by kernel_rfl) (fun _ _ _ h => h) rfl (v_convInt rfl rfl Try.underlying41 Try.underlying23 (by first | exact w_u64 (by omega) | exact w_u64m _)) ?_
      simp only [Act.put, pA, pB, pC]
      refine wpB_take (i := 8) (by kernel_rfl) rfl (by kernel_rfl) (fun _ _ _ h => h) rfl (v_sub rfl rfl rfl (w_u64d _ _ (by omega))) ?_
      simp only [Act.put, pA, pB, pC]
      refine wpB_take (i := 9) (by kernel_rfl) rfl (by kernel_rfl) (fun _ _ _ h => h) rfl (v_moveT (.inl rfl) rfl) ?_
      simp only [Act.put, pA, pB, pC]
      refine wpB_take (i := 10) (by kernel_rfl) rfl (by kernel_rfl) (fun _ _ _ h => h) rfl (v_sub rfl rfl rfl (w_u64d _ _ (by omega))) ?_
      simp only [Act.put, pA, pB, pC]
      rw [← Hde.out]
      refine wpB_step (i := 11) (by kernel_rfl) rfl (st_val rfl (v_moveT (.inr rfl) rfl) ?_)
      refine ⟨fun _ => Below.refl _ _, ?_⟩
      simp only [Act.put, pA, pB, pC]
      refine wpB_done (by kernel_rfl) ?_ _
      repeat ((fail_if_success with_reducible show wA ..); (fail_if_success with_reducible show wB ..); go_step)
      refine wv (v_moveT (.inl rfl) rfl) ?_
      simp only [Act.put, pA, pB, pC]
      refine wv (v_moveT (.inl rfl) rfl) ?_
      simp only [Act.put, pA, pB, pC]
      refine wv (v_convInt rfl rfl Try.underlying23 Try.underlying41 (w_u32m _)) ?_
      simp only [Act.put, pA, pB, pC]
      refine wv (v_indexA0 rfl rfl rfl Try.underlying43 (by kernel_rfl) (by first | assumption | omega)) ?_
      simp only [Act.put, pA, pB, pC]
      refine wl_step (st_putN (i := 0) hE1 rfl rfl rfl rfl rfl (by kernel_rfl) (by first | assumption | omega | (simp only [List.length_set, List.length_replicate]; first | assumption | omega)) ?_)
      intro w2 hE2
      clear hE1
      simp only [pB, pC] at hE2
      simp only [Act.put, pA, pB, pC]
      repeat ((fail_if_success with_reducible show wA ..); (fail_if_success with_reducible show wB ..); go_step)
      refine wv (v_moveT (.inl rfl) rfl) ?_
      simp only [Act.put, pA, pB, pC]
      refine wv (v_shrC (s := 63) (d := 9223372036854775808) rfl rfl rfl (by decide) (by decide)) ?_
      simp only [Act.put, pA, pB, pC]
      refine wv (v_moveT (.inr rfl) rfl) ?_
      simp only [Act.put, pA, pB, pC]
      repeat ((fail_if_success with_reducible show wA ..); (fail_if_success with_reducible show wB ..); go_step)
      refine wv (v_moveT (.inl rfl) rfl) ?_
      simp only [Act.put, pA, pB, pC]
      refine wv (v_add (n := 1) rfl rfl rfl (w_i64 (by omega))) ?_
      simp only [Act.put, pA, pB, pC]
      refine wv (v_moveT (.inr rfl) rfl) ?_
      simp only [Act.put, pA, pB, pC]
      go_wp2
      go_roundw
      case rel => exact ⟨K + 1, _, _, by omega, rfl, rfl, hu1, hF1.out, hnew, hE2⟩
      case measure => simp [intOf]; omega
    · have hK' : K = 8 := by omega
      subst hK'
      have hs := hsum.out
      rw [← big8_eq, Nat.mod_eq_of_lt Hm.out, Nat.mod_eq_of_lt Hn.out] at hs
      have hl := minus_last hF.lt Hm.out Hn.out hu hs
      have hXe := hF.eq
      rw [hl.1] at hXe
      rw [hXe] at hE0
      have Hl2 := Lib.hid hl.2
      have hl8 := nm_len ((m + big8 - n) % big8)
      clear hs hl hXe hsum hF
      repeat ((fail_if_success with_reducible show wA ..); (fail_if_success with_reducible show wB ..); go_step)
      refine wv (v_moveT (.inl rfl) rfl) ?_
      simp only [Act.put, pA, pB, pC]
      refine wv (v_lss (n := 8) rfl rfl rfl) ?_
      simp only [Act.put, pA, pB, pC]
      repeat ((fail_if_success with_reducible show wA ..); (fail_if_success with_reducible show wB ..); go_step)
      refine wv (v_load (i := 0) hE0 rfl rfl rfl Try.underlying43 rfl (szA (n := 8))) ?_
      simp only [Act.put, pA, pB, pC]
      refine wv (v_moveT (.inl rfl) rfl) ?_
      simp only [Act.put, pA, pB, pC]
      refine wv (v_eql (n := 1) rfl rfl rfl) ?_
      simp only [Act.put, pA, pB, pC]
      rw [Hl2.out]
      refine wl_step (st_store (i := 1) hE0 rfl rfl rfl rfl rfl (szA (n := 8)) (by first | (simp only [ints_size, digs_length, List.length_replicate, List.length_cons, List.length_nil]; done) | (simp only [ints_size, digs_length, List.length_replicate, List.length_cons, List.length_nil, List.length_set, List.length_append]; omega) | rfl) (by first | exact ints_one _ _ | decide | simp [*]) ?_)
      intro w1 hE1
      clear hE0
      simp only [pB, pC] at hE1
      simp only [Act.put, pA, pB, pC]
      refine wv (v_moveT (.inr rfl) rfl) ?_
      simp only [Act.put, pA, pB, pC]
      repeat ((fail_if_success with_reducible show wA ..); (fail_if_success with_reducible show wB ..); go_step)
      refine bodyPost_ret (results_ct rfl _ _ _ _ _ (0, 0) _ rfl (hE1.get (i := 1) rfl) Try.underlying43 rfl (szA (n := 8)) rfl) rfl ⟨rfl, hE1.below⟩

theorem down_step {n : Nat} (hn : n < big8) (h : ¬ n < pN) : (n + big8 - pN) % big8 = n - pN ∧ n - pN < n := by
  have hp : pN < big8 := by decide
  have h0 : 0 < pN := by decide
  have e : n + big8 - pN = (n - pN) + big8 := by omega
  rw [e, Nat.add_mod_right, Nat.mod_eq_of_lt (by omega)]
  exact ⟨rfl, by omega⟩

set_option maxHeartbeats 2000000 in
theorem down_any {n : Nat} (hn : n < big8) (w : World) : Gives 71 #[nm n] w (nm (n % pN)) := by
  have hn8 := nm_len n
  have Hn := Lib.hid hn
  clear hn
  have hE0 := Env.nil w
  go_enter Try.func71, Try.ntmps71
  repeat ((fail_if_success with_reducible show wA ..); (fail_if_success with_reducible show wB ..); go_step)
  refine wl_step (st_boxA hE0 rfl rfl rfl ?_)
  intro g0 w1 hb1 hE1
  clear hE0
  simp only [Act.put, pA, pB, pC]
  refine wl_step (st_alloc (zs := ints .u32 (List.replicate 8 0)) hE1 rfl rfl (fun w => by kernel_rfl) ?_)
  intro g1 w2 hb2 hE2
  clear hE1
  simp only [Act.put, pA, pB, pC]
  go_wp2
  go_loopg [] (n) (fun V wr => V < big8 ∧ Hid (V % pN = n % pN) ∧ Env w [⟨g1, 43, ints .u32 (List.replicate 8 0)⟩, ⟨g0, 43, ints .u32 (digs 4294967296 8 V)⟩] wr)
  case atStart => exact ⟨Hn.out, Lib.hid rfl, hE2⟩
  case round =>
    clear hE2
    obtain ⟨hV, hmod, hE0⟩ := hrel
    have hg8 := nm_len gk
    have HL := Lib.hid (fun w => Less_any (m := gk) (n := pN) hV (by decide) w)
    have HM := Lib.hid (fun w => minus_any (m := gk) (n := pN) hV (by decide) w)
    by_cases hlt : gk < pN
    · have hfin : gk = n % pN := by rw [← hmod.out, Nat.mod_eq_of_lt hlt]
      rw [decide_eq_true hlt] at HL
      clear hV hlt hmod HM
      subst hfin
      repeat ((fail_if_success with_reducible show wA ..); (fail_if_success with_reducible show wB ..); go_step)
      refine wp_region_B (n := 4) 4 (by kernel_rfl) rfl hE0 ?_
      intro w1 hb1 hE1
      clear hE0
      refine wpB_take (i := 0) (by kernel_rfl) rfl (by kernel_rfl) (fun _ _ _ h => h) rfl (v_load (i := 1) hE1 rfl rfl rfl Try.underlying43 rfl (szA (n := 8))) ?_
      simp only [Act.put, pA, pB, pC]
      refine wpB_step (i := 1) (by kernel_rfl) rfl (st_gives hE1 rfl (run_call rfl Try.call50) (P_any _) ?_)
      intro w2 hb2 hE2
      clear hE1
      refine ⟨fun _ => hb2, ?_⟩
      simp only [Act.put, pA, pB, pC]
      refine wpB_step (i := 2) (by kernel_rfl) rfl (st_gives hE2 rfl (run_call rfl Try.call48) (HL.out _) ?_)
      intro w3 hb3 hE3
      clear hE2
      refine ⟨fun _ => hb3, ?_⟩
      simp only [Act.put, pA, pB, pC]
      refine wpB_take (i := 3) (by kernel_rfl) rfl (by kernel_rfl) (fun _ _ _ h => h) rfl (v_not rfl rfl) ?_
      simp only [Act.put, pA, pB, pC]
      refine wpB_done (by kernel_rfl) ?_ _
      repeat ((fail_if_success with_reducible show wA ..); (fail_if_success with_reducible show wB ..); (fail_if_success (with_reducible show Code.wp _ (Code.cond _ _ _) _ _ _)); go_step)
      refine wp_cond_false (by first | rfl | exact congrArg Value.bool (decide_eq_false (by omega))) ?_
      skip
      repeat ((fail_if_success with_reducible show wA ..); (fail_if_success with_reducible show wB ..); go_step)
      refine wv (v_load (i := 1) hE3 rfl rfl rfl Try.underlying43 rfl (szA (n := 8))) ?_
      simp only [Act.put, pA, pB, pC]
      refine wl_step (st_store (i := 0) hE3 rfl rfl rfl rfl rfl (szA (n := 8)) (by first | (simp only [ints_size, digs_length, List.length_replicate, List.length_cons, List.length_nil]; done) | (simp only [ints_size, digs_length, List.length_replicate, List.length_cons, List.length_nil, List.length_set, List.length_append]; omega) | rfl) (by first | exact ints_one _ _ | decide | simp [*]) ?_)
      intro w4 hE4
      clear hE3
      simp only [pB, pC] at hE4
      simp only [Act.put, pA, pB, pC]
      repeat ((fail_if_success with_reducible show wA ..); (fail_if_success with_reducible show wB ..); go_step)
      refine bodyPost_ret (results_cell_row rfl _ _ _ _ _ (0, 0) _ rfl (hE4.get (i := 0) rfl) Try.underlying43 rfl (szA (n := 8))) rfl ⟨rfl, hE4.below⟩
    · have hd := down_step hV hlt
      rw [decide_eq_false hlt] at HL
      rw [decide_eq_false hlt, hd.1] at HM
      have hnew : Hid ((gk - pN) % pN = n % pN) := Lib.hid (by rw [← hmod.out, Nat.mod_eq_sub_mod (Nat.le_of_not_lt hlt)])
      have hlt2 := hd.2
      have hV2 : gk - pN < big8 := by omega
      have hg9 := nm_len (gk - pN)
      clear hd hmod hlt hV
      repeat ((fail_if_success with_reducible show wA ..); (fail_if_success with_reducible show wB ..); go_step)
      refine wp_region_B (n := 4) 4 (by kernel_rfl) rfl hE0 ?_
      intro w1 hb1 hE1
      clear hE0
      refine wpB_take (i := 0) (by kernel_rfl) rfl (by kernel_rfl) (fun _ _ _ h => h) rfl (v_load (i := 1) hE1 rfl rfl rfl Try.underlying43 rfl (szA (n := 8))) ?_
      simp only [Act.put, pA, pB, pC]
      refine wpB_step (i := 1) (by kernel_rfl) rfl (st_gives hE1 rfl (run_call rfl Try.call50) (P_any _) ?_)
      intro w2 hb2 hE2
      clear hE1
      refine ⟨fun _ => hb2, ?_⟩
      simp only [Act.put, pA, pB, pC]
      refine wpB_step (i := 2) (by kernel_rfl) rfl (st_gives hE2 rfl (run_call rfl Try.call48) (HL.out _) ?_)
      intro w3 hb3 hE3
      clear hE2
      refine ⟨fun _ => hb3, ?_⟩
      simp only [Act.put, pA, pB, pC]
      refine wpB_take (i := 3) (by kernel_rfl) rfl (by kernel_rfl) (fun _ _ _ h => h) rfl (v_not rfl rfl) ?_
      simp only [Act.put, pA, pB, pC]
      refine wpB_done (by kernel_rfl) ?_ _
      repeat ((fail_if_success with_reducible show wA ..); (fail_if_success with_reducible show wB ..); (fail_if_success (with_reducible show Code.wp _ (Code.cond _ _ _) _ _ _)); go_step)
      refine wp_cond_true (by first | rfl | exact congrArg Value.bool (decide_eq_true (by omega))) ?_
      skip
      repeat ((fail_if_success with_reducible show wA ..); (fail_if_success with_reducible show wB ..); go_step)
      refine wp_region_env 6 (by kernel_rfl) (by kernel_rfl) (fun _ _ d _ _ h => by cases d <;> exact h) hE3 ?_
      refine hv (fun _ hW => (v_load (i := 1) hW rfl rfl rfl Try.underlying43 rfl (szA (n := 8)))) ?_
      simp only [Act.put, pA, pB, pC]
      refine headRun_call (fun w1 => run_call rfl Try.call50) (fun w1 hW => P_any _) ?_
      simp only [Act.put, pA, pB, pC]
      refine headRun_call (fun w1 => run_call rfl Try.call74) (fun w1 hW => HM.out _) ?_
      simp only [Act.put, pA, pB, pC]
      refine hv (fun _ hW => (v_moveT (.inl rfl) rfl)) ?_
      simp only [Act.put, pA, pB, pC]
      refine hv (fun _ hW => (v_extract rfl rfl rfl)) ?_
      simp only [Act.put, pA, pB, pC]
      refine hv (fun _ hW => (v_extract rfl rfl rfl)) ?_
      simp only [Act.put, pA, pB, pC]
      refine headRun_nil (endK0 ?_)
      intro  w4 hE4
      clear hE3
      simp only [List.drop_succ_cons, List.drop_zero, Act.put, pA, pB, pC]
      refine wl_step (st_store (i := 1) hE4 rfl rfl rfl rfl rfl (szA (n := 8)) (by first | (simp only [ints_size, digs_length, List.length_replicate, List.length_cons, List.length_nil]; done) | (simp only [ints_size, digs_length, List.length_replicate, List.length_cons, List.length_nil, List.length_set, List.length_append]; omega) | rfl) (by first | exact ints_one _ _ | decide | simp [*]) ?_)
      intro w5 hE5
      clear hE4
      simp only [pB, pC] at hE5
      simp only [Act.put, pA, pB, pC]
      go_wp2
      go_roundg (gk - pN)
      case measure => exact hlt2
      case rel => exact ⟨hV2, hnew, hE5⟩
end Go.Proofs.Ytmebjoehmheknaa
namespace Go.Proofs.Ytmebjoehmheknaa
open Go.RowKit
set_option linter.unusedVariables false
set_option linter.unusedSimpArgs false

theorem add_digit {a b u : Nat} (ha : a < 4294967296) (hb : b < 4294967296) (hu : u ≤ 1) : (a + b + u) % 4294967296 + 4294967296 * ((a + b + u) / 4294967296) = a + b + u ∧ (a + b + u) / 4294967296 ≤ 1 := by omega
theorem add_step {V N M P d b a u u' s : Nat} (h : V + P * u = M + N) (hd : d + 4294967296 * u' = s) (hs : s = a + b + u) : V + P * d + P * 4294967296 * u' = M + P * a + (N + P * b) := by
  have e : P * (d + 4294967296 * u') = P * (a + b + u) := by rw [hd, hs]
  simp only [Nat.mul_add] at e
  rw [← Nat.mul_assoc] at e
  omega

set_option maxHeartbeats 4000000 in
theorem rAdd_any {m n : Nat} (hm : m < big8) (hn : n < big8) (hmn : m + n < big8) (w : World) : Gives 57 #[nm m, nm n] w (nm ((m + n) % pN)) := by
  have hm8 := nm_len m
  have hn8 := nm_len n
  have Hgm := Lib.hid (nm_get m)
  have Hgn := Lib.hid (nm_get n)
  have Hm := Lib.hid hm
  have Hn := Lib.hid hn
  have Hmn := Lib.hid hmn
  clear hm hn hmn
  have hE0 := Env.nil w
  go_enter Try.func57, Try.ntmps57
  repeat ((fail_if_success with_reducible show wA ..); (fail_if_success with_reducible show wB ..); go_step)
  refine wl_step (st_boxA hE0 rfl rfl rfl ?_)
  intro g0 w1 hb1 hE1
  clear hE0
  simp only [Act.put, pA, pB, pC]
  refine wl_step (st_boxA hE1 rfl rfl rfl ?_)
  intro g1 w2 hb2 hE2
  clear hE1
  simp only [Act.put, pA, pB, pC]
  refine wl_step (st_alloc (zs := ints .u32 (List.replicate 8 0)) hE2 rfl rfl (fun w => by kernel_rfl) ?_)
  intro g2 w3 hb3 hE3
  clear hE2
  simp only [Act.put, pA, pB, pC]
  repeat ((fail_if_success with_reducible show wA ..); (fail_if_success with_reducible show wB ..); go_step)
  refine wl_step (st_alloc (zs := ints .u32 (List.replicate 8 0)) hE3 rfl rfl (fun w => by kernel_rfl) ?_)
  intro g3 w4 hb4 hE4
  clear hE3
  simp only [Act.put, pA, pB, pC]
  repeat ((fail_if_success with_reducible show wA ..); (fail_if_success with_reducible show wB ..); go_step)
  refine wv (v_moveC (.inr rfl)) ?_
  simp only [Act.put, pA, pB, pC]
  repeat ((fail_if_success with_reducible show wA ..); (fail_if_success with_reducible show wB ..); go_step)
  refine wv (v_moveC (.inr rfl)) ?_
  simp only [Act.put, pA, pB, pC]
  go_wp2
  go_loopw [6, 7] (fun uv i wr => ∃ (K u : Nat) (X : List Nat), K ≤ 8 ∧ i = .int .i64 K ∧ uv = .int .u64 u ∧ u ≤ 1 ∧ Fill K X ∧ Hid (val 4294967296 X + 4294967296 ^ K * u = m % 4294967296 ^ K + n % 4294967296 ^ K) ∧ Env w [⟨g3, 43, ints .u32 X⟩, ⟨g2, 43, ints .u32 (List.replicate 8 0)⟩, ⟨g1, 43, ints .u32 (digs 4294967296 8 n)⟩, ⟨g0, 43, ints .u32 (digs 4294967296 8 m)⟩] wr) (fun _ i _ => 8 - (intOf i).toNat)
  case atStart => exact ⟨0, 0, _, Nat.zero_le _, rfl, rfl, by decide, Fill.start, Lib.hid (by rw [val_replicate, Nat.pow_zero, Nat.mod_one, Nat.mod_one]), hE4⟩
  case round =>
    clear hE4
    obtain ⟨K, u, X, hK, rfl, rfl, hu, hF, hsum, hE0⟩ := hrel
    have hX8 := hF.len
    by_cases hK8 : K < 8
    · have hgm := Lib.hid (Hgm.out K hK8)
      have hgn := Lib.hid (Hgn.out K hK8)
      have ha : m / 4294967296 ^ K % 4294967296 < 4294967296 := Nat.mod_lt _ (by decide)
      have hb : n / 4294967296 ^ K % 4294967296 < 4294967296 := Nat.mod_lt _ (by decide)
      have hdg := add_digit ha hb hu
      have hm1 := mod_digit m K
      have hn1 := mod_digit n K
      obtain ⟨a, hae⟩ : ∃ a, a = m / 4294967296 ^ K % 4294967296 := ⟨_, rfl⟩
      obtain ⟨b, hbe⟩ : ∃ b, b = n / 4294967296 ^ K % 4294967296 := ⟨_, rfl⟩
      rw [← hae] at hgm ha hdg hm1
      rw [← hbe] at hgn hb hdg hn1
      clear hae hbe
      have hst := hF.step hK8 (show (a + b + u) % 4294967296 < 4294967296 from Nat.mod_lt _ (by decide))
      have hnew : Hid (val 4294967296 (X.set K ((a + b + u) % 4294967296)) + 4294967296 ^ (K + 1) * ((a + b + u) / 4294967296) = m % 4294967296 ^ (K + 1) + n % 4294967296 ^ (K + 1)) := Lib.hid (by
        rw [hst.2, hm1, hn1, Nat.pow_succ]
        exact add_step hsum.out hdg.1 rfl)
      have hF1 := Lib.hid hst.1
      have hu1 := hdg.2
      clear hdg hm1 hn1 hst hsum hF
      repeat ((fail_if_success with_reducible show wA ..); (fail_if_success with_reducible show wB ..); go_step)
      refine wv (v_moveT (.inl rfl) rfl) ?_
      simp only [Act.put, pA, pB, pC]
      refine wv (v_lss (n := 8) rfl rfl rfl) ?_
      simp only [Act.put, pA, pB, pC]
      repeat ((fail_if_success with_reducible show wA ..); (fail_if_success with_reducible show wB ..); go_step)
      refine wp_region_B (n := 12) 11 (by kernel_rfl) rfl hE0 ?_
      intro w1 hb1 hE1
      clear hE0
      refine wpB_take (i := 0) (by kernel_rfl) rfl (by kernel_rfl) (fun _ _ _ h => h) rfl (v_moveT (.inl rfl) rfl) ?_
      simp only [Act.put, pA, pB, pC]
      refine wpB_take (i := 1) (by kernel_rfl) rfl (by kernel_rfl) (fun _ _ _ h => h) rfl (v_indexA0 rfl rfl rfl Try.underlying43 (by kernel_rfl) (by first | assumption | omega)) ?_
      simp only [Act.put, pA, pB, pC]
      refine wpB_take (i := 2) (by kernel_rfl) rfl (by kernel_rfl) (fun _ _ _ h => h) rfl (v_cell rfl rfl Try.underlying41 rfl (Env.cellv (i := 3) hE1 rfl (ints_get? _ _ _ (by first | assumption | omega | (simp; done) | (simp; omega))))) ?_
      simp only [Act.put, pA, pB, pC]
      rw [hgm.out]
      refine wpB_take (i := 3) (by kernel_rfl) rfl (by kernel_rfl) (fun _ _ _ h => h) rfl (v_convInt rfl rfl Try.underlying41 Try.underlying23 (by first | exact w_u64 (by omega) | exact w_u64m _)) ?_
      simp only [Act.put, pA, pB, pC]
      refine wpB_take (i := 4) (by kernel_rfl) rfl (by kernel_rfl) (fun _ _ _ h => h) rfl (v_moveT (.inl rfl) rfl) ?_
      simp only [Act.put, pA, pB, pC]
      refine wpB_take (i := 5) (by kernel_rfl) rfl (by kernel_rfl) (fun _ _ _ h => h) rfl (v_indexA0 rfl rfl rfl Try.underlying43 (by kernel_rfl) (by first | assumption | omega)) ?_
      simp only [Act.put, pA, pB, pC]
      refine wpB_take (i := 6) (by kernel_rfl) rfl (by kernel_rfl) (fun _ _ _ h => h) rfl (v_cell rfl rfl Try.underlying41 rfl (Env.cellv (i := 2) hE1 rfl (ints_get? _ _ _ (by first | assumption | omega | (simp; done) | (simp; omega))))) ?_
      simp only [Act.put, pA, pB, pC]
      rw [hgn.out]
      refine wpB_take (i := 7) (by kernel_rfl) rfl (by kernel_rfl) (fun _ _ _ h => h) rfl (v_convInt rfl rfl Try.underlying41 Try.underlying23 (by first | exact w_u64 (by omega) | exact w_u64m _)) ?_
      simp only [Act.put, pA, pB, pC]
      refine wpB_take (i := 8) (by kernel_rfl) rfl (by kernel_rfl) (fun _ _ _ h => h) rfl (v_add rfl rfl rfl (by first | exact w_u64 (by omega) | exact w_u64m _)) ?_
      simp only [Act.put, pA, pB, pC]
      refine wpB_take (i := 9) (by kernel_rfl) rfl (by kernel_rfl) (fun _ _ _ h => h) rfl (v_moveT (.inl rfl) rfl) ?_
      simp only [Act.put, pA, pB, pC]
      refine wpB_take (i := 10) (by kernel_rfl) rfl (by kernel_rfl) (fun _ _ _ h => h) rfl (v_add rfl rfl rfl (by first | exact w_u64 (by omega) | exact w_u64m _)) ?_
      simp only [Act.put, pA, pB, pC]
      refine wpB_step (i := 11) (by kernel_rfl) rfl (st_val rfl (v_moveT (.inr rfl) rfl) ?_)
      refine ⟨fun _ => Below.refl _ _, ?_⟩
      simp only [Act.put, pA, pB, pC]
      refine wpB_done (by kernel_rfl) ?_ _
      repeat ((fail_if_success with_reducible show wA ..); (fail_if_success with_reducible show wB ..); go_step)
      refine wv (v_moveT (.inl rfl) rfl) ?_
      simp only [Act.put, pA, pB, pC]
      refine wv (v_moveT (.inl rfl) rfl) ?_
      simp only [Act.put, pA, pB, pC]
      refine wv (v_convInt rfl rfl Try.underlying23 Try.underlying41 (w_u32m _)) ?_
      simp only [Act.put, pA, pB, pC]
      refine wv (v_indexA0 rfl rfl rfl Try.underlying43 (by kernel_rfl) (by first | assumption | omega)) ?_
      simp only [Act.put, pA, pB, pC]
      refine wl_step (st_putN (i := 0) hE1 rfl rfl rfl rfl rfl (by kernel_rfl) (by first | assumption | omega | (simp only [List.length_set, List.length_replicate]; first | assumption | omega)) ?_)
      intro w2 hE2
      clear hE1
      simp only [pB, pC] at hE2
      simp only [Act.put, pA, pB, pC]
      repeat ((fail_if_success with_reducible show wA ..); (fail_if_success with_reducible show wB ..); go_step)
      refine wv (v_moveT (.inl rfl) rfl) ?_
      simp only [Act.put, pA, pB, pC]
      refine wv (v_shrC (s := 32) (d := 4294967296) rfl rfl rfl (by decide) (by decide)) ?_
      simp only [Act.put, pA, pB, pC]
      refine wv (v_moveT (.inr rfl) rfl) ?_
      simp only [Act.put, pA, pB, pC]
      repeat ((fail_if_success with_reducible show wA ..); (fail_if_success with_reducible show wB ..); go_step)
      refine wv (v_moveT (.inl rfl) rfl) ?_
      simp only [Act.put, pA, pB, pC]
      refine wv (v_add (n := 1) rfl rfl rfl (w_i64 (by omega))) ?_
      simp only [Act.put, pA, pB, pC]
      refine wv (v_moveT (.inr rfl) rfl) ?_
      simp only [Act.put, pA, pB, pC]
      go_wp2
      go_roundw
      case rel => exact ⟨K + 1, _, _, by omega, rfl, rfl, hu1, hF1.out, hnew, hE2⟩
      case measure => simp [intOf]; omega
    · have hK' : K = 8 := by omega
      subst hK'
      have hs := hsum.out
      rw [← big8_eq, Nat.mod_eq_of_lt Hm.out, Nat.mod_eq_of_lt Hn.out] at hs
      have hu0 : u = 0 := by
        have := Hmn.out
        rcases (show u = 0 ∨ u = 1 by omega) with h | h
        · exact h
        · rw [h] at hs; omega
      subst hu0
      have hs1 : val 4294967296 X = m + n := by omega
      have hXe := hF.eq
      rw [hs1] at hXe
      rw [hXe] at hE0
      have HD := Lib.hid (fun w => down_any Hmn.out w)
      have hl8 := nm_len (m + n)
      have hl9 := nm_len ((m + n) % pN)
      clear hs hs1 hXe hsum hF
      repeat ((fail_if_success with_reducible show wA ..); (fail_if_success with_reducible show wB ..); go_step)
      refine wv (v_moveT (.inl rfl) rfl) ?_
      simp only [Act.put, pA, pB, pC]
      refine wv (v_lss (n := 8) rfl rfl rfl) ?_
      simp only [Act.put, pA, pB, pC]
      repeat ((fail_if_success with_reducible show wA ..); (fail_if_success with_reducible show wB ..); go_step)
      refine wv (v_load (i := 0) hE0 rfl rfl rfl Try.underlying43 rfl (szA (n := 8))) ?_
      simp only [Act.put, pA, pB, pC]
      refine wl_step (st_gives hE0 rfl (run_call rfl Try.call71) (HD.out _) ?_)
      intro w1 hb1 hE1
      clear hE0
      simp only [Act.put, pA, pB, pC]
      refine wl_step (st_store (i := 1) hE1 rfl rfl rfl rfl rfl (szA (n := 8)) (by first | (simp only [ints_size, digs_length, List.length_replicate, List.length_cons, List.length_nil]; done) | (simp only [ints_size, digs_length, List.length_replicate, List.length_cons, List.length_nil, List.length_set, List.length_append]; omega) | rfl) (by first | exact ints_one _ _ | decide | simp [*]) ?_)
      intro w2 hE2
      clear hE1
      simp only [pB, pC] at hE2
      simp only [Act.put, pA, pB, pC]
      repeat ((fail_if_success with_reducible show wA ..); (fail_if_success with_reducible show wB ..); go_step)
      refine bodyPost_ret (results_cell_row rfl _ _ _ _ _ (0, 0) _ rfl (hE2.get (i := 1) rfl) Try.underlying43 rfl (szA (n := 8))) rfl ⟨rfl, hE2.below⟩

theorem sub_ge {m n : Nat} (hm : m < pN) (hn : n < pN) (h : ¬ m < n) : (m + big8 - n) % big8 = (m + (pN - n)) % pN := by
  have hp : pN < big8 := by decide
  have e : m + big8 - n = (m - n) + big8 := by omega
  have e2 : m + (pN - n) = (m - n) + pN := by omega
  rw [e, Nat.add_mod_right, Nat.mod_eq_of_lt (by omega), e2, Nat.add_mod_right, Nat.mod_eq_of_lt (by omega)]
theorem sub_lt {n : Nat} (hn : n < pN) : (pN + big8 - n) % big8 = pN - n := by
  have hp : pN < big8 := by decide
  have e : pN + big8 - n = (pN - n) + big8 := by omega
  rw [e, Nat.add_mod_right, Nat.mod_eq_of_lt (by omega)]
theorem sub_sum {m n : Nat} (hm : m < pN) (hn : n < pN) : m + (pN - n) < big8 := by
  have hp : pN + pN < big8 := by decide
  omega

set_option maxHeartbeats 2000000 in
theorem rSub_any {m n : Nat} (hm : m < pN) (hn : n < pN) (w : World) : Gives 56 #[nm m, nm n] w (nm ((m + (pN - n)) % pN)) := by
  have hp : pN < big8 := by decide
  have hm8 := nm_len m
  have hn8 := nm_len n
  have HM := Lib.hid (fun w => minus_any (m := m) (n := n) (Nat.lt_trans hm hp) (Nat.lt_trans hn hp) w)
  by_cases hlt : m < n
  · rw [decide_eq_true hlt] at HM
    have HM2 := Lib.hid (fun w => minus_any (m := pN) (n := n) hp (Nat.lt_trans hn hp) w)
    rw [decide_eq_false (Nat.lt_asymm hn), sub_lt hn] at HM2
    have HA := Lib.hid (fun w => rAdd_any (m := m) (n := pN - n) (Nat.lt_trans hm hp) (by omega) (sub_sum hm hn) w)
    have hl1 := nm_len ((m + big8 - n) % big8)
    have hl2 := nm_len (pN - n)
    have hl3 := nm_len ((m + (pN - n)) % pN)
    clear hm hn hlt hp
    have hE0 := Env.nil w
    go_enter Try.func56, Try.ntmps56
    repeat ((fail_if_success with_reducible show wA ..); (fail_if_success with_reducible show wB ..); go_step)
    refine wl_step (st_boxA hE0 rfl rfl rfl ?_)
    intro g0 w1 hb1 hE1
    clear hE0
    simp only [Act.put, pA, pB, pC]
    refine wl_step (st_boxA hE1 rfl rfl rfl ?_)
    intro g1 w2 hb2 hE2
    clear hE1
    simp only [Act.put, pA, pB, pC]
    refine wl_step (st_alloc (zs := ints .u32 (List.replicate 8 0)) hE2 rfl rfl (fun w => by kernel_rfl) ?_)
    intro g2 w3 hb3 hE3
    clear hE2
    simp only [Act.put, pA, pB, pC]
    repeat ((fail_if_success with_reducible show wA ..); (fail_if_success with_reducible show wB ..); go_step)
    refine wv (v_load (i := 2) hE3 rfl rfl rfl Try.underlying43 rfl (szA (n := 8))) ?_
    simp only [Act.put, pA, pB, pC]
    refine wv (v_load (i := 1) hE3 rfl rfl rfl Try.underlying43 rfl (szA (n := 8))) ?_
    simp only [Act.put, pA, pB, pC]
    refine wl_step (st_gives hE3 rfl (run_call rfl Try.call74) (HM.out _) ?_)
    intro w4 hb4 hE4
    clear hE3
    simp only [Act.put, pA, pB, pC]
    refine wv (v_moveT (.inl rfl) rfl) ?_
    simp only [Act.put, pA, pB, pC]
    refine wv (v_extract rfl rfl rfl) ?_
    simp only [Act.put, pA, pB, pC]
    refine wv (v_extract rfl rfl rfl) ?_
    simp only [Act.put, pA, pB, pC]
    refine wl_step (st_alloc (zs := ints .u32 (List.replicate 8 0)) hE4 rfl rfl (fun w => by kernel_rfl) ?_)
    intro g3 w5 hb5 hE5
    clear hE4
    simp only [Act.put, pA, pB, pC]
    refine wl_step (st_store (i := 0) hE5 rfl rfl rfl rfl rfl (szA (n := 8)) (by first | (simp only [ints_size, digs_length, List.length_replicate, List.length_cons, List.length_nil]; done) | (simp only [ints_size, digs_length, List.length_replicate, List.length_cons, List.length_nil, List.length_set, List.length_append]; omega) | rfl) (by first | exact ints_one _ _ | decide | simp [*]) ?_)
    intro w6 hE6
    clear hE5
    simp only [pB, pC] at hE6
    simp only [Act.put, pA, pB, pC]
    refine wv (v_moveT (.inr rfl) rfl) ?_
    simp only [Act.put, pA, pB, pC]
    repeat ((fail_if_success with_reducible show wA ..); (fail_if_success with_reducible show wB ..); go_step)
    refine wv (v_moveT (.inl rfl) rfl) ?_
    simp only [Act.put, pA, pB, pC]
    refine wv (v_not rfl rfl) ?_
    simp only [Act.put, pA, pB, pC]
    repeat ((fail_if_success with_reducible show wA ..); (fail_if_success with_reducible show wB ..); (fail_if_success (with_reducible show Code.wp _ (Code.cond _ _ _) _ _ _)); go_step)
    refine wp_cond_false (by first | rfl | exact congrArg Value.bool (decide_eq_false (by omega))) ?_
    skip
    repeat ((fail_if_success with_reducible show wA ..); (fail_if_success with_reducible show wB ..); go_step)
    refine wp_region_env 7 (by kernel_rfl) (by kernel_rfl) (fun _ _ d _ _ h => by cases d <;> exact h) hE6 ?_
    refine headRun_call (fun w1 => run_call rfl Try.call50) (fun w1 hW => P_any _) ?_
    simp only [Act.put, pA, pB, pC]
    refine hv (fun _ hW => (v_load (i := 2) hW rfl rfl rfl Try.underlying43 rfl (szA (n := 8)))) ?_
    simp only [Act.put, pA, pB, pC]
    refine headRun_call (fun w1 => run_call rfl Try.call74) (fun w1 hW => HM2.out _) ?_
    simp only [Act.put, pA, pB, pC]
    refine hv (fun _ hW => (v_moveT (.inl rfl) rfl)) ?_
    simp only [Act.put, pA, pB, pC]
    refine hv (fun _ hW => (v_extract rfl rfl rfl)) ?_
    simp only [Act.put, pA, pB, pC]
    refine hv (fun _ hW => (v_extract rfl rfl rfl)) ?_
    simp only [Act.put, pA, pB, pC]
    refine headRun_alloc (zs := ints .u32 (List.replicate 8 0)) rfl rfl (fun w => by kernel_rfl) ?_
    simp only [Act.put, pA, pB, pC]
    refine headRun_nil (endK1 ?_)
    intro g4 w7 hE7
    clear hE6
    simp only [List.drop_succ_cons, List.drop_zero, Act.put, pA, pB, pC]
    refine wl_step (st_store (i := 0) hE7 rfl rfl rfl rfl rfl (szA (n := 8)) (by first | (simp only [ints_size, digs_length, List.length_replicate, List.length_cons, List.length_nil]; done) | (simp only [ints_size, digs_length, List.length_replicate, List.length_cons, List.length_nil, List.length_set, List.length_append]; omega) | rfl) (by first | exact ints_one _ _ | decide | simp [*]) ?_)
    intro w8 hE8
    clear hE7
    simp only [pB, pC] at hE8
    simp only [Act.put, pA, pB, pC]
    refine wv (v_moveT (.inr rfl) rfl) ?_
    simp only [Act.put, pA, pB, pC]
    repeat ((fail_if_success with_reducible show wA ..); (fail_if_success with_reducible show wB ..); go_step)
    refine wv (v_load (i := 4) hE8 rfl rfl rfl Try.underlying43 rfl (szA (n := 8))) ?_
    simp only [Act.put, pA, pB, pC]
    refine wv (v_load (i := 0) hE8 rfl rfl rfl Try.underlying43 rfl (szA (n := 8))) ?_
    simp only [Act.put, pA, pB, pC]
    refine wl_step (st_gives hE8 rfl (run_call rfl Try.call57) (HA.out _) ?_)
    intro w9 hb9 hE9
    clear hE8
    simp only [Act.put, pA, pB, pC]
    refine wl_step (st_store (i := 2) hE9 rfl rfl rfl rfl rfl (szA (n := 8)) (by first | (simp only [ints_size, digs_length, List.length_replicate, List.length_cons, List.length_nil]; done) | (simp only [ints_size, digs_length, List.length_replicate, List.length_cons, List.length_nil, List.length_set, List.length_append]; omega) | rfl) (by first | exact ints_one _ _ | decide | simp [*]) ?_)
    intro w10 hE10
    clear hE9
    simp only [pB, pC] at hE10
    simp only [Act.put, pA, pB, pC]
    repeat ((fail_if_success with_reducible show wA ..); (fail_if_success with_reducible show wB ..); go_step)
    refine bodyPost_ret (results_cell_row rfl _ _ _ _ _ (0, 0) _ rfl (hE10.get (i := 2) rfl) Try.underlying43 rfl (szA (n := 8))) rfl ⟨rfl, hE10.below⟩
  · rw [decide_eq_false hlt, sub_ge hm hn hlt] at HM
    have hl3 := nm_len ((m + (pN - n)) % pN)
    clear hm hn hlt hp
    have hE0 := Env.nil w
    go_enter Try.func56, Try.ntmps56
    repeat ((fail_if_success with_reducible show wA ..); (fail_if_success with_reducible show wB ..); go_step)
    refine wl_step (st_boxA hE0 rfl rfl rfl ?_)
    intro g0 w1 hb1 hE1
    clear hE0
    simp only [Act.put, pA, pB, pC]
    refine wl_step (st_boxA hE1 rfl rfl rfl ?_)
    intro g1 w2 hb2 hE2
    clear hE1
    simp only [Act.put, pA, pB, pC]
    refine wl_step (st_alloc (zs := ints .u32 (List.replicate 8 0)) hE2 rfl rfl (fun w => by kernel_rfl) ?_)
    intro g2 w3 hb3 hE3
    clear hE2
    simp only [Act.put, pA, pB, pC]
    repeat ((fail_if_success with_reducible show wA ..); (fail_if_success with_reducible show wB ..); go_step)
    refine wv (v_load (i := 2) hE3 rfl rfl rfl Try.underlying43 rfl (szA (n := 8))) ?_
    simp only [Act.put, pA, pB, pC]
    refine wv (v_load (i := 1) hE3 rfl rfl rfl Try.underlying43 rfl (szA (n := 8))) ?_
    simp only [Act.put, pA, pB, pC]
    refine wl_step (st_gives hE3 rfl (run_call rfl Try.call74) (HM.out _) ?_)
    intro w4 hb4 hE4
    clear hE3
    simp only [Act.put, pA, pB, pC]
    refine wv (v_moveT (.inl rfl) rfl) ?_
    simp only [Act.put, pA, pB, pC]
    refine wv (v_extract rfl rfl rfl) ?_
    simp only [Act.put, pA, pB, pC]
    refine wv (v_extract rfl rfl rfl) ?_
    simp only [Act.put, pA, pB, pC]
    refine wl_step (st_alloc (zs := ints .u32 (List.replicate 8 0)) hE4 rfl rfl (fun w => by kernel_rfl) ?_)
    intro g3 w5 hb5 hE5
    clear hE4
    simp only [Act.put, pA, pB, pC]
    refine wl_step (st_store (i := 0) hE5 rfl rfl rfl rfl rfl (szA (n := 8)) (by first | (simp only [ints_size, digs_length, List.length_replicate, List.length_cons, List.length_nil]; done) | (simp only [ints_size, digs_length, List.length_replicate, List.length_cons, List.length_nil, List.length_set, List.length_append]; omega) | rfl) (by first | exact ints_one _ _ | decide | simp [*]) ?_)
    intro w6 hE6
    clear hE5
    simp only [pB, pC] at hE6
    simp only [Act.put, pA, pB, pC]
    refine wv (v_moveT (.inr rfl) rfl) ?_
    simp only [Act.put, pA, pB, pC]
    repeat ((fail_if_success with_reducible show wA ..); (fail_if_success with_reducible show wB ..); go_step)
    refine wv (v_moveT (.inl rfl) rfl) ?_
    simp only [Act.put, pA, pB, pC]
    refine wv (v_not rfl rfl) ?_
    simp only [Act.put, pA, pB, pC]
    repeat ((fail_if_success with_reducible show wA ..); (fail_if_success with_reducible show wB ..); (fail_if_success (with_reducible show Code.wp _ (Code.cond _ _ _) _ _ _)); go_step)
    refine wp_cond_true (by first | rfl | exact congrArg Value.bool (decide_eq_true (by omega))) ?_
    skip
    repeat ((fail_if_success with_reducible show wA ..); (fail_if_success with_reducible show wB ..); go_step)
    refine wv (v_load (i := 0) hE6 rfl rfl rfl Try.underlying43 rfl (szA (n := 8))) ?_
    simp only [Act.put, pA, pB, pC]
    refine wl_step (st_store (i := 1) hE6 rfl rfl rfl rfl rfl (szA (n := 8)) (by first | (simp only [ints_size, digs_length, List.length_replicate, List.length_cons, List.length_nil]; done) | (simp only [ints_size, digs_length, List.length_replicate, List.length_cons, List.length_nil, List.length_set, List.length_append]; omega) | rfl) (by first | exact ints_one _ _ | decide | simp [*]) ?_)
    intro w7 hE7
    clear hE6
    simp only [pB, pC] at hE7
    simp only [Act.put, pA, pB, pC]
    repeat ((fail_if_success with_reducible show wA ..); (fail_if_success with_reducible show wB ..); go_step)
    refine bodyPost_ret (results_cell_row rfl _ _ _ _ _ (0, 0) _ rfl (hE7.get (i := 1) rfl) Try.underlying43 rfl (szA (n := 8))) rfl ⟨rfl, hE7.below⟩
end Go.Proofs.Ytmebjoehmheknaa
namespace Go.Proofs.Ytmebjoehmheknaa
open Go.RowKit
set_option linter.unusedVariables false
set_option linter.unusedSimpArgs false

/-- One digit that is written over. -/
theorem digs_set {B k j A A' d : Nat} (hB : 0 < B) (hj : j < k) (hA : A < B ^ k) (hA' : A' < B ^ k) (hd : d < B) (h : A' + B ^ j * (A / B ^ j % B) = A + B ^ j * d) : (digs B k A).set j d = digs B k A' := by
  have hl : j < (digs B k A).length := by rw [digs_length]; exact hj
  have hv := val_set (B := B) (digs B k A) j d hl
  have hg : (digs B k A)[j] = A / B ^ j % B := by
    have := digs_getElem? B k A j hj
    rw [List.getElem?_eq_getElem hl] at this
    exact Option.some.inj this
  rw [hg, val_digs, Nat.mod_eq_of_lt hA] at hv
  apply val_inj ((digs_Digs hB k A).set j hd) (digs_Digs hB k A')
  · rw [List.length_set, digs_length, digs_length]
  · rw [val_digs, Nat.mod_eq_of_lt hA']
    omega
theorem byte_of {x r : Nat} (hr : r < 4) : x % 4294967296 / 2 ^ (8 * r) % 256 = x / 256 ^ r % 256 := by
  rcases (show r = 0 ∨ r = 1 ∨ r = 2 ∨ r = 3 by omega) with rfl | rfl | rfl | rfl
  · show x % 4294967296 / 1 % 256 = x / 1 % 256
    omega
  · show x % 4294967296 / 256 % 256 = x / 256 % 256
    omega
  · show x % 4294967296 / 65536 % 256 = x / 65536 % 256
    omega
  · show x % 4294967296 / 16777216 % 256 = x / 16777216 % 256
    omega
theorem pow4 (K : Nat) : 256 ^ K = 4294967296 ^ (K / 4) * 256 ^ (K % 4) := by
  have e : (4294967296 : Nat) = 256 ^ 4 := by decide
  rw [e, ← Nat.pow_mul, ← Nat.pow_add, Nat.div_add_mod]
theorem byte_digit (n K : Nat) : n / 4294967296 ^ (K / 4) % 4294967296 / 2 ^ (8 * (K % 4)) % 256 = n / 256 ^ K % 256 := by
  rw [byte_of (Nat.mod_lt _ (by decide)), Nat.div_div_eq_div_mul, ← pow4]
theorem byte_fill {n K : Nat} (hK : K < 32) : (digs 256 32 (n % 256 ^ K)).set K (n / 256 ^ K % 256) = digs 256 32 (n % 256 ^ (K + 1)) := by
  have h1 : 256 ^ K ≤ 256 ^ 32 := Nat.pow_le_pow_right (by decide) (by omega)
  have h2 : 256 ^ (K + 1) ≤ 256 ^ 32 := Nat.pow_le_pow_right (by decide) (by omega)
  have h3 : 0 < 256 ^ K := Nat.pow_pos (by decide)
  have h4 : 0 < 256 ^ (K + 1) := Nat.pow_pos (by decide)
  refine digs_set (by decide) hK (Nat.lt_of_lt_of_le (Nat.mod_lt _ h3) h1) (Nat.lt_of_lt_of_le (Nat.mod_lt _ h4) h2) (Nat.mod_lt _ (by decide)) ?_
  rw [Nat.div_eq_of_lt (Nat.mod_lt _ h3), Nat.zero_mod, Nat.mul_zero, Nat.add_zero, Nat.pow_succ, Nat.mod_mul]

set_option maxHeartbeats 4000000 in
theorem rBytes_any {n : Nat} (hn : n < big8) (w : World) : Gives 59 #[nm n] w (.agg (ints .u8 (digs 256 32 n))) := by
  have hn8 := nm_len n
  have Hgn := Lib.hid (nm_get n)
  have Hn := Lib.hid hn
  have Hl : Hid (∀ x, (digs 256 32 x).length = 32) := Lib.hid (fun x => digs_length _ _ _)
  clear hn
  have hE0 := Env.nil w
  go_enter Try.func59, Try.ntmps59
  repeat ((fail_if_success with_reducible show wA ..); (fail_if_success with_reducible show wB ..); go_step)
  refine wl_step (st_boxA hE0 rfl rfl rfl ?_)
  intro g0 w1 hb1 hE1
  clear hE0
  simp only [Act.put, pA, pB, pC]
  refine wl_step (st_alloc (zs := ints .u8 (List.replicate 32 0)) hE1 rfl rfl (fun w => by kernel_rfl) ?_)
  intro g1 w2 hb2 hE2
  clear hE1
  simp only [Act.put, pA, pB, pC]
  repeat ((fail_if_success with_reducible show wA ..); (fail_if_success with_reducible show wB ..); go_step)
  refine wl_step (st_alloc (zs := ints .u8 (List.replicate 32 0)) hE2 rfl rfl (fun w => by kernel_rfl) ?_)
  intro g2 w3 hb3 hE3
  clear hE2
  simp only [Act.put, pA, pB, pC]
  repeat ((fail_if_success with_reducible show wA ..); (fail_if_success with_reducible show wB ..); go_step)
  refine wv (v_moveC (.inr rfl)) ?_
  simp only [Act.put, pA, pB, pC]
  go_wp2
  go_loopw [4] (fun i wr => ∃ (K : Nat), K ≤ 32 ∧ i = .int .i64 K ∧ Env w [⟨g2, 22, ints .u8 (digs 256 32 (n % 256 ^ K))⟩, ⟨g1, 22, ints .u8 (List.replicate 32 0)⟩, ⟨g0, 43, ints .u32 (digs 4294967296 8 n)⟩] wr) (fun i _ => 32 - (intOf i).toNat)
  case atStart => exact ⟨0, Nat.zero_le _, rfl, by rw [Nat.pow_zero, Nat.mod_one]; exact hE3⟩
  case round =>
    clear hE3
    obtain ⟨K, hK, rfl, hE0⟩ := hrel
    by_cases hK8 : K < 32
    · have hgn := Lib.hid (Hgn.out (K / 4) (by omega))
      have hj : K / 4 < 8 := by omega
      have hb := Lib.hid (byte_digit n K)
      have hf := Lib.hid (byte_fill (n := n) hK8)
      have hx32 := Hl.out (n % 256 ^ K)
      have ha : n / 4294967296 ^ (K / 4) % 4294967296 < 4294967296 := Nat.mod_lt _ (by decide)
      obtain ⟨a, hae⟩ : ∃ a, a = n / 4294967296 ^ (K / 4) % 4294967296 := ⟨_, rfl⟩
      rw [← hae] at hgn ha hb
      obtain ⟨c, hce⟩ : ∃ c, c = n / 256 ^ K % 256 := ⟨_, rfl⟩
      rw [← hce] at hf hb
      clear hae hce
      obtain ⟨X, hXe⟩ : ∃ X, X = digs 256 32 (n % 256 ^ K) := ⟨_, rfl⟩
      rw [← hXe] at hE0 hf hx32
      clear hXe
      repeat ((fail_if_success with_reducible show wA ..); (fail_if_success with_reducible show wB ..); go_step)
      refine wv (v_moveT (.inl rfl) rfl) ?_
      simp only [Act.put, pA, pB, pC]
      refine wv (v_lss (n := 32) rfl rfl rfl) ?_
      simp only [Act.put, pA, pB, pC]
      repeat ((fail_if_success with_reducible show wA ..); (fail_if_success with_reducible show wB ..); go_step)
      refine wv (v_moveT (.inl rfl) rfl) ?_
      simp only [Act.put, pA, pB, pC]
      refine wv (v_moveT (.inl rfl) rfl) ?_
      simp only [Act.put, pA, pB, pC]
      refine wv (v_quo (n := 4) rfl rfl rfl (by omega) (w_i64 (by omega))) ?_
      simp only [Act.put, pA, pB, pC]
      refine wv (v_indexA0 rfl rfl rfl Try.underlying43 (by kernel_rfl) (by first | assumption | omega)) ?_
      simp only [Act.put, pA, pB, pC]
      refine wv (v_cell rfl rfl Try.underlying41 rfl (Env.cellv (i := 2) hE0 rfl (ints_get? _ _ _ (by first | assumption | omega | (simp; done) | (simp; omega))))) ?_
      simp only [Act.put, pA, pB, pC]
      rw [hgn.out]
      refine wv (v_moveT (.inl rfl) rfl) ?_
      simp only [Act.put, pA, pB, pC]
      refine wv (v_rem (n := 4) rfl rfl rfl (by omega)) ?_
      simp only [Act.put, pA, pB, pC]
      refine wv (v_mul (m := 8) rfl rfl rfl (w_i64 (by omega))) ?_
      simp only [Act.put, pA, pB, pC]
      refine wv (v_shr rfl rfl rfl (by simp only [IntKind.bits]; omega)) ?_
      simp only [Act.put, pA, pB, pC]
      refine wv (v_convInt rfl rfl Try.underlying41 Try.underlying5 (w_u8m _)) ?_
      simp only [Act.put, pA, pB, pC]
      rw [hb.out]
      refine wv (v_indexA0 rfl rfl rfl Try.underlying22 (by kernel_rfl) (by first | assumption | omega)) ?_
      simp only [Act.put, pA, pB, pC]
      refine wl_step (st_putN (i := 0) hE0 rfl rfl rfl rfl rfl (by kernel_rfl) (by first | assumption | omega | (simp only [List.length_set, List.length_replicate]; first | assumption | omega)) ?_)
      intro w1 hE1
      clear hE0
      simp only [pB, pC] at hE1
      simp only [Act.put, pA, pB, pC]
      repeat ((fail_if_success with_reducible show wA ..); (fail_if_success with_reducible show wB ..); go_step)
      refine wv (v_moveT (.inl rfl) rfl) ?_
      simp only [Act.put, pA, pB, pC]
      refine wv (v_add (n := 1) rfl rfl rfl (w_i64 (by omega))) ?_
      simp only [Act.put, pA, pB, pC]
      refine wv (v_moveT (.inr rfl) rfl) ?_
      simp only [Act.put, pA, pB, pC]
      go_wp2
      go_roundw
      case rel => exact ⟨K + 1, by omega, rfl, by rw [← hf.out]; exact hE1⟩
      case measure => simp [intOf]; omega
    · have hK' : K = 32 := by omega
      subst hK'
      rw [Nat.mod_eq_of_lt (show n < 256 ^ 32 from Hn.out)] at hE0
      have hl8 := Hl.out n
      repeat ((fail_if_success with_reducible show wA ..); (fail_if_success with_reducible show wB ..); go_step)
      refine wv (v_moveT (.inl rfl) rfl) ?_
      simp only [Act.put, pA, pB, pC]
      refine wv (v_lss (n := 32) rfl rfl rfl) ?_
      simp only [Act.put, pA, pB, pC]
      repeat ((fail_if_success with_reducible show wA ..); (fail_if_success with_reducible show wB ..); go_step)
      refine wv (v_load (i := 0) hE0 rfl rfl rfl Try.underlying22 rfl (szA (n := 32))) ?_
      simp only [Act.put, pA, pB, pC]
      refine wl_step (st_store (i := 1) hE0 rfl rfl rfl rfl rfl (szA (n := 32)) (by first | (simp only [ints_size, digs_length, List.length_replicate, List.length_cons, List.length_nil]; done) | (simp only [ints_size, digs_length, List.length_replicate, List.length_cons, List.length_nil, List.length_set, List.length_append]; omega) | rfl) (by first | exact ints_one _ _ | decide | simp [*]) ?_)
      intro w1 hE1
      clear hE0
      simp only [pB, pC] at hE1
      simp only [Act.put, pA, pB, pC]
      repeat ((fail_if_success with_reducible show wA ..); (fail_if_success with_reducible show wB ..); go_step)
      refine bodyPost_ret (results_cell_row rfl _ _ _ _ _ (0, 0) _ rfl (hE1.get (i := 1) rfl) Try.underlying22 rfl (szA (n := 32))) rfl ⟨rfl, hE1.below⟩

/-! ### The number of 32 bytes -/
theorem or_digit {e c r : Nat} (he : e < 2 ^ (8 * r)) : e ||| c * 2 ^ (8 * r) = e + c * 256 ^ r := by
  have h := Nat.shiftLeft_add_eq_or_of_lt he c
  rw [Nat.or_comm, ← Nat.shiftLeft_eq, ← h, Nat.shiftLeft_eq, Nat.pow_mul, Nat.add_comm]
theorem raw_lt {c r : Nat} (hc : c < 256) (hr : r < 4) : c * 2 ^ (8 * r) < 4294967296 := by
  rcases (show r = 0 ∨ r = 1 ∨ r = 2 ∨ r = 3 by omega) with rfl | rfl | rfl | rfl
  · show c * 1 < 4294967296
    omega
  · show c * 256 < 4294967296
    omega
  · show c * 65536 < 4294967296
    omega
  · show c * 16777216 < 4294967296
    omega
theorem raw_fill {V K c e : Nat} (hK : K < 32) (hc : V / 256 ^ K % 256 = c) (he : V % 256 ^ K / 4294967296 ^ (K / 4) % 4294967296 = e) :
    e < 4294967296 ∧ c * 2 ^ (8 * (K % 4)) < 4294967296 ∧ (digs 4294967296 8 (V % 256 ^ K)).set (K / 4) (e ||| c * 2 ^ (8 * (K % 4))) = digs 4294967296 8 (V % 256 ^ (K + 1)) := by
  have hr : K % 4 < 4 := Nat.mod_lt _ (by decide)
  have hc2 : c < 256 := hc ▸ Nat.mod_lt _ (by decide)
  have he2 : e < 4294967296 := he ▸ Nat.mod_lt _ (by decide)
  have hcl := raw_lt hc2 hr
  refine ⟨he2, hcl, ?_⟩
  have h3 : 0 < 256 ^ K := Nat.pow_pos (by decide)
  have h4 : 0 < 256 ^ (K + 1) := Nat.pow_pos (by decide)
  have e8 : (4294967296 : Nat) ^ 8 = 256 ^ 32 := by decide
  have h1 : 256 ^ K ≤ 4294967296 ^ 8 := by rw [e8]; exact Nat.pow_le_pow_right (by decide) (by omega)
  have h2 : 256 ^ (K + 1) ≤ 4294967296 ^ 8 := by rw [e8]; exact Nat.pow_le_pow_right (by decide) (by omega)
  have hlt : V % 256 ^ K / 4294967296 ^ (K / 4) < 256 ^ (K % 4) := by
    apply Nat.div_lt_of_lt_mul
    rw [← pow4]
    exact Nat.mod_lt _ h3
  have her : e < 2 ^ (8 * (K % 4)) := by
    rw [← he, Nat.pow_mul]
    exact Nat.lt_of_le_of_lt (Nat.mod_le _ _) hlt
  have hd : (e ||| c * 2 ^ (8 * (K % 4))) < 4294967296 := Nat.or_lt_two_pow (n := 32) he2 hcl
  refine digs_set (by decide) (by omega) (Nat.lt_of_lt_of_le (Nat.mod_lt _ h3) h1) (Nat.lt_of_lt_of_le (Nat.mod_lt _ h4) h2) hd ?_
  rw [he, or_digit her, Nat.pow_succ, Nat.mod_mul, hc, Nat.mul_add, Nat.mul_comm c, ← Nat.mul_assoc, ← pow4]
  omega

set_option maxHeartbeats 4000000 in
theorem Raw_any {b : List Nat} (hB : Digs 256 b) (hlen : b.length = 32) (w : World) : Gives 49 #[.agg (ints .u8 b)] w (nm (val 256 b)) := by
  have Hgb := Lib.hid (val_div_mod hB (by decide))
  have Hn := Lib.hid (val_lt hB)
  have HB := Lib.hid (fun i => hB.getD (by decide) i)
  clear hB
  have hE0 := Env.nil w
  go_enter Try.func49, Try.ntmps49
  repeat ((fail_if_success with_reducible show wA ..); (fail_if_success with_reducible show wB ..); go_step)
  refine wl_step (st_boxA hE0 rfl rfl rfl ?_)
  intro g0 w1 hb1 hE1
  clear hE0
  simp only [Act.put, pA, pB, pC]
  refine wl_step (st_alloc (zs := ints .u32 (List.replicate 8 0)) hE1 rfl rfl (fun w => by kernel_rfl) ?_)
  intro g1 w2 hb2 hE2
  clear hE1
  simp only [Act.put, pA, pB, pC]
  repeat ((fail_if_success with_reducible show wA ..); (fail_if_success with_reducible show wB ..); go_step)
  refine wl_step (st_alloc (zs := ints .u32 (List.replicate 8 0)) hE2 rfl rfl (fun w => by kernel_rfl) ?_)
  intro g2 w3 hb3 hE3
  clear hE2
  simp only [Act.put, pA, pB, pC]
  repeat ((fail_if_success with_reducible show wA ..); (fail_if_success with_reducible show wB ..); go_step)
  refine wv (v_moveC (.inr rfl)) ?_
  simp only [Act.put, pA, pB, pC]
  go_wp2
  go_loopw [4] (fun i wr => ∃ (K : Nat), K ≤ 32 ∧ i = .int .i64 K ∧ Env w [⟨g2, 43, ints .u32 (digs 4294967296 8 (val 256 b % 256 ^ K))⟩, ⟨g1, 43, ints .u32 (List.replicate 8 0)⟩, ⟨g0, 22, ints .u8 b⟩] wr) (fun i _ => 32 - (intOf i).toNat)
  case atStart => exact ⟨0, Nat.zero_le _, rfl, by rw [Nat.pow_zero, Nat.mod_one]; exact hE3⟩
  case round =>
    clear hE3
    obtain ⟨K, hK, rfl, hE0⟩ := hrel
    by_cases hK8 : K < 32
    · have hj : K / 4 < 8 := by omega
      have hg2 := nm_get (val 256 b % 256 ^ K) (K / 4) hj
      obtain ⟨e, hee⟩ : ∃ e, val 256 b % 256 ^ K / 4294967296 ^ (K / 4) % 4294967296 = e := ⟨_, rfl⟩
      obtain ⟨c, hce⟩ : ∃ c, b.getD K 0 = c := ⟨_, rfl⟩
      have hr := raw_fill hK8 ((Hgb.out K).trans hce) hee
      rw [hee] at hg2
      have Hg2 := Lib.hid hg2
      have Hc := Lib.hid hce
      have hc8 : c < 256 := hce ▸ HB.out K
      have he32 := hr.1
      have hcs := hr.2.1
      have hf := Lib.hid hr.2.2
      have hx8 := nm_len (val 256 b % 256 ^ K)
      clear hr hee hce hg2
      obtain ⟨X, hXe⟩ : ∃ X, X = digs 4294967296 8 (val 256 b % 256 ^ K) := ⟨_, rfl⟩
      rw [← hXe] at hE0 hf hx8 Hg2
      clear hXe
      repeat ((fail_if_success with_reducible show wA ..); (fail_if_success with_reducible show wB ..); go_step)
      refine wv (v_moveT (.inl rfl) rfl) ?_
      simp only [Act.put, pA, pB, pC]
      refine wv (v_lss (n := 32) rfl rfl rfl) ?_
      simp only [Act.put, pA, pB, pC]
      repeat ((fail_if_success with_reducible show wA ..); (fail_if_success with_reducible show wB ..); go_step)
      refine wp_region_B (n := 17) 16 (by kernel_rfl) rfl hE0 ?_
      intro w1 hb1 hE1
      clear hE0
      refine wpB_take (i := 0) (by kernel_rfl) rfl (by kernel_rfl) (fun _ _ _ h => h) rfl (v_moveT (.inl rfl) rfl) ?_
      simp only [Act.put, pA, pB, pC]
      refine wpB_take (i := 1) (by kernel_rfl) rfl (by kernel_rfl) (fun _ _ _ h => h) rfl (v_quo (n := 4) rfl rfl rfl (by omega) (w_i64 (by omega))) ?_
      simp only [Act.put, pA, pB, pC]
      refine wpB_take (i := 2) (by kernel_rfl) rfl (by kernel_rfl) (fun _ _ _ h => h) rfl (v_moveT (.inl rfl) rfl) ?_
      simp only [Act.put, pA, pB, pC]
      refine wpB_take (i := 3) (by kernel_rfl) rfl (by kernel_rfl) (fun _ _ _ h => h) rfl (v_quo (n := 4) rfl rfl rfl (by omega) (w_i64 (by omega))) ?_
      simp only [Act.put, pA, pB, pC]
      refine wpB_take (i := 4) (by kernel_rfl) rfl (by kernel_rfl) (fun _ _ _ h => h) rfl (v_indexA0 rfl rfl rfl Try.underlying43 (by kernel_rfl) (by first | assumption | omega)) ?_
      simp only [Act.put, pA, pB, pC]
      refine wpB_take (i := 5) (by kernel_rfl) rfl (by kernel_rfl) (fun _ _ _ h => h) rfl (v_cell rfl rfl Try.underlying41 rfl (Env.cellv (i := 0) hE1 rfl (ints_get? _ _ _ (by first | assumption | omega | (simp; done) | (simp; omega))))) ?_
      simp only [Act.put, pA, pB, pC]
      rw [Hg2.out]
      refine wpB_take (i := 6) (by kernel_rfl) rfl (by kernel_rfl) (fun _ _ _ h => h) rfl (v_moveT (.inl rfl) rfl) ?_
      simp only [Act.put, pA, pB, pC]
      refine wpB_take (i := 7) (by kernel_rfl) rfl (by kernel_rfl) (fun _ _ _ h => h) rfl (v_indexA0 rfl rfl rfl Try.underlying22 (by kernel_rfl) (by first | assumption | omega)) ?_
      simp only [Act.put, pA, pB, pC]
      refine wpB_take (i := 8) (by kernel_rfl) rfl (by kernel_rfl) (fun _ _ _ h => h) rfl (v_cell rfl rfl Try.underlying5 rfl (Env.cellv (i := 2) hE1 rfl (ints_get? _ _ _ (by first | assumption | omega | (simp; done) | (simp; omega))))) ?_
      simp only [Act.put, pA, pB, pC]
      rw [Hc.out]
      refine wpB_take (i := 9) (by kernel_rfl) rfl (by kernel_rfl) (fun _ _ _ h => h) rfl (v_convInt rfl rfl Try.underlying5 Try.underlying41 (by first | exact w_uns rfl (by simp only [IntKind.bits]; omega) | rfl)) ?_
      simp only [Act.put, pA, pB, pC]
      refine wpB_take (i := 10) (by kernel_rfl) rfl (by kernel_rfl) (fun _ _ _ h => h) rfl (v_moveT (.inl rfl) rfl) ?_
      simp only [Act.put, pA, pB, pC]
      refine wpB_take (i := 11) (by kernel_rfl) rfl (by kernel_rfl) (fun _ _ _ h => h) rfl (v_rem (n := 4) rfl rfl rfl (by omega)) ?_
      simp only [Act.put, pA, pB, pC]
      refine wpB_take (i := 12) (by kernel_rfl) rfl (by kernel_rfl) (fun _ _ _ h => h) rfl (v_mul (m := 8) rfl rfl rfl (w_i64 (by omega))) ?_
      simp only [Act.put, pA, pB, pC]
      refine wpB_take (i := 13) (by kernel_rfl) rfl (by kernel_rfl) (fun _ _ _ h => h) rfl (v_shl rfl rfl rfl (by simp [IntKind.bits]; omega) (w_u32 hcs)) ?_
      simp only [Act.put, pA, pB, pC]
      refine wpB_take (i := 14) (by kernel_rfl) rfl (by kernel_rfl) (fun _ _ _ h => h) rfl (v_bor rfl rfl rfl he32 hcs (w_or rfl he32 hcs)) ?_
      simp only [Act.put, pA, pB, pC]
      refine wpB_take (i := 15) (by kernel_rfl) rfl (by kernel_rfl) (fun _ _ _ h => h) rfl (v_indexA0 rfl rfl rfl Try.underlying43 (by kernel_rfl) (by first | assumption | omega)) ?_
      simp only [Act.put, pA, pB, pC]
      refine wpB_step (i := 16) (by kernel_rfl) rfl (st_putN (i := 0) hE1 rfl rfl rfl rfl rfl (by kernel_rfl) (by first | assumption | omega | (simp only [List.length_set, List.length_replicate]; first | assumption | omega)) ?_)
      intro w2 hE2
      clear hE1
      simp only [pB, pC] at hE2
      refine ⟨fun h => absurd h (by decide), ?_⟩
      simp only [Act.put, pA, pB, pC]
      refine wpB_done (by kernel_rfl) ?_ _
      repeat ((fail_if_success with_reducible show wA ..); (fail_if_success with_reducible show wB ..); go_step)
      refine wv (v_moveT (.inl rfl) rfl) ?_
      simp only [Act.put, pA, pB, pC]
      refine wv (v_add (n := 1) rfl rfl rfl (w_i64 (by omega))) ?_
      simp only [Act.put, pA, pB, pC]
      refine wv (v_moveT (.inr rfl) rfl) ?_
      simp only [Act.put, pA, pB, pC]
      go_wp2
      go_roundw
      case rel => exact ⟨K + 1, by omega, rfl, by rw [← hf.out]; exact hE2⟩
      case measure => simp [intOf]; omega
    · have hK' : K = 32 := by omega
      subst hK'
      have hv := Hn.out
      rw [hlen] at hv
      rw [Nat.mod_eq_of_lt hv] at hE0
      have hl8 := nm_len (val 256 b)
      clear hv
      repeat ((fail_if_success with_reducible show wA ..); (fail_if_success with_reducible show wB ..); go_step)
      refine wv (v_moveT (.inl rfl) rfl) ?_
      simp only [Act.put, pA, pB, pC]
      refine wv (v_lss (n := 32) rfl rfl rfl) ?_
      simp only [Act.put, pA, pB, pC]
      repeat ((fail_if_success with_reducible show wA ..); (fail_if_success with_reducible show wB ..); go_step)
      refine wv (v_load (i := 0) hE0 rfl rfl rfl Try.underlying43 rfl (szA (n := 8))) ?_
      simp only [Act.put, pA, pB, pC]
      refine wl_step (st_store (i := 1) hE0 rfl rfl rfl rfl rfl (szA (n := 8)) (by first | (simp only [ints_size, digs_length, List.length_replicate, List.length_cons, List.length_nil]; done) | (simp only [ints_size, digs_length, List.length_replicate, List.length_cons, List.length_nil, List.length_set, List.length_append]; omega) | rfl) (by first | exact ints_one _ _ | decide | simp [*]) ?_)
      intro w1 hE1
      clear hE0
      simp only [pB, pC] at hE1
      simp only [Act.put, pA, pB, pC]
      repeat ((fail_if_success with_reducible show wA ..); (fail_if_success with_reducible show wB ..); go_step)
      refine bodyPost_ret (results_cell_row rfl _ _ _ _ _ (0, 0) _ rfl (hE1.get (i := 1) rfl) Try.underlying43 rfl (szA (n := 8))) rfl ⟨rfl, hE1.below⟩

theorem top_bit {b : List Nat} (hB : Digs 256 b) (hlen : b.length = 32) : val 256 (b.set 31 (b.getD 31 0 % 128)) = val 256 b % 57896044618658097711785492504343953926634992332820282019728792003956564819968 := by
  have h31 : 31 < b.length := by omega
  have hs := val_set (B := 256) b 31 (b.getD 31 0 % 128) h31
  have ht := val_take_succ 256 b 31 h31
  rw [List.take_of_length_le (by omega)] at ht
  have hL := val_lt (hB.take 31)
  rw [List.length_take, Nat.min_eq_left (by omega)] at hL
  have hg : b.getD 31 0 = b[31] := by simp [List.getD, h31]
  have h8 := hB.getElem h31
  rw [hg] at hs ⊢
  generalize b[31] = t at *
  generalize val 256 (b.take 31) = L at *
  generalize val 256 b = V at *
  generalize val 256 (b.set 31 (t % 128)) = U at *
  subst ht
  have e : (57896044618658097711785492504343953926634992332820282019728792003956564819968 : Nat) = 256 ^ 31 * 128 := by decide
  rw [e, Nat.mod_mul, Nat.add_mul_mod_self_left, Nat.mod_eq_of_lt hL, Nat.add_mul_div_left _ _ (Nat.pow_pos (by decide)), Nat.div_eq_of_lt hL, Nat.zero_add]
  omega

set_option maxHeartbeats 2000000 in
theorem rOf_any {b : List Nat} (hB : Digs 256 b) (hlen : b.length = 32) (w : World) : Gives 52 #[.agg (ints .u8 b)] w (nm (val 256 b % 57896044618658097711785492504343953926634992332820282019728792003956564819968 % pN)) := by
  have hr := Raw_any (hB.set 31 (show b.getD 31 0 % 128 < 256 by omega)) (by rw [List.length_set]; exact hlen)
  rw [top_bit hB hlen] at hr
  have HR := Lib.hid hr
  have h255 : val 256 b % 57896044618658097711785492504343953926634992332820282019728792003956564819968 < big8 := Nat.lt_trans (Nat.mod_lt _ (by decide)) (by decide)
  have HD := Lib.hid (fun w => down_any h255 w)
  have hb8 : b.getD 31 0 < 256 := hB.getD (by decide) 31
  have hls : (b.set 31 (b.getD 31 0 % 128)).length = 32 := by rw [List.length_set]; exact hlen
  have hl8 := nm_len (val 256 b % 57896044618658097711785492504343953926634992332820282019728792003956564819968)
  have hl9 := nm_len (val 256 b % 57896044618658097711785492504343953926634992332820282019728792003956564819968 % pN)
  clear hr h255 hB
  have hE0 := Env.nil w
  go_enter Try.func52, Try.ntmps52
  repeat ((fail_if_success with_reducible show wA ..); (fail_if_success with_reducible show wB ..); go_step)
  refine wl_step (st_boxA hE0 rfl rfl rfl ?_)
  intro g0 w1 hb1 hE1
  clear hE0
  simp only [Act.put, pA, pB, pC]
  refine wl_step (st_alloc (zs := ints .u32 (List.replicate 8 0)) hE1 rfl rfl (fun w => by kernel_rfl) ?_)
  intro g1 w2 hb2 hE2
  clear hE1
  simp only [Act.put, pA, pB, pC]
  repeat ((fail_if_success with_reducible show wA ..); (fail_if_success with_reducible show wB ..); go_step)
  refine wv (v_indexA0 (j := 31) rfl rfl rfl Try.underlying22 (by kernel_rfl) (by first | assumption | omega)) ?_
  simp only [Act.put, pA, pB, pC]
  refine wv (v_cell rfl rfl Try.underlying5 rfl (Env.cellv (i := 1) hE2 rfl (ints_get? _ _ _ (by first | assumption | omega | (simp; done) | (simp; omega))))) ?_
  simp only [Act.put, pA, pB, pC]
  refine wv (v_rem (n := 128) rfl rfl rfl (by omega)) ?_
  simp only [Act.put, pA, pB, pC]
  refine wv (v_indexA0 (j := 31) rfl rfl rfl Try.underlying22 (by kernel_rfl) (by first | assumption | omega)) ?_
  simp only [Act.put, pA, pB, pC]
  refine wl_step (st_putN (i := 1) hE2 rfl rfl rfl rfl rfl (by kernel_rfl) (by first | assumption | omega | (simp only [List.length_set, List.length_replicate]; first | assumption | omega)) ?_)
  intro w3 hE3
  clear hE2
  simp only [pB, pC] at hE3
  simp only [Act.put, pA, pB, pC]
  repeat ((fail_if_success with_reducible show wA ..); (fail_if_success with_reducible show wB ..); go_step)
  refine wv (v_load (i := 1) hE3 rfl rfl rfl Try.underlying22 rfl (szA (n := 32))) ?_
  simp only [Act.put, pA, pB, pC]
  refine wl_step (st_gives hE3 rfl (run_call rfl Try.call49) (HR.out _) ?_)
  intro w4 hb4 hE4
  clear hE3
  simp only [Act.put, pA, pB, pC]
  refine wl_step (st_gives hE4 rfl (run_call rfl Try.call71) (HD.out _) ?_)
  intro w5 hb5 hE5
  clear hE4
  simp only [Act.put, pA, pB, pC]
  refine wl_step (st_store (i := 0) hE5 rfl rfl rfl rfl rfl (szA (n := 8)) (by first | (simp only [ints_size, digs_length, List.length_replicate, List.length_cons, List.length_nil]; done) | (simp only [ints_size, digs_length, List.length_replicate, List.length_cons, List.length_nil, List.length_set, List.length_append]; omega) | rfl) (by first | exact ints_one _ _ | decide | simp [*]) ?_)
  intro w6 hE6
  clear hE5
  simp only [pB, pC] at hE6
  simp only [Act.put, pA, pB, pC]
  repeat ((fail_if_success with_reducible show wA ..); (fail_if_success with_reducible show wB ..); go_step)
  refine bodyPost_ret (results_cell_row rfl _ _ _ _ _ (0, 0) _ rfl (hE6.get (i := 0) rfl) Try.underlying43 rfl (szA (n := 8))) rfl ⟨rfl, hE6.below⟩
end Go.Proofs.Ytmebjoehmheknaa
