/-
  Layer 4: the number below p, and its bytes.
-/
import Derived.Test.YtmebjoehmheknaaFldE
namespace Go.Proofs.Ytmebjoehmheknaa
open Go.RowKit
set_option linter.unusedVariables false
set_option linter.unusedSimpArgs false

/-- Whether a number is p or more, as it is asked limb by limb. -/
def askF (A : List Nat) (i : Nat) : Nat := (val 2251799813685248 (A.take i) + 19) / 2251799813685248 ^ i
theorem askF_zero (A : List Nat) : askF A 0 = 19 := by simp [askF, val]
theorem askF_step {A : List Nat} {i : Nat} (h : i < A.length) : askF A (i + 1) = (A.getD i 0 + askF A i) / 2251799813685248 := by
  have hp : 0 < 2251799813685248 ^ i := Nat.pow_pos (by decide)
  unfold askF
  rw [Nat.pow_succ, ← Nat.div_div_eq_div_mul, val_take_succ _ _ _ h]
  have e : val 2251799813685248 (A.take i) + 2251799813685248 ^ i * A[i] + 19 = (val 2251799813685248 (A.take i) + 19) + 2251799813685248 ^ i * A[i] := by omega
  rw [e, Nat.add_mul_div_left _ _ hp, Nat.add_comm]
  simp [List.getD, h]
theorem askF_lt {A : List Nat} (h : ∀ i, A.getD i 0 < 2251799813685312) : ∀ k, k ≤ A.length → askF A k < 2251799813685248
  | 0, _ => by rw [askF_zero]; decide
  | k + 1, hk => by
    have h1 := h k
    have h2 := askF_lt h k (by omega)
    rw [askF_step (by omega)]
    omega
theorem Fe_val_lt {l : List Nat} (h : Fe l) : fval l < 2 * pN := by
  obtain ⟨a, b, c, d, e, rfl, ha, hb, hc, hd, he⟩ := h.open
  rw [fval5]
  unfold pN
  omega
theorem least_key {V q : Nat} (hV : V < 2 * pN) (hq : q = (V + 19) / 57896044618658097711785492504343953926634992332820282019728792003956564819968) : q ≤ 1 ∧ (V + 19 * q) % 57896044618658097711785492504343953926634992332820282019728792003956564819968 = V % pN := by
  have e : pN + 19 = 57896044618658097711785492504343953926634992332820282019728792003956564819968 := by decide
  rw [← e] at hq ⊢
  rcases Nat.lt_or_ge V pN with h | h
  · have : q = 0 := by rw [hq]; exact Nat.div_eq_of_lt (by omega)
    subst this
    rw [Nat.mul_zero, Nat.add_zero, Nat.mod_eq_of_lt h, Nat.mod_eq_of_lt (by omega)]
    exact ⟨by decide, rfl⟩
  · have : q = 1 := by
      rw [hq]
      exact Nat.div_eq_of_lt_le (by omega) (by omega)
    subst this
    have e2 : V + 19 * 1 = (V - pN) + (pN + 19) := by omega
    rw [e2, Nat.add_mod_right, Nat.mod_eq_of_lt (show V - pN < pN + 19 by omega), Nat.mod_eq_sub_mod h, Nat.mod_eq_of_lt (show V - pN < pN by omega)]
    exact ⟨by decide, rfl⟩

/-- What is added to, ahead of the last carries. -/
def raise0 (A : List Nat) (q : Nat) : List Nat := A.set 0 (A.getD 0 0 + 19 * q)
theorem raise0_val {A : List Nat} (h : A.length = 5) (q : Nat) : fval (raise0 A q) = fval A + 19 * q := by
  obtain ⟨a, b, c, d, e, rfl⟩ := five h
  show fval [a + 19 * q, b, c, d, e] = _
  rw [fval5, fval5]
  omega
/-- Inside the last carries. -/
def runF (R : List Nat) (i : Nat) : List Nat := (fillR (outF R) R i).set i (R.getD i 0 + overF R i)
theorem runF_len {R : List Nat} {i : Nat} (h : i ≤ R.length) : (runF R i).length = R.length := by rw [runF, List.length_set, fillR_len h]
theorem runF_get {R : List Nat} {i : Nat} (h : i < R.length) : (runF R i).getD i 0 = R.getD i 0 + overF R i := set_getD (by rw [fillR_len (by omega)]; exact h)
theorem runF_next {R : List Nat} {i : Nat} (h : i < R.length) : (runF R i).getD (i + 1) 0 = R.getD (i + 1) 0 := by
  rw [runF, List.getD_eq_getElem?_getD, List.getElem?_set_ne (by omega), ← List.getD_eq_getElem?_getD, fillR_ge (by omega)]
theorem runF_zero {R : List Nat} (h : 0 < R.length) : runF R 0 = R := by
  rw [runF, fillR_zero, over_zero, Nat.add_zero]
  simp [List.getD, h]
theorem runF_step {R : List Nat} {i : Nat} (h : i + 1 < R.length) : ((runF R i).set (i + 1) (R.getD (i + 1) 0 + (R.getD i 0 + overF R i) / 2251799813685248)).set i ((R.getD i 0 + overF R i) % 2251799813685248) = runF R (i + 1) := by
  obtain ⟨h1, h2⟩ := over_step (A := R) (i := i) (by omega)
  rw [← h1, ← h2, runF, runF, List.set_comm _ _ (by omega), List.set_set, fillR_set (by omega) rfl]
theorem runF_last {R : List Nat} (h : R.length = 5) : (runF R 4).set 4 ((R.getD 4 0 + overF R 4) % 2251799813685248) = digs 2251799813685248 5 (fval R) := by
  have h2 := (over_step (A := R) (i := 4) (by omega)).2
  rw [← h2, runF, List.set_set, fillR_set (by omega) rfl]
  have e := fillR_full (outF R) R
  rw [h] at e
  rw [e]
  exact digF_all (fval R)

theorem least_over {R : List Nat} (hR : ∀ x ∈ R, x < 9007199254740992) : ∀ i, i ≤ R.length → overF R i < 4294967296
  | 0, _ => by rw [over_zero]; decide
  | i + 1, hi => by
    have h1 := getD_lt hR (by decide) i
    have h2 := least_over hR i (by omega)
    rw [(over_step (by omega)).1]
    omega

set_option maxHeartbeats 4000000 in
theorem least_any {l : List Nat} (hl : Fe l) (w : World) : Gives 66 #[elem l] w (elem (digs 2251799813685248 5 (fval l % pN))) := by
  have hl5 := hl.1
  have hc1 := carry_Fe hl.1 (mem_mono hl.2 (by decide))
  have hc2 := carry_Fe hc1.1 (mem_mono hc1.2 (by decide))
  have hcA := Lib.hid (fun w => carry_any l hl.1 (mem_mono hl.2 (by decide)) w)
  have hcB := Lib.hid (fun w => carry_any (carryL l) hc1.1 (mem_mono hc1.2 (by decide)) w)
  have hv : fval (carryL (carryL l)) % pN = fval l % pN := by rw [carry_val hc1.1, carry_val hl.1]
  have hlen1 := hc1.1
  obtain ⟨A, hA⟩ : ∃ A, A = carryL (carryL l) := ⟨_, rfl⟩
  rw [← hA] at hc2 hv hcB
  have hA5 := hc2.1
  have hVlt := Fe_val_lt hc2
  obtain ⟨q, hq⟩ : ∃ q, q = askF A 5 := ⟨_, rfl⟩
  have hq5 : q = (fval A + 19) / 57896044618658097711785492504343953926634992332820282019728792003956564819968 := by
    rw [hq, askF, List.take_of_length_le (by omega)]
  obtain ⟨hq1, hq2⟩ := least_key hVlt hq5
  have hR5 : (raise0 A q).length = 5 := by rw [raise0, List.length_set, hA5]
  have hRb : ∀ x ∈ raise0 A q, x < 9007199254740992 := by
    intro x hx
    rcases List.mem_or_eq_of_mem_set hx with h | h
    · exact Nat.lt_trans (hc2.2 x h) (by decide)
    · rw [h]
      have := hc2.getD 0
      omega
  have hend : digs 2251799813685248 5 (fval (raise0 A q)) = digs 2251799813685248 5 (fval l % pN) := by
    rw [raise0_val hA5, ← hv, ← hq2]
    exact (digs_mod 2251799813685248 5 _).symm
  have Hover := Lib.hid (least_over hRb)
  have HRb := Lib.hid hRb
  have Hc2 := Lib.hid hc2
  have Hq := Lib.hid hq
  have Hend := Lib.hid hend
  obtain ⟨R, hR⟩ : ∃ R, R = raise0 A q := ⟨_, rfl⟩
  have HR := Lib.hid hR
  rw [← hR] at hR5 Hend Hover HRb
  have Hlast := Lib.hid (runF_last hR5)
  have hAb := fun i => hc2.getD i
  have HAb := Lib.hid hAb
  clear hl hc1 hc2 hA hv hVlt hq hq5 hq2 hRb hend hR hAb
  have hE0 := Env.nil w
  go_enter Try.func66, Try.ntmps66
  repeat ((fail_if_success (with_reducible show wpList _ _ _ (List.cons _ _) _ _)); (fail_if_success (with_reducible show Code.wp _ (Code.region _ _ true) _ _ _)); go_step)
  refine wl_step (st_boxA hE0 rfl rfl rfl ?_)
  intro g0 w1 hb1 hE1
  clear hE0
  simp only [Act.put, List.setIfInBounds_toArray, List.set_cons_zero, List.set_cons_succ]
  refine wl_step (st_alloc (zs := ints .u64 (List.replicate 5 0)) hE1 rfl rfl (fun w => by kernel_rfl) ?_)
  intro g1 w2 hb2 hE2
  clear hE1
  simp only [Act.put, List.setIfInBounds_toArray, List.set_cons_zero, List.set_cons_succ]
  repeat ((fail_if_success (with_reducible show wpList _ _ _ (List.cons _ _) _ _)); (fail_if_success (with_reducible show Code.wp _ (Code.region _ _ true) _ _ _)); go_step)
  refine wl_step (st_val rfl (v_load (i := 1) hE2 rfl rfl rfl Try.underlying26 rfl (sz_of (n := 5) (by kernel_rfl) (by first | (simp only [ints_size, digs_length, List.length_replicate, List.length_cons, List.length_nil]; done) | (simp only [ints_size, digs_length, List.length_replicate, List.length_cons, List.length_nil, List.length_set, List.length_append]; omega) | rfl))) ?_)
  simp only [Act.put, List.setIfInBounds_toArray, List.set_cons_zero, List.set_cons_succ]
  refine wl_step (st_gives hE2 rfl (run_call rfl Try.call62) (hcA.out _) ?_)
  intro w3 hb3 hE3
  clear hE2
  simp only [Act.put, List.setIfInBounds_toArray, List.set_cons_zero, List.set_cons_succ]
  refine wl_step (st_gives hE3 rfl (run_call rfl Try.call62) (hcB.out _) ?_)
  intro w4 hb4 hE4
  clear hE3
  simp only [Act.put, List.setIfInBounds_toArray, List.set_cons_zero, List.set_cons_succ]
  refine wl_step (st_store (i := 1) hE4 rfl rfl rfl rfl rfl (sz_of (n := 5) (by kernel_rfl) (by first | (simp only [ints_size, digs_length, List.length_replicate, List.length_cons, List.length_nil]; done) | (simp only [ints_size, digs_length, List.length_replicate, List.length_cons, List.length_nil, List.length_set, List.length_append]; omega) | rfl)) (by first | (simp only [ints_size, digs_length, List.length_replicate, List.length_cons, List.length_nil]; done) | (simp only [ints_size, digs_length, List.length_replicate, List.length_cons, List.length_nil, List.length_set, List.length_append]; omega) | rfl) (by first | exact ints_one _ _ | decide | simp [*]) ?_)
  intro w5 hE5
  clear hE4
  simp only [List.set_cons_zero, List.set_cons_succ] at hE5
  simp only [Act.put, List.setIfInBounds_toArray, List.set_cons_zero, List.set_cons_succ]
  repeat ((fail_if_success (with_reducible show wpList _ _ _ (List.cons _ _) _ _)); (fail_if_success (with_reducible show Code.wp _ (Code.region _ _ true) _ _ _)); go_step)
  refine wl_step (st_val rfl (v_moveC (.inr rfl)) ?_)
  simp only [Act.put, List.setIfInBounds_toArray, List.set_cons_zero, List.set_cons_succ]
  repeat ((fail_if_success (with_reducible show wpList _ _ _ (List.cons _ _) _ _)); (fail_if_success (with_reducible show Code.wp _ (Code.region _ _ true) _ _ _)); go_step)
  refine wl_step (st_val rfl (v_field0 (s := 4) rfl rfl Try.underlying26 rfl (by kernel_rfl) rfl) ?_)
  simp only [Act.put, List.setIfInBounds_toArray, List.set_cons_zero, List.set_cons_succ]
  refine wl_step (st_val rfl (v_load (i := 1) hE5 rfl rfl rfl Try.underlying24 rfl (sz_of (n := 5) (by kernel_rfl) (by first | (simp only [ints_size, digs_length, List.length_replicate, List.length_cons, List.length_nil]; done) | (simp only [ints_size, digs_length, List.length_replicate, List.length_cons, List.length_nil, List.length_set, List.length_append]; omega) | rfl))) ?_)
  simp only [Act.put, List.setIfInBounds_toArray, List.set_cons_zero, List.set_cons_succ]
  refine wl_step (st_val rfl (v_moveC (.inl rfl)) ?_)
  simp only [Act.put, List.setIfInBounds_toArray, List.set_cons_zero, List.set_cons_succ]
  go_wp2
  go_loopw [3, 12] (fun qv i wr => ∃ k : Nat, k ≤ 5 ∧ i = .int .i64 k ∧ qv = .int .u64 (askF A k : Nat) ∧ Env w [⟨g1, 26, ints .u64 (List.replicate 5 0)⟩, ⟨g0, 26, ints .u64 A⟩] wr) (fun _ i _ => 5 - (intOf i).toNat)
  case atStart => exact ⟨0, Nat.zero_le _, rfl, by rw [askF_zero]; rfl, hE5⟩
  case round =>
    clear hE5
    obtain ⟨k, hk, rfl, rfl, hE0⟩ := hrel
    by_cases hk5 : k < 5
    · have hak := HAb.out k
      have Hst := Lib.hid (askF_step (A := A) (i := k) (by omega))
      have hask := askF_lt HAb.out k (by omega)
      repeat ((fail_if_success (with_reducible show wpList _ _ _ (List.cons _ _) _ _)); (fail_if_success (with_reducible show Code.wp _ (Code.region _ _ true) _ _ _)); go_step)
      refine wl_step (st_val rfl (v_lss (n := 5) rfl rfl rfl) ?_)
      simp only [Act.put, List.setIfInBounds_toArray, List.set_cons_zero, List.set_cons_succ]
      repeat ((fail_if_success (with_reducible show wpList _ _ _ (List.cons _ _) _ _)); (fail_if_success (with_reducible show Code.wp _ (Code.region _ _ true) _ _ _)); go_step)
      refine wl_step (st_val rfl (v_idx rfl rfl rfl Try.underlying24 (by kernel_rfl : _ = some Try.t23) rfl Try.underlying23 (by first | assumption | simp) (by first | assumption | omega)) ?_)
      simp only [Act.put, List.setIfInBounds_toArray, List.set_cons_zero, List.set_cons_succ]
      refine wl_step (st_val rfl (v_moveT (.inr rfl) rfl) ?_)
      simp only [Act.put, List.setIfInBounds_toArray, List.set_cons_zero, List.set_cons_succ]
      repeat ((fail_if_success (with_reducible show wpList _ _ _ (List.cons _ _) _ _)); (fail_if_success (with_reducible show Code.wp _ (Code.region _ _ true) _ _ _)); go_step)
      refine wl_step (st_val rfl (v_moveT (.inl rfl) rfl) ?_)
      simp only [Act.put, List.setIfInBounds_toArray, List.set_cons_zero, List.set_cons_succ]
      refine wl_step (st_val rfl (v_moveT (.inl rfl) rfl) ?_)
      simp only [Act.put, List.setIfInBounds_toArray, List.set_cons_zero, List.set_cons_succ]
      refine wl_step (st_val rfl (v_add rfl rfl rfl (by first | exact w_u64 (by omega) | exact w_u64m _)) ?_)
      simp only [Act.put, List.setIfInBounds_toArray, List.set_cons_zero, List.set_cons_succ]
      refine wl_step (st_val rfl (v_shrC (s := 51) (d := 2251799813685248) rfl rfl rfl (by decide) (by decide)) ?_)
      simp only [Act.put, List.setIfInBounds_toArray, List.set_cons_zero, List.set_cons_succ]
      rw [← Hst.out]
      refine wl_step (st_val rfl (v_moveT (.inr rfl) rfl) ?_)
      simp only [Act.put, List.setIfInBounds_toArray, List.set_cons_zero, List.set_cons_succ]
      repeat ((fail_if_success (with_reducible show wpList _ _ _ (List.cons _ _) _ _)); (fail_if_success (with_reducible show Code.wp _ (Code.region _ _ true) _ _ _)); go_step)
      refine wl_step (st_val rfl (v_add (n := 1) rfl rfl rfl (w_i64 (by omega))) ?_)
      simp only [Act.put, List.setIfInBounds_toArray, List.set_cons_zero, List.set_cons_succ]
      refine wl_step (st_val rfl (v_moveT (.inl rfl) rfl) ?_)
      simp only [Act.put, List.setIfInBounds_toArray, List.set_cons_zero, List.set_cons_succ]
      go_wp2
      go_roundw
      case rel => exact ⟨k + 1, by omega, rfl, rfl, hE0⟩
      case measure => simp [intOf]; omega
    · have hk' : k = 5 := by omega
      subst hk'
      rw [← Hq.out]
      have ha0 := HAb.out 0
      have hst0 : Hid (A.set 0 (A.getD 0 0 + 19 * q) = R) := Lib.hid HR.out.symm
      repeat ((fail_if_success (with_reducible show wpList _ _ _ (List.cons _ _) _ _)); (fail_if_success (with_reducible show Code.wp _ (Code.region _ _ true) _ _ _)); go_step)
      refine wl_step (st_val rfl (v_lss (n := 5) rfl rfl rfl) ?_)
      simp only [Act.put, List.setIfInBounds_toArray, List.set_cons_zero, List.set_cons_succ]
      repeat ((fail_if_success (with_reducible show wpList _ _ _ (List.cons _ _) _ _)); (fail_if_success (with_reducible show Code.wp _ (Code.region _ _ true) _ _ _)); go_step)
      refine wl_step (st_val rfl (v_field0 (s := 4) rfl rfl Try.underlying26 rfl (by kernel_rfl) rfl) ?_)
      simp only [Act.put, List.setIfInBounds_toArray, List.set_cons_zero, List.set_cons_succ]
      refine wl_step (st_val rfl (v_indexA0 (j := 0) rfl rfl rfl Try.underlying24 (by kernel_rfl) (by first | assumption | omega)) ?_)
      simp only [Act.put, List.setIfInBounds_toArray, List.set_cons_zero, List.set_cons_succ]
      refine wl_step (st_val rfl (v_cell rfl rfl Try.underlying23 rfl (Env.cellv (i := 1) hE0 rfl (ints_get? _ _ _ (by first | assumption | omega | (simp; done) | (simp; omega))))) ?_)
      simp only [Act.put, List.setIfInBounds_toArray, List.set_cons_zero, List.set_cons_succ]
      refine wl_step (st_val rfl (v_moveT (.inl rfl) rfl) ?_)
      simp only [Act.put, List.setIfInBounds_toArray, List.set_cons_zero, List.set_cons_succ]
      refine wl_step (st_val rfl (v_mul (m := 19) rfl rfl rfl (by first | exact w_u64 (by omega) | exact w_u64m _)) ?_)
      simp only [Act.put, List.setIfInBounds_toArray, List.set_cons_zero, List.set_cons_succ]
      refine wl_step (st_val rfl (v_add rfl rfl rfl (by first | exact w_u64 (by omega) | exact w_u64m _)) ?_)
      simp only [Act.put, List.setIfInBounds_toArray, List.set_cons_zero, List.set_cons_succ]
      refine wl_step (st_val rfl (v_field0 (s := 4) rfl rfl Try.underlying26 rfl (by kernel_rfl) rfl) ?_)
      simp only [Act.put, List.setIfInBounds_toArray, List.set_cons_zero, List.set_cons_succ]
      refine wl_step (st_val rfl (v_indexA0 (j := 0) rfl rfl rfl Try.underlying24 (by kernel_rfl) (by first | assumption | omega)) ?_)
      simp only [Act.put, List.setIfInBounds_toArray, List.set_cons_zero, List.set_cons_succ]
      refine wl_step (st_putN (i := 1) hE0 rfl rfl rfl rfl rfl (by kernel_rfl) (by first | assumption | omega | (simp only [List.length_set, List.length_replicate]; first | assumption | omega)) ?_)
      intro w1 hE1
      clear hE0
      simp only [List.set_cons_zero, List.set_cons_succ] at hE1
      simp only [Act.put, List.setIfInBounds_toArray, List.set_cons_zero, List.set_cons_succ]
      repeat ((fail_if_success (with_reducible show wpList _ _ _ (List.cons _ _) _ _)); (fail_if_success (with_reducible show Code.wp _ (Code.region _ _ true) _ _ _)); go_step)
      refine wl_step (st_val rfl (v_moveC (.inr rfl)) ?_)
      simp only [Act.put, List.setIfInBounds_toArray, List.set_cons_zero, List.set_cons_succ]
      rw [hst0.out] at hE1
      go_wp2
      go_loopw [6] (fun i wr => ∃ k : Nat, k ≤ 4 ∧ i = .int .i64 k ∧ Env w [⟨g1, 26, ints .u64 (List.replicate 5 0)⟩, ⟨g0, 26, ints .u64 (runF R k)⟩] wr) (fun i _ => 5 - (intOf i).toNat)
      case atStart => exact ⟨0, Nat.zero_le _, rfl, by rw [runF_zero (by omega)]; exact hE1⟩
      case round =>
        clear hE1 hk hk5
        obtain ⟨k, hk, rfl, hE0⟩ := hrel
        have hX : (runF R k).length = 5 := by rw [runF_len (by omega), hR5]
        have hkR : k < R.length := by omega
        have hget := runF_get hkR
        have hov := Hover.out k (by omega)
        have hrk := getD_lt HRb.out (by decide) k
        have hrk1 := getD_lt HRb.out (by decide) (k + 1)
        have Hget := Lib.hid hget
        clear hget
        by_cases hk4 : k < 4
        · have Hnext := Lib.hid (runF_next hkR)
          have Hstep := Lib.hid (runF_step (R := R) (i := k) (by omega))
          have Hk : ∀ v, ((runF R k).set (k + 1) v).getD k 0 = R.getD k 0 + overF R k := fun v => by
            rw [List.getD_eq_getElem?_getD, List.getElem?_set_ne (by omega), ← List.getD_eq_getElem?_getD]
            exact Hget.out
          have HK := Lib.hid Hk
          clear Hk
          repeat ((fail_if_success (with_reducible show wpList _ _ _ (List.cons _ _) _ _)); (fail_if_success (with_reducible show Code.wp _ (Code.region _ _ true) _ _ _)); go_step)
          refine wl_step (st_val rfl (v_moveT (.inl rfl) rfl) ?_)
          simp only [Act.put, List.setIfInBounds_toArray, List.set_cons_zero, List.set_cons_succ]
          refine wl_step (st_val rfl (v_add (n := 1) rfl rfl rfl (w_i64 (by omega))) ?_)
          simp only [Act.put, List.setIfInBounds_toArray, List.set_cons_zero, List.set_cons_succ]
          refine wl_step (st_val rfl (v_lss (n := 5) rfl rfl rfl) ?_)
          simp only [Act.put, List.setIfInBounds_toArray, List.set_cons_zero, List.set_cons_succ]
          repeat ((fail_if_success (with_reducible show wpList _ _ _ (List.cons _ _) _ _)); (fail_if_success (with_reducible show Code.wp _ (Code.region _ _ true) _ _ _)); go_step)
          refine wp_region_B (n := 14) 13 (by kernel_rfl) rfl hE0 ?_
          intro w1 hb1 hE1
          clear hE0
          refine wpB_take (i := 0) (by kernel_rfl) rfl (by kernel_rfl) (fun _ _ _ h => h) rfl (v_moveT (.inl rfl) rfl) ?_
          simp only [Act.put, List.setIfInBounds_toArray, List.set_cons_zero, List.set_cons_succ]
          refine wpB_take (i := 1) (by kernel_rfl) rfl (by kernel_rfl) (fun _ _ _ h => h) rfl (v_add (n := 1) rfl rfl rfl (w_i64 (by omega))) ?_
          simp only [Act.put, List.setIfInBounds_toArray, List.set_cons_zero, List.set_cons_succ]
          refine wpB_take (i := 2) (by kernel_rfl) rfl (by kernel_rfl) (fun _ _ _ h => h) rfl (v_field0 (s := 4) rfl rfl Try.underlying26 rfl (by kernel_rfl) rfl) ?_
          simp only [Act.put, List.setIfInBounds_toArray, List.set_cons_zero, List.set_cons_succ]
          refine wpB_take (i := 3) (by kernel_rfl) rfl (by kernel_rfl) (fun _ _ _ h => h) rfl (v_indexA0 rfl rfl rfl Try.underlying24 (by kernel_rfl) (by first | assumption | omega)) ?_
          simp only [Act.put, List.setIfInBounds_toArray, List.set_cons_zero, List.set_cons_succ]
          refine wpB_take (i := 4) (by kernel_rfl) rfl (by kernel_rfl) (fun _ _ _ h => h) rfl (v_cell rfl rfl Try.underlying23 rfl (Env.cellv (i := 1) hE1 rfl (ints_get? _ _ _ (by first | assumption | omega | (simp; done) | (simp; omega))))) ?_
          simp only [Act.put, List.setIfInBounds_toArray, List.set_cons_zero, List.set_cons_succ]
          rw [Hnext.out]
          refine wpB_take (i := 5) (by kernel_rfl) rfl (by kernel_rfl) (fun _ _ _ h => h) rfl (v_moveT (.inl rfl) rfl) ?_
          simp only [Act.put, List.setIfInBounds_toArray, List.set_cons_zero, List.set_cons_succ]
          refine wpB_take (i := 6) (by kernel_rfl) rfl (by kernel_rfl) (fun _ _ _ h => h) rfl (v_field0 (s := 4) rfl rfl Try.underlying26 rfl (by kernel_rfl) rfl) ?_
          simp only [Act.put, List.setIfInBounds_toArray, List.set_cons_zero, List.set_cons_succ]
          refine wpB_take (i := 7) (by kernel_rfl) rfl (by kernel_rfl) (fun _ _ _ h => h) rfl (v_indexA0 rfl rfl rfl Try.underlying24 (by kernel_rfl) (by first | assumption | omega)) ?_
          simp only [Act.put, List.setIfInBounds_toArray, List.set_cons_zero, List.set_cons_succ]
          refine wpB_take (i := 8) (by kernel_rfl) rfl (by kernel_rfl) (fun _ _ _ h => h) rfl (v_cell rfl rfl Try.underlying23 rfl (Env.cellv (i := 1) hE1 rfl (ints_get? _ _ _ (by first | assumption | omega | (simp; done) | (simp; omega))))) ?_
          simp only [Act.put, List.setIfInBounds_toArray, List.set_cons_zero, List.set_cons_succ]
          rw [Hget.out]
          refine wpB_take (i := 9) (by kernel_rfl) rfl (by kernel_rfl) (fun _ _ _ h => h) rfl (v_shrC (s := 51) (d := 2251799813685248) rfl rfl rfl (by decide) (by decide)) ?_
          simp only [Act.put, List.setIfInBounds_toArray, List.set_cons_zero, List.set_cons_succ]
          refine wpB_take (i := 10) (by kernel_rfl) rfl (by kernel_rfl) (fun _ _ _ h => h) rfl (v_add rfl rfl rfl (by first | exact w_u64 (by omega) | exact w_u64m _)) ?_
          simp only [Act.put, List.setIfInBounds_toArray, List.set_cons_zero, List.set_cons_succ]
          refine wpB_take (i := 11) (by kernel_rfl) rfl (by kernel_rfl) (fun _ _ _ h => h) rfl (v_field0 (s := 4) rfl rfl Try.underlying26 rfl (by kernel_rfl) rfl) ?_
          simp only [Act.put, List.setIfInBounds_toArray, List.set_cons_zero, List.set_cons_succ]
          refine wpB_take (i := 12) (by kernel_rfl) rfl (by kernel_rfl) (fun _ _ _ h => h) rfl (v_indexA0 rfl rfl rfl Try.underlying24 (by kernel_rfl) (by first | assumption | omega)) ?_
          simp only [Act.put, List.setIfInBounds_toArray, List.set_cons_zero, List.set_cons_succ]
          refine wpB_step (i := 13) (by kernel_rfl) rfl (st_putN (i := 1) hE1 rfl rfl rfl rfl rfl (by kernel_rfl) (by first | assumption | omega | (simp only [List.length_set, List.length_replicate]; first | assumption | omega)) ?_)
          intro w2 hE2
          clear hE1
          simp only [List.set_cons_zero, List.set_cons_succ] at hE2
          refine ⟨fun h => absurd h (by decide), ?_⟩
          simp only [Act.put, List.setIfInBounds_toArray, List.set_cons_zero, List.set_cons_succ]
          refine wpB_done (by kernel_rfl) ?_ _
          repeat ((fail_if_success (with_reducible show wpList _ _ _ (List.cons _ _) _ _)); (fail_if_success (with_reducible show Code.wp _ (Code.region _ _ true) _ _ _)); go_step)
          refine wl_step (st_val rfl (v_moveT (.inl rfl) rfl) ?_)
          simp only [Act.put, List.setIfInBounds_toArray, List.set_cons_zero, List.set_cons_succ]
          refine wl_step (st_val rfl (v_field0 (s := 4) rfl rfl Try.underlying26 rfl (by kernel_rfl) rfl) ?_)
          simp only [Act.put, List.setIfInBounds_toArray, List.set_cons_zero, List.set_cons_succ]
          refine wl_step (st_val rfl (v_indexA0 rfl rfl rfl Try.underlying24 (by kernel_rfl) (by first | assumption | omega)) ?_)
          simp only [Act.put, List.setIfInBounds_toArray, List.set_cons_zero, List.set_cons_succ]
          refine wl_step (st_val rfl (v_cell rfl rfl Try.underlying23 rfl (Env.cellv (i := 1) hE2 rfl (ints_get? _ _ _ (by first | assumption | omega | (simp; done) | (simp; omega))))) ?_)
          simp only [Act.put, List.setIfInBounds_toArray, List.set_cons_zero, List.set_cons_succ]
          rw [HK.out]
          refine wl_step (st_val rfl (v_mask (c := 2251799813685247) (s := 51) (d := 2251799813685248) rfl rfl rfl (by decide) (by decide) rfl (by simp only [IntKind.bits]; omega) (by decide)) ?_)
          simp only [Act.put, List.setIfInBounds_toArray, List.set_cons_zero, List.set_cons_succ]
          refine wl_step (st_val rfl (v_field0 (s := 4) rfl rfl Try.underlying26 rfl (by kernel_rfl) rfl) ?_)
          simp only [Act.put, List.setIfInBounds_toArray, List.set_cons_zero, List.set_cons_succ]
          refine wl_step (st_val rfl (v_indexA0 rfl rfl rfl Try.underlying24 (by kernel_rfl) (by first | assumption | omega)) ?_)
          simp only [Act.put, List.setIfInBounds_toArray, List.set_cons_zero, List.set_cons_succ]
          refine wl_step (st_putN (i := 1) hE2 rfl rfl rfl rfl rfl (by kernel_rfl) (by first | assumption | omega | (simp only [List.length_set, List.length_replicate]; first | assumption | omega)) ?_)
          intro w3 hE3
          clear hE2
          simp only [List.set_cons_zero, List.set_cons_succ] at hE3
          simp only [Act.put, List.setIfInBounds_toArray, List.set_cons_zero, List.set_cons_succ]
          repeat ((fail_if_success (with_reducible show wpList _ _ _ (List.cons _ _) _ _)); (fail_if_success (with_reducible show Code.wp _ (Code.region _ _ true) _ _ _)); go_step)
          refine wl_step (st_val rfl (v_moveT (.inl rfl) rfl) ?_)
          simp only [Act.put, List.setIfInBounds_toArray, List.set_cons_zero, List.set_cons_succ]
          refine wl_step (st_val rfl (v_add (n := 1) rfl rfl rfl (w_i64 (by omega))) ?_)
          simp only [Act.put, List.setIfInBounds_toArray, List.set_cons_zero, List.set_cons_succ]
          refine wl_step (st_val rfl (v_moveT (.inr rfl) rfl) ?_)
          simp only [Act.put, List.setIfInBounds_toArray, List.set_cons_zero, List.set_cons_succ]
          rw [Hstep.out] at hE3
          go_wp2
          go_roundw
          case rel => exact ⟨k + 1, by omega, rfl, hE3⟩
          case measure => simp [intOf]; omega
        · have hk' : k = 4 := by omega
          subst hk'
          have hdl : (digs 2251799813685248 5 (fval l % pN)).length = 5 := digs_length _ _ _
          repeat ((fail_if_success (with_reducible show wpList _ _ _ (List.cons _ _) _ _)); (fail_if_success (with_reducible show Code.wp _ (Code.region _ _ true) _ _ _)); go_step)
          refine wl_step (st_val rfl (v_moveT (.inl rfl) rfl) ?_)
          simp only [Act.put, List.setIfInBounds_toArray, List.set_cons_zero, List.set_cons_succ]
          refine wl_step (st_val rfl (v_add (n := 1) rfl rfl rfl (w_i64 (by omega))) ?_)
          simp only [Act.put, List.setIfInBounds_toArray, List.set_cons_zero, List.set_cons_succ]
          refine wl_step (st_val rfl (v_lss (n := 5) rfl rfl rfl) ?_)
          simp only [Act.put, List.setIfInBounds_toArray, List.set_cons_zero, List.set_cons_succ]
          repeat ((fail_if_success (with_reducible show wpList _ _ _ (List.cons _ _) _ _)); (fail_if_success (with_reducible show Code.wp _ (Code.region _ _ true) _ _ _)); go_step)
          refine wl_step (st_val rfl (v_field0 (s := 4) rfl rfl Try.underlying26 rfl (by kernel_rfl) rfl) ?_)
          simp only [Act.put, List.setIfInBounds_toArray, List.set_cons_zero, List.set_cons_succ]
          refine wl_step (st_val rfl (v_indexA0 (j := 4) rfl rfl rfl Try.underlying24 (by kernel_rfl) (by first | assumption | omega)) ?_)
          simp only [Act.put, List.setIfInBounds_toArray, List.set_cons_zero, List.set_cons_succ]
          refine wl_step (st_val rfl (v_cell rfl rfl Try.underlying23 rfl (Env.cellv (i := 1) hE0 rfl (ints_get? _ _ _ (by first | assumption | omega | (simp; done) | (simp; omega))))) ?_)
          simp only [Act.put, List.setIfInBounds_toArray, List.set_cons_zero, List.set_cons_succ]
          rw [Hget.out]
          refine wl_step (st_val rfl (v_mask (c := 2251799813685247) (s := 51) (d := 2251799813685248) rfl rfl rfl (by decide) (by decide) rfl (by simp only [IntKind.bits]; omega) (by decide)) ?_)
          simp only [Act.put, List.setIfInBounds_toArray, List.set_cons_zero, List.set_cons_succ]
          refine wl_step (st_val rfl (v_field0 (s := 4) rfl rfl Try.underlying26 rfl (by kernel_rfl) rfl) ?_)
          simp only [Act.put, List.setIfInBounds_toArray, List.set_cons_zero, List.set_cons_succ]
          refine wl_step (st_val rfl (v_indexA0 (j := 4) rfl rfl rfl Try.underlying24 (by kernel_rfl) (by first | assumption | omega)) ?_)
          simp only [Act.put, List.setIfInBounds_toArray, List.set_cons_zero, List.set_cons_succ]
          refine wl_step (st_putN (i := 1) hE0 rfl rfl rfl rfl rfl (by kernel_rfl) (by first | assumption | omega | (simp only [List.length_set, List.length_replicate]; first | assumption | omega)) ?_)
          intro w1 hE1
          clear hE0
          simp only [List.set_cons_zero, List.set_cons_succ] at hE1
          simp only [Act.put, List.setIfInBounds_toArray, List.set_cons_zero, List.set_cons_succ]
          rw [Hlast.out, Hend.out] at hE1
          repeat ((fail_if_success (with_reducible show wpList _ _ _ (List.cons _ _) _ _)); (fail_if_success (with_reducible show Code.wp _ (Code.region _ _ true) _ _ _)); go_step)
          refine wl_step (st_val rfl (v_load (i := 1) hE1 rfl rfl rfl Try.underlying26 rfl (sz_of (n := 5) (by kernel_rfl) (by first | (simp only [ints_size, digs_length, List.length_replicate, List.length_cons, List.length_nil]; done) | (simp only [ints_size, digs_length, List.length_replicate, List.length_cons, List.length_nil, List.length_set, List.length_append]; omega) | rfl))) ?_)
          simp only [Act.put, List.setIfInBounds_toArray, List.set_cons_zero, List.set_cons_succ]
          refine wl_step (st_store (i := 0) hE1 rfl rfl rfl rfl rfl (sz_of (n := 5) (by kernel_rfl) (by first | (simp only [ints_size, digs_length, List.length_replicate, List.length_cons, List.length_nil]; done) | (simp only [ints_size, digs_length, List.length_replicate, List.length_cons, List.length_nil, List.length_set, List.length_append]; omega) | rfl)) (by first | (simp only [ints_size, digs_length, List.length_replicate, List.length_cons, List.length_nil]; done) | (simp only [ints_size, digs_length, List.length_replicate, List.length_cons, List.length_nil, List.length_set, List.length_append]; omega) | rfl) (by first | exact ints_one _ _ | decide | simp [*]) ?_)
          intro w2 hE2
          clear hE1
          simp only [List.set_cons_zero, List.set_cons_succ] at hE2
          simp only [Act.put, List.setIfInBounds_toArray, List.set_cons_zero, List.set_cons_succ]
          repeat ((fail_if_success (with_reducible show wpList _ _ _ (List.cons _ _) _ _)); (fail_if_success (with_reducible show Code.wp _ (Code.region _ _ true) _ _ _)); go_step)
          refine bodyPost_ret (results_cell_row rfl _ _ _ _ _ (0, 0) _ rfl (hE2.get (i := 0) rfl) Try.underlying26 rfl (sz_of (n := 5) (by kernel_rfl) (by first | (simp only [ints_size, digs_length, List.length_replicate, List.length_cons, List.length_nil]; done) | (simp only [ints_size, digs_length, List.length_replicate, List.length_cons, List.length_nil, List.length_set, List.length_append]; omega) | rfl))) rfl ⟨rfl, hE2.below⟩
end Go.Proofs.Ytmebjoehmheknaa
