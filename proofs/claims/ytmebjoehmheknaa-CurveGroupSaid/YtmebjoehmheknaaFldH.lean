/-
  Layer 4: whether a number is odd, 0; whether two are the same; whether bytes are those of a number below p.
-/
import Derived.Test.YtmebjoehmheknaaFldG
namespace Go.Proofs.Ytmebjoehmheknaa
open Go.RowKit
set_option linter.unusedVariables false
set_option linter.unusedSimpArgs false

section
variable {a : Act} {w : World} {o : Oper}
theorem v_eqElem {t' : TypeId} {x y : Operand} {l m : List Nat} (ho : o.op = .binOp .eql 26 x y t') (hx : a.eval x = .agg (ints .u64 l)) (hy : a.eval y = .agg (ints .u64 m)) (hl : l.length = 5) (hm : m.length = 5) : Val Try.prog o a (.bool (decide (l = m))) w :=
  v_eqAgg ho hx hy (Try.eqGuardType26) fun w => run_equalIn_one 9997 (u := 24) (f := ⟨_, 24, 0, _, _, _, _⟩) Try.underlying26 rfl (by kernel_rfl) (by decide) rfl rfl Try.underlying24 Try.underlying23 Try.isAgg24 Try.sizeOf24 Try.sizeOf23 hl hm w
theorem v_eq32 {t' : TypeId} {x y : Operand} {l m : List Nat} (ho : o.op = .binOp .eql 22 x y t') (hx : a.eval x = .agg (ints .u8 l)) (hy : a.eval y = .agg (ints .u8 m)) (hl : l.length = 32) (hm : m.length = 32) : Val Try.prog o a (.bool (decide (l = m))) w :=
  v_eqInts ho hx hy Try.eqGuardType22 Try.underlying22 Try.underlying5 Try.sizeOf5 hl hm
theorem v_eq32s {t' : TypeId} {x y : Operand} {l : List Nat} (ho : o.op = .binOp .eql 22 x y t') (hx : a.eval x = .agg (ints .u8 l)) (hy : a.eval y = .agg (ints .u8 l)) (hl : l.length = 32) : Val Try.prog o a (.bool true) w :=
  v_eqIntsS ho hx hy Try.eqGuardType22 Try.underlying22 Try.underlying5 Try.sizeOf5 hl
end

theorem digs_eq {m n : Nat} (hm : m < pN) (hn : n < pN) : decide (digs 2251799813685248 5 m = digs 2251799813685248 5 n) = decide (m = n) := by
  apply decide_eq_decide.2
  refine ⟨fun h => ?_, fun h => by rw [h]⟩
  have := congrArg (val 2251799813685248) h
  rw [val_digs, val_digs, Nat.mod_eq_of_lt (Nat.lt_trans hm (by decide)), Nat.mod_eq_of_lt (Nat.lt_trans hn (by decide))] at this
  exact this
theorem mod_p (n : Nat) : n % pN < pN := Nat.mod_lt _ (by decide)

set_option maxHeartbeats 1000000 in
theorem Odd_any {l : List Nat} (hl : Fe l) (w : World) : Gives 42 #[elem l] w (.bool (decide (fval l % pN % 2 = 1))) := by
  have hleast := Lib.hid (fun w => least_any hl w)
  have hl5 := hl.1
  obtain ⟨N, hNe⟩ : ∃ N, N = fval l % pN := ⟨_, rfl⟩
  rw [← hNe] at hleast ⊢
  have hlim : (digs 2251799813685248 5 N).length = 5 := digs_length _ _ _
  have Hx := Lib.hid (digs_getD 2251799813685248 5 N 0 (by decide))
  have hx64 : N / 2251799813685248 ^ 0 % 2251799813685248 < 18446744073709551616 := Nat.lt_trans (Nat.mod_lt _ (by decide)) (by decide)
  have hm : N / 2251799813685248 ^ 0 % 2251799813685248 % 2 = N % 2 := by
    rw [Nat.pow_zero, Nat.div_one]
    exact Nat.mod_mod_of_dvd _ (by decide)
  have Hm := Lib.hid hm
  clear hl hNe hm
  have hE0 := Env.nil w
  go_enter Try.func42, Try.ntmps42
  repeat ((fail_if_success (with_reducible show wpList _ _ _ (List.cons _ _) _ _)); (fail_if_success (with_reducible show Code.wp _ (Code.region _ _ true) _ _ _)); go_step)
  refine wl_step (st_boxA hE0 rfl rfl rfl ?_)
  intro g0 w1 hb1 hE1
  clear hE0
  simp only [Act.put, List.setIfInBounds_toArray, List.set_cons_zero, List.set_cons_succ]
  refine wl_step (st_val rfl (v_moveC (.inr rfl)) ?_)
  simp only [Act.put, List.setIfInBounds_toArray, List.set_cons_zero, List.set_cons_succ]
  repeat ((fail_if_success (with_reducible show wpList _ _ _ (List.cons _ _) _ _)); (fail_if_success (with_reducible show Code.wp _ (Code.region _ _ true) _ _ _)); go_step)
  refine wl_step (st_val rfl (v_load (i := 0) hE1 rfl rfl rfl Try.underlying26 rfl (sz_of (n := 5) (by kernel_rfl) (by first | (simp only [ints_size, digs_length, List.length_replicate, List.length_cons, List.length_nil]; done) | (simp only [ints_size, digs_length, List.length_replicate, List.length_cons, List.length_nil, List.length_set, List.length_append]; omega) | rfl))) ?_)
  simp only [Act.put, List.setIfInBounds_toArray, List.set_cons_zero, List.set_cons_succ]
  refine wl_step (st_gives hE1 rfl (run_call rfl Try.call66) (hleast.out _) ?_)
  intro w2 hb2 hE2
  clear hE1
  simp only [Act.put, List.setIfInBounds_toArray, List.set_cons_zero, List.set_cons_succ]
  refine wl_step (st_val rfl (v_fieldW (n := 5) rfl rfl Try.underlying26 rfl rfl (Try.isAgg24) (by kernel_rfl) (by first | assumption | rfl)) ?_)
  simp only [Act.put, List.setIfInBounds_toArray, List.set_cons_zero, List.set_cons_succ]
  refine wl_step (st_val rfl (v_idx (j := 0) rfl rfl rfl Try.underlying24 (by kernel_rfl : _ = some Try.t23) rfl Try.underlying23 (by first | assumption | simp) (by first | assumption | omega)) ?_)
  simp only [Act.put, List.setIfInBounds_toArray, List.set_cons_zero, List.set_cons_succ]
  rw [Hx.out]
  refine wl_step (st_val rfl (v_mask (c := 1) (s := 1) (d := 2) rfl rfl rfl (by decide) (by decide) rfl (by simp only [IntKind.bits]; omega) (by decide)) ?_)
  simp only [Act.put, List.setIfInBounds_toArray, List.set_cons_zero, List.set_cons_succ]
  rw [Hm.out]
  refine wl_step (st_val rfl (v_eql (n := 1) rfl rfl rfl) ?_)
  simp only [Act.put, List.setIfInBounds_toArray, List.set_cons_zero, List.set_cons_succ]
  refine wl_step (st_val rfl (v_moveT (.inr rfl) rfl) ?_)
  simp only [Act.put, List.setIfInBounds_toArray, List.set_cons_zero, List.set_cons_succ]
  repeat ((fail_if_success (with_reducible show wpList _ _ _ (List.cons _ _) _ _)); (fail_if_success (with_reducible show Code.wp _ (Code.region _ _ true) _ _ _)); go_step)
  go_returns
  exact ⟨rfl, hE2.below⟩
set_option maxHeartbeats 1000000 in
theorem Zero_any {l : List Nat} (hl : Fe l) (w : World) : Gives 47 #[elem l] w (.bool (decide (fval l % pN = 0))) := by
  have hleast := Lib.hid (fun w => least_any hl w)
  have hl5 := hl.1
  have he := digs_eq (mod_p (fval l)) (show 0 < pN by decide)
  rw [show digs 2251799813685248 5 0 = List.replicate 5 0 by decide] at he
  have He := Lib.hid he
  have hdl : (digs 2251799813685248 5 (fval l % pN)).length = 5 := digs_length _ _ _
  clear hl he
  have hE0 := Env.nil w
  go_enter Try.func47, Try.ntmps47
  repeat ((fail_if_success (with_reducible show wpList _ _ _ (List.cons _ _) _ _)); (fail_if_success (with_reducible show Code.wp _ (Code.region _ _ true) _ _ _)); go_step)
  refine wl_step (st_boxA hE0 rfl rfl rfl ?_)
  intro g0 w1 hb1 hE1
  clear hE0
  simp only [Act.put, List.setIfInBounds_toArray, List.set_cons_zero, List.set_cons_succ]
  refine wl_step (st_val rfl (v_moveC (.inr rfl)) ?_)
  simp only [Act.put, List.setIfInBounds_toArray, List.set_cons_zero, List.set_cons_succ]
  repeat ((fail_if_success (with_reducible show wpList _ _ _ (List.cons _ _) _ _)); (fail_if_success (with_reducible show Code.wp _ (Code.region _ _ true) _ _ _)); go_step)
  refine wl_step (st_val rfl (v_load (i := 0) hE1 rfl rfl rfl Try.underlying26 rfl (sz_of (n := 5) (by kernel_rfl) (by first | (simp only [ints_size, digs_length, List.length_replicate, List.length_cons, List.length_nil]; done) | (simp only [ints_size, digs_length, List.length_replicate, List.length_cons, List.length_nil, List.length_set, List.length_append]; omega) | rfl))) ?_)
  simp only [Act.put, List.setIfInBounds_toArray, List.set_cons_zero, List.set_cons_succ]
  refine wl_step (st_gives hE1 rfl (run_call rfl Try.call66) (hleast.out _) ?_)
  intro w2 hb2 hE2
  clear hE1
  simp only [Act.put, List.setIfInBounds_toArray, List.set_cons_zero, List.set_cons_succ]
  refine wl_step (st_val rfl (v_built (k := .u64) (l := List.replicate 5 0) rfl (fun w => by kernel_rfl)) ?_)
  simp only [Act.put, List.setIfInBounds_toArray, List.set_cons_zero, List.set_cons_succ]
  refine wl_step (st_val rfl (v_eqElem rfl rfl rfl hdl rfl) ?_)
  simp only [Act.put, List.setIfInBounds_toArray, List.set_cons_zero, List.set_cons_succ]
  rw [He.out]
  refine wl_step (st_val rfl (v_moveT (.inr rfl) rfl) ?_)
  simp only [Act.put, List.setIfInBounds_toArray, List.set_cons_zero, List.set_cons_succ]
  repeat ((fail_if_success (with_reducible show wpList _ _ _ (List.cons _ _) _ _)); (fail_if_success (with_reducible show Code.wp _ (Code.region _ _ true) _ _ _)); go_step)
  go_returns
  exact ⟨rfl, hE2.below⟩
set_option maxHeartbeats 1000000 in
theorem Same_any {l m : List Nat} (hl : Fe l) (hm : Fe m) (w : World) : Gives 37 #[elem l, elem m] w (.bool (decide (fval l % pN = fval m % pN))) := by
  have hA := Lib.hid (fun w => least_any hl w)
  have hB := Lib.hid (fun w => least_any hm w)
  have hl5 := hl.1
  have hm5 := hm.1
  have He := Lib.hid (digs_eq (mod_p (fval l)) (mod_p (fval m)))
  have hdl : (digs 2251799813685248 5 (fval l % pN)).length = 5 := digs_length _ _ _
  have hdm : (digs 2251799813685248 5 (fval m % pN)).length = 5 := digs_length _ _ _
  clear hl hm
  have hE0 := Env.nil w
  go_enter Try.func37, Try.ntmps37
  repeat ((fail_if_success (with_reducible show wpList _ _ _ (List.cons _ _) _ _)); (fail_if_success (with_reducible show Code.wp _ (Code.region _ _ true) _ _ _)); go_step)
  refine wl_step (st_boxA hE0 rfl rfl rfl ?_)
  intro g0 w1 hb1 hE1
  clear hE0
  simp only [Act.put, List.setIfInBounds_toArray, List.set_cons_zero, List.set_cons_succ]
  refine wl_step (st_boxA hE1 rfl rfl rfl ?_)
  intro g1 w2 hb2 hE2
  clear hE1
  simp only [Act.put, List.setIfInBounds_toArray, List.set_cons_zero, List.set_cons_succ]
  refine wl_step (st_val rfl (v_moveC (.inr rfl)) ?_)
  simp only [Act.put, List.setIfInBounds_toArray, List.set_cons_zero, List.set_cons_succ]
  repeat ((fail_if_success (with_reducible show wpList _ _ _ (List.cons _ _) _ _)); (fail_if_success (with_reducible show Code.wp _ (Code.region _ _ true) _ _ _)); go_step)
  refine wp_region_B (n := 6) 5 (by kernel_rfl) rfl hE2 ?_
  intro w3 hb3 hE3
  clear hE2
  refine wpB_take (i := 0) (by kernel_rfl) rfl (by kernel_rfl) (fun _ _ _ h => h) rfl (v_load (i := 1) hE3 rfl rfl rfl Try.underlying26 rfl (sz_of (n := 5) (by kernel_rfl) (by first | (simp only [ints_size, digs_length, List.length_replicate, List.length_cons, List.length_nil]; done) | (simp only [ints_size, digs_length, List.length_replicate, List.length_cons, List.length_nil, List.length_set, List.length_append]; omega) | rfl))) ?_
  simp only [Act.put, List.setIfInBounds_toArray, List.set_cons_zero, List.set_cons_succ]
  refine wpB_take (i := 2) (by kernel_rfl) rfl (by kernel_rfl) (fun _ _ _ h => h) rfl (v_load (i := 0) hE3 rfl rfl rfl Try.underlying26 rfl (sz_of (n := 5) (by kernel_rfl) (by first | (simp only [ints_size, digs_length, List.length_replicate, List.length_cons, List.length_nil]; done) | (simp only [ints_size, digs_length, List.length_replicate, List.length_cons, List.length_nil, List.length_set, List.length_append]; omega) | rfl))) ?_
  simp only [Act.put, List.setIfInBounds_toArray, List.set_cons_zero, List.set_cons_succ]
  refine wpB_step (i := 1) (by kernel_rfl) rfl (st_gives hE3 rfl (run_call rfl Try.call66) (hA.out _) ?_)
  intro w4 hb4 hE4
  clear hE3
  refine ⟨fun _ => hb4, ?_⟩
  simp only [Act.put, List.setIfInBounds_toArray, List.set_cons_zero, List.set_cons_succ]
  refine wpB_step (i := 3) (by kernel_rfl) rfl (st_gives hE4 rfl (run_call rfl Try.call66) (hB.out _) ?_)
  intro w5 hb5 hE5
  clear hE4
  refine ⟨fun _ => hb5, ?_⟩
  simp only [Act.put, List.setIfInBounds_toArray, List.set_cons_zero, List.set_cons_succ]
  refine wpB_take (i := 4) (by kernel_rfl) rfl (by kernel_rfl) (fun _ _ _ h => h) rfl (v_eqElem rfl rfl rfl hdl hdm) ?_
  simp only [Act.put, List.setIfInBounds_toArray, List.set_cons_zero, List.set_cons_succ]
  rw [He.out]
  refine wpB_step (i := 5) (by kernel_rfl) rfl (st_val rfl (v_moveT (.inr rfl) rfl) ?_)
  refine ⟨fun _ => Below.refl _ _, ?_⟩
  simp only [Act.put, List.setIfInBounds_toArray, List.set_cons_zero, List.set_cons_succ]
  refine wpB_done (by kernel_rfl) ?_ _
  repeat ((fail_if_success (with_reducible show wpList _ _ _ (List.cons _ _) _ _)); (fail_if_success (with_reducible show Code.wp _ (Code.region _ _ true) _ _ _)); go_step)
  go_returns
  exact ⟨rfl, hE5.below⟩

theorem canon_key {b : List Nat} (hb : b.length = 32) (db : Digs 256 b) (h : b.getD 31 0 < 128) : val 256 b < 57896044618658097711785492504343953926634992332820282019728792003956564819968 := by
  have h1 := val_div_mod db (by decide) 31
  have h2 := val_lt db
  rw [hb] at h2
  rw [← h1] at h
  have e : (256 : Nat) ^ 32 = 256 ^ 31 * 256 := rfl
  have h3 : val 256 b / 256 ^ 31 < 256 := by
    rw [Nat.div_lt_iff_lt_mul (Nat.pow_pos (by decide)), Nat.mul_comm]
    exact h2
  rw [Nat.mod_eq_of_lt h3, Nat.div_lt_iff_lt_mul (Nat.pow_pos (by decide))] at h
  exact h
theorem canon_key' {b : List Nat} (hb : b.length = 32) (db : Digs 256 b) (h : ¬ b.getD 31 0 < 128) : ¬ val 256 b < pN := by
  have h1 := val_div_mod db (by decide) 31
  rw [← h1] at h
  intro hlt
  apply h
  refine Nat.lt_of_le_of_lt (Nat.mod_le _ _) ?_
  rw [Nat.div_lt_iff_lt_mul (Nat.pow_pos (by decide))]
  exact Nat.lt_trans hlt (by decide)

set_option maxHeartbeats 1000000 in
theorem Canonical_any {b : List Nat} (hb : b.length = 32) (db : Digs 256 b) (w : World) : Gives 44 #[.agg (ints .u8 b)] w (.bool (decide (val 256 b < pN))) := by
  have HO := Lib.hid (fun w => Of_any b hb db w)
  have HB := Lib.hid (fun w => Bytes_any (digs_Fe (val 256 b)) w)
  by_cases h : b.getD 31 0 < 128
  · have hv := canon_key hb db h
    have hf : fval (digs 2251799813685248 5 (val 256 b)) = val 256 b := by rw [digs_fval, Nat.mod_eq_of_lt hv]
    rw [hf] at HB
    have he : decide (digs 256 32 (val 256 b % pN) = b) = decide (val 256 b < pN) := by
      apply decide_eq_decide.2
      constructor
      · intro h
        have h2 := congrArg (val 256) h
        rw [val_digs, Nat.mod_eq_of_lt (Nat.lt_trans (mod_p _) (by decide))] at h2
        rw [← h2]
        exact mod_p _
      · intro h
        rw [Nat.mod_eq_of_lt h, digs_val' db hb]
    have He := Lib.hid he
    have hdl : (digs 256 32 (val 256 b % pN)).length = 32 := digs_length _ _ _
    have hd := Lib.hid (decide_eq_true h)
    clear hv hf he db
    have hE0 := Env.nil w
    go_enter Try.func44, Try.ntmps44
    repeat ((fail_if_success (with_reducible show wpList _ _ _ (List.cons _ _) _ _)); (fail_if_success (with_reducible show Code.wp _ (Code.region _ _ true) _ _ _)); go_step)
    refine wl_step (st_boxA hE0 rfl rfl rfl ?_)
    intro g0 w1 hb1 hE1
    clear hE0
    simp only [Act.put, List.setIfInBounds_toArray, List.set_cons_zero, List.set_cons_succ]
    refine wl_step (st_val rfl (v_moveC (.inr rfl)) ?_)
    simp only [Act.put, List.setIfInBounds_toArray, List.set_cons_zero, List.set_cons_succ]
    repeat ((fail_if_success (with_reducible show wpList _ _ _ (List.cons _ _) _ _)); (fail_if_success (with_reducible show Code.wp _ (Code.region _ _ true) _ _ _)); go_step)
    refine wp_region_B (n := 11) 10 (by kernel_rfl) rfl hE1 ?_
    intro w2 hb2 hE2
    clear hE1
    refine wpB_take (i := 0) (by kernel_rfl) rfl (by kernel_rfl) (fun _ _ _ h => h) rfl (v_indexA0 (j := 31) rfl rfl rfl Try.underlying22 (by kernel_rfl) (by first | assumption | omega)) ?_
    simp only [Act.put, List.setIfInBounds_toArray, List.set_cons_zero, List.set_cons_succ]
    refine wpB_take (i := 1) (by kernel_rfl) rfl (by kernel_rfl) (fun _ _ _ h => h) rfl (v_cell rfl rfl Try.underlying5 rfl (Env.cellv (i := 0) hE2 rfl (ints_get? _ _ _ (by first | assumption | omega | (simp; done) | (simp; omega))))) ?_
    simp only [Act.put, List.setIfInBounds_toArray, List.set_cons_zero, List.set_cons_succ]
    refine wpB_take (i := 2) (by kernel_rfl) rfl (by kernel_rfl) (fun _ _ _ h => h) rfl (v_lss (n := 128) rfl rfl rfl) ?_
    simp only [Act.put, List.setIfInBounds_toArray, List.set_cons_zero, List.set_cons_succ]
    rw [hd.out]
    refine wpB_take (i := 3) (by kernel_rfl) rfl (by kernel_rfl) (fun _ _ _ h => h) rfl (v_moveT (.inl rfl) rfl) ?_
    simp only [Act.put, List.setIfInBounds_toArray, List.set_cons_zero, List.set_cons_succ]
    refine wpB_take (i := 4) (by kernel_rfl) rfl (by kernel_rfl) (fun _ _ _ h => h) rfl (v_load (i := 0) hE2 rfl rfl rfl Try.underlying22 rfl (sz_of (n := 32) (by kernel_rfl) (by first | (simp only [ints_size, digs_length, List.length_replicate, List.length_cons, List.length_nil]; done) | (simp only [ints_size, digs_length, List.length_replicate, List.length_cons, List.length_nil, List.length_set, List.length_append]; omega) | rfl))) ?_
    simp only [Act.put, List.setIfInBounds_toArray, List.set_cons_zero, List.set_cons_succ]
    refine wpB_take (i := 7) (by kernel_rfl) rfl (by kernel_rfl) (fun _ _ _ h => h) rfl (v_load (i := 0) hE2 rfl rfl rfl Try.underlying22 rfl (sz_of (n := 32) (by kernel_rfl) (by first | (simp only [ints_size, digs_length, List.length_replicate, List.length_cons, List.length_nil]; done) | (simp only [ints_size, digs_length, List.length_replicate, List.length_cons, List.length_nil, List.length_set, List.length_append]; omega) | rfl))) ?_
    simp only [Act.put, List.setIfInBounds_toArray, List.set_cons_zero, List.set_cons_succ]
    refine wpB_step (i := 5) (by kernel_rfl) rfl (st_gives hE2 rfl (run_call rfl Try.call31) (HO.out _) ?_)
    intro w3 hb3 hE3
    clear hE2
    refine ⟨fun _ => hb3, ?_⟩
    simp only [Act.put, List.setIfInBounds_toArray, List.set_cons_zero, List.set_cons_succ]
    refine wpB_step (i := 6) (by kernel_rfl) rfl (st_gives hE3 rfl (run_call rfl Try.call41) (HB.out _) ?_)
    intro w4 hb4 hE4
    clear hE3
    refine ⟨fun _ => hb4, ?_⟩
    simp only [Act.put, List.setIfInBounds_toArray, List.set_cons_zero, List.set_cons_succ]
    refine wpB_take (i := 8) (by kernel_rfl) rfl (by kernel_rfl) (fun _ _ _ h => h) rfl (v_eq32 rfl rfl rfl hdl hb) ?_
    simp only [Act.put, List.setIfInBounds_toArray, List.set_cons_zero, List.set_cons_succ]
    rw [He.out]
    refine wpB_take (i := 9) (by kernel_rfl) rfl (by kernel_rfl) (fun _ _ _ h => h) rfl (v_and rfl rfl (fun _ => rfl)) ?_
    simp only [Act.put, List.setIfInBounds_toArray, List.set_cons_zero, List.set_cons_succ]
    refine wpB_step (i := 10) (by kernel_rfl) rfl (st_val rfl (v_moveT (.inr rfl) rfl) ?_)
    refine ⟨fun _ => Below.refl _ _, ?_⟩
    simp only [Act.put, List.setIfInBounds_toArray, List.set_cons_zero, List.set_cons_succ]
    refine wpB_done (by kernel_rfl) ?_ _
    repeat ((fail_if_success (with_reducible show wpList _ _ _ (List.cons _ _) _ _)); (fail_if_success (with_reducible show Code.wp _ (Code.region _ _ true) _ _ _)); go_step)
    go_returns
    exact ⟨by rw [Bool.true_and]; rfl, hE4.below⟩
  · have hv := decide_eq_false (canon_key' hb db h)
    rw [hv]
    have hd := Lib.hid (decide_eq_false h)
    have Hv := Lib.hid hv
    clear hv db
    have hE0 := Env.nil w
    go_enter Try.func44, Try.ntmps44
    repeat ((fail_if_success (with_reducible show wpList _ _ _ (List.cons _ _) _ _)); (fail_if_success (with_reducible show Code.wp _ (Code.region _ _ true) _ _ _)); go_step)
    refine wl_step (st_boxA hE0 rfl rfl rfl ?_)
    intro g0 w1 hb1 hE1
    clear hE0
    simp only [Act.put, List.setIfInBounds_toArray, List.set_cons_zero, List.set_cons_succ]
    refine wl_step (st_val rfl (v_moveC (.inr rfl)) ?_)
    simp only [Act.put, List.setIfInBounds_toArray, List.set_cons_zero, List.set_cons_succ]
    repeat ((fail_if_success (with_reducible show wpList _ _ _ (List.cons _ _) _ _)); (fail_if_success (with_reducible show Code.wp _ (Code.region _ _ true) _ _ _)); go_step)
    refine wp_region_B (n := 11) 10 (by kernel_rfl) rfl hE1 ?_
    intro w2 hb2 hE2
    clear hE1
    refine wpB_take (i := 0) (by kernel_rfl) rfl (by kernel_rfl) (fun _ _ _ h => h) rfl (v_indexA0 (j := 31) rfl rfl rfl Try.underlying22 (by kernel_rfl) (by first | assumption | omega)) ?_
    simp only [Act.put, List.setIfInBounds_toArray, List.set_cons_zero, List.set_cons_succ]
    refine wpB_take (i := 1) (by kernel_rfl) rfl (by kernel_rfl) (fun _ _ _ h => h) rfl (v_cell rfl rfl Try.underlying5 rfl (Env.cellv (i := 0) hE2 rfl (ints_get? _ _ _ (by first | assumption | omega | (simp; done) | (simp; omega))))) ?_
    simp only [Act.put, List.setIfInBounds_toArray, List.set_cons_zero, List.set_cons_succ]
    refine wpB_take (i := 2) (by kernel_rfl) rfl (by kernel_rfl) (fun _ _ _ h => h) rfl (v_lss (n := 128) rfl rfl rfl) ?_
    simp only [Act.put, List.setIfInBounds_toArray, List.set_cons_zero, List.set_cons_succ]
    rw [hd.out]
    refine wpB_take (i := 3) (by kernel_rfl) rfl (by kernel_rfl) (fun _ _ _ h => h) rfl (v_moveT (.inl rfl) rfl) ?_
    simp only [Act.put, List.setIfInBounds_toArray, List.set_cons_zero, List.set_cons_succ]
    refine wpB_pass (i := 4) (by kernel_rfl) rfl (by kernel_rfl) (fun _ _ _ h => h) rfl ?_
    simp only [Act.put, List.setIfInBounds_toArray, List.set_cons_zero, List.set_cons_succ]
    refine wpB_pass (i := 5) (by kernel_rfl) rfl (by kernel_rfl) (fun _ _ _ h => h) rfl ?_
    simp only [Act.put, List.setIfInBounds_toArray, List.set_cons_zero, List.set_cons_succ]
    refine wpB_pass (i := 6) (by kernel_rfl) rfl (by kernel_rfl) (fun _ _ _ h => h) rfl ?_
    simp only [Act.put, List.setIfInBounds_toArray, List.set_cons_zero, List.set_cons_succ]
    refine wpB_pass (i := 7) (by kernel_rfl) rfl (by kernel_rfl) (fun _ _ _ h => h) rfl ?_
    simp only [Act.put, List.setIfInBounds_toArray, List.set_cons_zero, List.set_cons_succ]
    refine wpB_pass (i := 8) (by kernel_rfl) rfl (by kernel_rfl) (fun _ _ _ h => h) rfl ?_
    simp only [Act.put, List.setIfInBounds_toArray, List.set_cons_zero, List.set_cons_succ]
    refine wpB_take (i := 9) (by kernel_rfl) rfl (by kernel_rfl) (fun _ _ _ h => h) rfl (v_andF rfl rfl) ?_
    simp only [Act.put, List.setIfInBounds_toArray, List.set_cons_zero, List.set_cons_succ]
    refine wpB_step (i := 10) (by kernel_rfl) rfl (st_val rfl (v_moveT (.inr rfl) rfl) ?_)
    refine ⟨fun _ => Below.refl _ _, ?_⟩
    simp only [Act.put, List.setIfInBounds_toArray, List.set_cons_zero, List.set_cons_succ]
    refine wpB_done (by kernel_rfl) ?_ _
    repeat ((fail_if_success (with_reducible show wpList _ _ _ (List.cons _ _) _ _)); (fail_if_success (with_reducible show Code.wp _ (Code.region _ _ true) _ _ _)); go_step)
    go_returns
    exact ⟨rfl, hE2.below⟩
end Go.Proofs.Ytmebjoehmheknaa
