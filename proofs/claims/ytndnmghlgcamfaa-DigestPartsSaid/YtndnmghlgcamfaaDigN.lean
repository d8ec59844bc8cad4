/-
  Layer 3, the document's: what tells one of the two sums from the other; words turned.
-/
import Derived.Test.YtndnmghlgcamfaaDigL
namespace Go.Proofs.Ytndnmghlgcamfaa
open Go.RowKit
set_option linter.unusedVariables false
set_option linter.unusedSimpArgs false

/-- The cells of what tells one sum from the other. -/
def kcl (k : Kd) (r : Nat) (fv rv : Value) : List Value :=
  [.int .i64 (k.w : Nat), fv, rv, .int .i64 (k.s0.1 : Nat), .int .i64 (k.s0.2.1 : Nat), .int .i64 (k.s0.2.2 : Nat), .int .i64 (k.s1.1 : Nat), .int .i64 (k.s1.2.1 : Nat), .int .i64 (k.s1.2.2 : Nat),
   .int .i64 (k.t0.1 : Nat), .int .i64 (k.t0.2.1 : Nat), .int .i64 (k.t0.2.2 : Nat), .int .i64 (k.t1.1 : Nat), .int .i64 (k.t1.2.1 : Nat), .int .i64 (k.t1.2.2 : Nat), .int .i64 (r : Nat), .int .u64 ((2 ^ k.w - 1 : Nat) : Int)]
section
variable {k : Kd} {r : Nat} {fv rv : Value}
theorem kcl_w : (kcl k r fv rv).toArray[0]? = some (Value.int .i64 (k.w : Nat)) := rfl
theorem kcl_f : (kcl k r fv rv).toArray[1]? = some fv := rfl
theorem kcl_r : (kcl k r fv rv).toArray[2]? = some rv := rfl
theorem kcl_m : (kcl k r fv rv).toArray[15]? = some (Value.int .i64 (r : Nat)) := rfl
theorem kcl_x : (kcl k r fv rv).toArray[16]? = some (Value.int .u64 ((2 ^ k.w - 1 : Nat) : Int)) := rfl
theorem kcl_s0 : ((kcl k r fv rv).toArray.toList.drop 3).take 3 = nats .i64 [k.s0.1, k.s0.2.1, k.s0.2.2] := rfl
theorem kcl_s1 : ((kcl k r fv rv).toArray.toList.drop 6).take 3 = nats .i64 [k.s1.1, k.s1.2.1, k.s1.2.2] := rfl
theorem kcl_t0 : ((kcl k r fv rv).toArray.toList.drop 9).take 3 = nats .i64 [k.t0.1, k.t0.2.1, k.t0.2.2] := rfl
theorem kcl_t1 : ((kcl k r fv rv).toArray.toList.drop 12).take 3 = nats .i64 [k.t1.1, k.t1.2.1, k.t1.2.2] := rfl
end
theorem rr_of {w n x : Nat} (hw : w ≤ 64) (hn : n ≤ w) (hx : x < 2 ^ w) : (x / 2 ^ n ||| x * 2 ^ (w - n) % 18446744073709551616) &&& (2 ^ w - 1) = rr w n x := by
  unfold rr
  rw [Nat.and_two_pow_sub_one_eq_mod, Nat.or_mod_two_pow, Nat.or_comm]
  congr 1
  · exact Nat.mod_mod_of_dvd _ (by rw [show (18446744073709551616 : Nat) = 2 ^ 64 from rfl]; exact Nat.pow_dvd_pow 2 hw)
  · exact Nat.mod_eq_of_lt (Nat.lt_of_le_of_lt (Nat.div_le_self _ _) hx)
theorem pow_le64 {w : Nat} (hw : w ≤ 64) : 2 ^ w ≤ 18446744073709551616 := Nat.pow_le_pow_right (by decide) hw

set_option maxRecDepth 100000 in
set_option maxHeartbeats 4000000 in
theorem right_any {k : Kd} {r n x : Nat} {fv rv : Value} (hw : k.w ≤ 64) (hn : n ≤ k.w) (hx : x < 2 ^ k.w) (w : World) :
    Gives 36 #[.agg (kcl k r fv rv).toArray, .int .u64 (x : Nat), .int .i64 (n : Nat)] w (.int .u64 (rr k.w n x : Nat)) := by
  have hp := pow_le64 hw
  have b1 : x / 2 ^ n < 2 ^ IntKind.u64.bits := Nat.lt_of_le_of_lt (Nat.div_le_self _ _) (Nat.lt_of_lt_of_le hx hp)
  have b2 : x * 2 ^ (k.w - n) % 18446744073709551616 < 2 ^ IntKind.u64.bits := Nat.mod_lt _ (by decide)
  have b3 : (x / 2 ^ n ||| x * 2 ^ (k.w - n) % 18446744073709551616) < 2 ^ IntKind.u64.bits := Nat.or_lt_two_pow b1 b2
  have b4 : 2 ^ k.w - 1 < 2 ^ IntKind.u64.bits := by
    have : 0 < 2 ^ k.w := Nat.pow_pos (by decide)
    exact Nat.lt_of_lt_of_le (by omega) hp
  have s1 : n ≤ IntKind.u64.bits := Nat.le_trans hn hw
  have s2 : k.w - n ≤ IntKind.u64.bits := Nat.le_trans (Nat.sub_le _ _) hw
  have E := Lib.hid (rr_of hw hn hx)
  have hwl : k.w < 9223372036854775808 := by omega
  clear hx hp
  have hE0 := Env.nil w
  go_enter Try.func36, Try.ntmps36
  repeat ((fail_if_success (with_reducible show wpList _ _ _ (List.cons _ _) _ _)); (fail_if_success (with_reducible show Code.wp _ (Code.region _ _ true) _ _ _)); go_step)
  refine wl_step (st_boxA hE0 rfl rfl rfl ?_)
  intro g0 w1 hb1 hE1
  clear hE0
  simp only [Act.put, List.setIfInBounds_toArray, List.set_cons_zero, List.set_cons_succ]
  refine wl_step (st_val rfl (v_moveC (.inr rfl)) ?_)
  simp only [Act.put, List.setIfInBounds_toArray, List.set_cons_zero, List.set_cons_succ]
  repeat ((fail_if_success (with_reducible show wpList _ _ _ (List.cons _ _) _ _)); (fail_if_success (with_reducible show Code.wp _ (Code.region _ _ true) _ _ _)); go_step)
  refine wp_region_B (n := 14) 13 (by kernel_rfl) rfl hE1 ?_
  intro w2 hb2 hE2
  clear hE1
  refine wpB_take (i := 0) (by kernel_rfl) rfl (by kernel_rfl) (fun _ _ _ h => h) rfl (v_moveT (.inl rfl) rfl) ?_
  simp only [Act.put, List.setIfInBounds_toArray, List.set_cons_zero, List.set_cons_succ]
  refine wpB_take (i := 1) (by kernel_rfl) rfl (by kernel_rfl) (fun _ _ _ h => h) rfl (v_moveT (.inl rfl) rfl) ?_
  simp only [Act.put, List.setIfInBounds_toArray, List.set_cons_zero, List.set_cons_succ]
  refine wpB_take (i := 2) (by kernel_rfl) rfl (by kernel_rfl) (fun _ _ _ h => h) rfl (v_shr rfl rfl rfl s1) ?_
  simp only [Act.put, List.setIfInBounds_toArray, List.set_cons_zero, List.set_cons_succ]
  refine wpB_take (i := 3) (by kernel_rfl) rfl (by kernel_rfl) (fun _ _ _ h => h) rfl (v_moveT (.inl rfl) rfl) ?_
  simp only [Act.put, List.setIfInBounds_toArray, List.set_cons_zero, List.set_cons_succ]
  refine wpB_take (i := 4) (by kernel_rfl) rfl (by kernel_rfl) (fun _ _ _ h => h) rfl (v_field0 (s := 0) rfl rfl Try.underlying57 rfl (by kernel_rfl) rfl) ?_
  simp only [Act.put, List.setIfInBounds_toArray, List.set_cons_zero, List.set_cons_succ]
  refine wpB_take (i := 5) (by kernel_rfl) rfl (by kernel_rfl) (fun _ _ _ h => h) rfl (v_cellB (i := 0) hE2 rfl rfl rfl Try.underlying3 rfl kcl_w) ?_
  simp only [Act.put, List.setIfInBounds_toArray, List.set_cons_zero, List.set_cons_succ]
  refine wpB_take (i := 6) (by kernel_rfl) rfl (by kernel_rfl) (fun _ _ _ h => h) rfl (v_moveT (.inl rfl) rfl) ?_
  simp only [Act.put, List.setIfInBounds_toArray, List.set_cons_zero, List.set_cons_succ]
  refine wpB_take (i := 7) (by kernel_rfl) rfl (by kernel_rfl) (fun _ _ _ h => h) rfl (v_sub rfl rfl rfl (w_i64s hn hwl)) ?_
  simp only [Act.put, List.setIfInBounds_toArray, List.set_cons_zero, List.set_cons_succ]
  refine wpB_take (i := 8) (by kernel_rfl) rfl (by kernel_rfl) (fun _ _ _ h => h) rfl (v_shl rfl rfl rfl s2 (w_u64m _)) ?_
  simp only [Act.put, List.setIfInBounds_toArray, List.set_cons_zero, List.set_cons_succ]
  refine wpB_take (i := 9) (by kernel_rfl) rfl (by kernel_rfl) (fun _ _ _ h => h) rfl (v_bor rfl rfl rfl b1 b2 (w_or rfl b1 b2)) ?_
  simp only [Act.put, List.setIfInBounds_toArray, List.set_cons_zero, List.set_cons_succ]
  refine wpB_take (i := 10) (by kernel_rfl) rfl (by kernel_rfl) (fun _ _ _ h => h) rfl (v_fieldB (s := 0) rfl rfl Try.underlying57 rfl (by kernel_rfl) rfl) ?_
  simp only [Act.put, List.setIfInBounds_toArray, List.set_cons_zero, List.set_cons_succ]
  refine wpB_take (i := 11) (by kernel_rfl) rfl (by kernel_rfl) (fun _ _ _ h => h) rfl (v_cellB (i := 0) hE2 rfl rfl rfl Try.underlying52 rfl kcl_x) ?_
  simp only [Act.put, List.setIfInBounds_toArray, List.set_cons_zero, List.set_cons_succ]
  refine wpB_take (i := 12) (by kernel_rfl) rfl (by kernel_rfl) (fun _ _ _ h => h) rfl (v_band rfl rfl rfl b3 b4 (w_and rfl b3)) ?_
  simp only [Act.put, List.setIfInBounds_toArray, List.set_cons_zero, List.set_cons_succ]
  rw [E.out]
  refine wpB_step (i := 13) (by kernel_rfl) rfl (st_val rfl (v_moveT (.inr rfl) rfl) ?_)
  refine ⟨fun _ => Below.refl _ _, ?_⟩
  simp only [Act.put, List.setIfInBounds_toArray, List.set_cons_zero, List.set_cons_succ]
  refine wpB_done (by kernel_rfl) ?_ _
  repeat ((fail_if_success (with_reducible show wpList _ _ _ (List.cons _ _) _ _)); (fail_if_success (with_reducible show Code.wp _ (Code.region _ _ true) _ _ _)); go_step)
  go_returns
  exact ⟨rfl, hE2.below⟩

set_option maxRecDepth 100000 in
set_option maxHeartbeats 4000000 in
theorem big_any {k : Kd} {r x : Nat} {t : Nat × Nat × Nat} {fv rv : Value} (hw : k.w ≤ 64) (h1 : t.1 ≤ k.w) (h2 : t.2.1 ≤ k.w) (h3 : t.2.2 ≤ k.w) (hx : x < 2 ^ k.w) (w : World) :
    Gives 34 #[.agg (kcl k r fv rv).toArray, .int .u64 (x : Nat), .agg (ints .i64 [t.1, t.2.1, t.2.2])] w (.int .u64 (bigS k.w t x : Nat)) := by
  obtain ⟨a, b, c⟩ := t
  have hp := pow_le64 hw
  have R1 := Lib.hid (fun w => right_any (r := r) (fv := fv) (rv := rv) hw h1 hx w)
  have R2 := Lib.hid (fun w => right_any (r := r) (fv := fv) (rv := rv) hw h2 hx w)
  have R3 := Lib.hid (fun w => right_any (r := r) (fv := fv) (rv := rv) hw h3 hx w)
  have b1 : rr k.w a x < 2 ^ IntKind.u64.bits := Nat.lt_of_lt_of_le (rr_lt hx) hp
  have b2 : rr k.w b x < 2 ^ IntKind.u64.bits := Nat.lt_of_lt_of_le (rr_lt hx) hp
  have b3 : rr k.w c x < 2 ^ IntKind.u64.bits := Nat.lt_of_lt_of_le (rr_lt hx) hp
  have b4 : rr k.w a x ^^^ rr k.w b x < 2 ^ IntKind.u64.bits := Nat.xor_lt_two_pow b1 b2
  clear hp hx h1 h2 h3 hw
  have hE0 := Env.nil w
  go_enter Try.func34, Try.ntmps34
  repeat ((fail_if_success (with_reducible show wpList _ _ _ (List.cons _ _) _ _)); (fail_if_success (with_reducible show Code.wp _ (Code.region _ _ true) _ _ _)); go_step)
  refine wl_step (st_boxA hE0 rfl rfl rfl ?_)
  intro g0 w1 hb1 hE1
  clear hE0
  simp only [Act.put, List.setIfInBounds_toArray, List.set_cons_zero, List.set_cons_succ]
  refine wl_step (st_boxA hE1 rfl rfl rfl ?_)
  intro g1 w2 hb2 hE2
  clear hE1
  simp only [Act.put, List.setIfInBounds_toArray, List.set_cons_zero, List.set_cons_succ]
  refine wl_step (st_val rfl (v_moveC (.inr rfl)) ?_)
  simp only [Act.put, List.setIfInBounds_toArray, List.set_cons_zero, List.set_cons_succ]
  repeat ((fail_if_success (with_reducible show wpList _ _ _ (List.cons _ _) _ _)); (fail_if_success (with_reducible show Code.wp _ (Code.region _ _ true) _ _ _)); go_step)
  refine wp_region_B (n := 18) 17 (by kernel_rfl) rfl hE2 ?_
  intro w3 hb3 hE3
  clear hE2
  refine wpB_take (i := 0) (by kernel_rfl) rfl (by kernel_rfl) (fun _ _ _ h => h) rfl (v_load (i := 1) hE3 rfl rfl rfl Try.underlying57 rfl (sz_of (n := 17) (by kernel_rfl) (by first | (simp only [ints_size, digs_length, List.length_replicate, List.length_cons, List.length_nil]; done) | (simp only [ints_size, digs_length, List.length_replicate, List.length_cons, List.length_nil, List.length_set, List.length_append]; omega) | rfl))) ?_
  simp only [Act.put, List.setIfInBounds_toArray, List.set_cons_zero, List.set_cons_succ]
  refine wpB_take (i := 1) (by kernel_rfl) rfl (by kernel_rfl) (fun _ _ _ h => h) rfl (v_moveT (.inl rfl) rfl) ?_
  simp only [Act.put, List.setIfInBounds_toArray, List.set_cons_zero, List.set_cons_succ]
  refine wpB_take (i := 2) (by kernel_rfl) rfl (by kernel_rfl) (fun _ _ _ h => h) rfl (v_indexA0 (j := 0) rfl rfl rfl Try.underlying55 (by kernel_rfl) (by first | assumption | omega)) ?_
  simp only [Act.put, List.setIfInBounds_toArray, List.set_cons_zero, List.set_cons_succ]
  refine wpB_take (i := 3) (by kernel_rfl) rfl (by kernel_rfl) (fun _ _ _ h => h) rfl (v_cell rfl rfl Try.underlying3 rfl (Env.cellv (i := 0) hE3 rfl (ints_get? _ _ _ (by first | assumption | omega | (simp; done) | (simp; omega))))) ?_
  simp only [Act.put, List.setIfInBounds_toArray, List.set_cons_zero, List.set_cons_succ]
  refine wpB_take (i := 5) (by kernel_rfl) rfl (by kernel_rfl) (fun _ _ _ h => h) rfl (v_load (i := 1) hE3 rfl rfl rfl Try.underlying57 rfl (sz_of (n := 17) (by kernel_rfl) (by first | (simp only [ints_size, digs_length, List.length_replicate, List.length_cons, List.length_nil]; done) | (simp only [ints_size, digs_length, List.length_replicate, List.length_cons, List.length_nil, List.length_set, List.length_append]; omega) | rfl))) ?_
  simp only [Act.put, List.setIfInBounds_toArray, List.set_cons_zero, List.set_cons_succ]
  refine wpB_take (i := 6) (by kernel_rfl) rfl (by kernel_rfl) (fun _ _ _ h => h) rfl (v_moveT (.inl rfl) rfl) ?_
  simp only [Act.put, List.setIfInBounds_toArray, List.set_cons_zero, List.set_cons_succ]
  refine wpB_take (i := 7) (by kernel_rfl) rfl (by kernel_rfl) (fun _ _ _ h => h) rfl (v_indexA0 (j := 1) rfl rfl rfl Try.underlying55 (by kernel_rfl) (by first | assumption | omega)) ?_
  simp only [Act.put, List.setIfInBounds_toArray, List.set_cons_zero, List.set_cons_succ]
  refine wpB_take (i := 8) (by kernel_rfl) rfl (by kernel_rfl) (fun _ _ _ h => h) rfl (v_cell rfl rfl Try.underlying3 rfl (Env.cellv (i := 0) hE3 rfl (ints_get? _ _ _ (by first | assumption | omega | (simp; done) | (simp; omega))))) ?_
  simp only [Act.put, List.setIfInBounds_toArray, List.set_cons_zero, List.set_cons_succ]
  refine wpB_take (i := 11) (by kernel_rfl) rfl (by kernel_rfl) (fun _ _ _ h => h) rfl (v_load (i := 1) hE3 rfl rfl rfl Try.underlying57 rfl (sz_of (n := 17) (by kernel_rfl) (by first | (simp only [ints_size, digs_length, List.length_replicate, List.length_cons, List.length_nil]; done) | (simp only [ints_size, digs_length, List.length_replicate, List.length_cons, List.length_nil, List.length_set, List.length_append]; omega) | rfl))) ?_
  simp only [Act.put, List.setIfInBounds_toArray, List.set_cons_zero, List.set_cons_succ]
  refine wpB_take (i := 12) (by kernel_rfl) rfl (by kernel_rfl) (fun _ _ _ h => h) rfl (v_moveT (.inl rfl) rfl) ?_
  simp only [Act.put, List.setIfInBounds_toArray, List.set_cons_zero, List.set_cons_succ]
  refine wpB_take (i := 13) (by kernel_rfl) rfl (by kernel_rfl) (fun _ _ _ h => h) rfl (v_indexA0 (j := 2) rfl rfl rfl Try.underlying55 (by kernel_rfl) (by first | assumption | omega)) ?_
  simp only [Act.put, List.setIfInBounds_toArray, List.set_cons_zero, List.set_cons_succ]
  refine wpB_take (i := 14) (by kernel_rfl) rfl (by kernel_rfl) (fun _ _ _ h => h) rfl (v_cell rfl rfl Try.underlying3 rfl (Env.cellv (i := 0) hE3 rfl (ints_get? _ _ _ (by first | assumption | omega | (simp; done) | (simp; omega))))) ?_
  simp only [Act.put, List.setIfInBounds_toArray, List.set_cons_zero, List.set_cons_succ]
  refine wpB_step (i := 4) (by kernel_rfl) rfl (st_gives hE3 rfl (run_call rfl Try.call36) (R1.out _) ?_)
  intro w4 hb4 hE4
  clear hE3
  refine ⟨fun _ => hb4, ?_⟩
  simp only [Act.put, List.setIfInBounds_toArray, List.set_cons_zero, List.set_cons_succ]
  refine wpB_step (i := 9) (by kernel_rfl) rfl (st_gives hE4 rfl (run_call rfl Try.call36) (R2.out _) ?_)
  intro w5 hb5 hE5
  clear hE4
  refine ⟨fun _ => hb5, ?_⟩
  simp only [Act.put, List.setIfInBounds_toArray, List.set_cons_zero, List.set_cons_succ]
  refine wpB_take (i := 10) (by kernel_rfl) rfl (by kernel_rfl) (fun _ _ _ h => h) rfl (v_bxor rfl rfl rfl b1 b2 (w_xor rfl b1 b2)) ?_
  simp only [Act.put, List.setIfInBounds_toArray, List.set_cons_zero, List.set_cons_succ]
  refine wpB_step (i := 15) (by kernel_rfl) rfl (st_gives hE5 rfl (run_call rfl Try.call36) (R3.out _) ?_)
  intro w6 hb6 hE6
  clear hE5
  refine ⟨fun _ => hb6, ?_⟩
  simp only [Act.put, List.setIfInBounds_toArray, List.set_cons_zero, List.set_cons_succ]
  refine wpB_take (i := 16) (by kernel_rfl) rfl (by kernel_rfl) (fun _ _ _ h => h) rfl (v_bxor rfl rfl rfl b4 b3 (w_xor rfl b4 b3)) ?_
  simp only [Act.put, List.setIfInBounds_toArray, List.set_cons_zero, List.set_cons_succ]
  refine wpB_step (i := 17) (by kernel_rfl) rfl (st_val rfl (v_moveT (.inr rfl) rfl) ?_)
  refine ⟨fun _ => Below.refl _ _, ?_⟩
  simp only [Act.put, List.setIfInBounds_toArray, List.set_cons_zero, List.set_cons_succ]
  refine wpB_done (by kernel_rfl) ?_ _
  repeat ((fail_if_success (with_reducible show wpList _ _ _ (List.cons _ _) _ _)); (fail_if_success (with_reducible show Code.wp _ (Code.region _ _ true) _ _ _)); go_step)
  go_returns
  exact ⟨rfl, hE6.below⟩

set_option maxRecDepth 100000 in
set_option maxHeartbeats 4000000 in
theorem small_any {k : Kd} {r x : Nat} {t : Nat × Nat × Nat} {fv rv : Value} (hw : k.w ≤ 64) (h1 : t.1 ≤ k.w) (h2 : t.2.1 ≤ k.w) (h3 : t.2.2 ≤ k.w) (hx : x < 2 ^ k.w) (w : World) :
    Gives 33 #[.agg (kcl k r fv rv).toArray, .int .u64 (x : Nat), .agg (ints .i64 [t.1, t.2.1, t.2.2])] w (.int .u64 (smallS k.w t x : Nat)) := by
  obtain ⟨a, b, c⟩ := t
  have hp := pow_le64 hw
  have R1 := Lib.hid (fun w => right_any (r := r) (fv := fv) (rv := rv) hw h1 hx w)
  have R2 := Lib.hid (fun w => right_any (r := r) (fv := fv) (rv := rv) hw h2 hx w)
  have b1 : rr k.w a x < 2 ^ IntKind.u64.bits := Nat.lt_of_lt_of_le (rr_lt hx) hp
  have b2 : rr k.w b x < 2 ^ IntKind.u64.bits := Nat.lt_of_lt_of_le (rr_lt hx) hp
  have b3 : x / 2 ^ c < 2 ^ IntKind.u64.bits := Nat.lt_of_le_of_lt (Nat.div_le_self _ _) (Nat.lt_of_lt_of_le hx hp)
  have b4 : rr k.w a x ^^^ rr k.w b x < 2 ^ IntKind.u64.bits := Nat.xor_lt_two_pow b1 b2
  have s1 : c ≤ IntKind.u64.bits := Nat.le_trans h3 hw
  clear hp hx h1 h2 h3 hw
  have hE0 := Env.nil w
  go_enter Try.func33, Try.ntmps33
  repeat ((fail_if_success (with_reducible show wpList _ _ _ (List.cons _ _) _ _)); (fail_if_success (with_reducible show Code.wp _ (Code.region _ _ true) _ _ _)); go_step)
  refine wl_step (st_boxA hE0 rfl rfl rfl ?_)
  intro g0 w1 hb1 hE1
  clear hE0
  simp only [Act.put, List.setIfInBounds_toArray, List.set_cons_zero, List.set_cons_succ]
  refine wl_step (st_boxA hE1 rfl rfl rfl ?_)
  intro g1 w2 hb2 hE2
  clear hE1
  simp only [Act.put, List.setIfInBounds_toArray, List.set_cons_zero, List.set_cons_succ]
  refine wl_step (st_val rfl (v_moveC (.inr rfl)) ?_)
  simp only [Act.put, List.setIfInBounds_toArray, List.set_cons_zero, List.set_cons_succ]
  repeat ((fail_if_success (with_reducible show wpList _ _ _ (List.cons _ _) _ _)); (fail_if_success (with_reducible show Code.wp _ (Code.region _ _ true) _ _ _)); go_step)
  refine wp_region_B (n := 17) 16 (by kernel_rfl) rfl hE2 ?_
  intro w3 hb3 hE3
  clear hE2
  refine wpB_take (i := 0) (by kernel_rfl) rfl (by kernel_rfl) (fun _ _ _ h => h) rfl (v_load (i := 1) hE3 rfl rfl rfl Try.underlying57 rfl (sz_of (n := 17) (by kernel_rfl) (by first | (simp only [ints_size, digs_length, List.length_replicate, List.length_cons, List.length_nil]; done) | (simp only [ints_size, digs_length, List.length_replicate, List.length_cons, List.length_nil, List.length_set, List.length_append]; omega) | rfl))) ?_
  simp only [Act.put, List.setIfInBounds_toArray, List.set_cons_zero, List.set_cons_succ]
  refine wpB_take (i := 1) (by kernel_rfl) rfl (by kernel_rfl) (fun _ _ _ h => h) rfl (v_moveT (.inl rfl) rfl) ?_
  simp only [Act.put, List.setIfInBounds_toArray, List.set_cons_zero, List.set_cons_succ]
  refine wpB_take (i := 2) (by kernel_rfl) rfl (by kernel_rfl) (fun _ _ _ h => h) rfl (v_indexA0 (j := 0) rfl rfl rfl Try.underlying55 (by kernel_rfl) (by first | assumption | omega)) ?_
  simp only [Act.put, List.setIfInBounds_toArray, List.set_cons_zero, List.set_cons_succ]
  refine wpB_take (i := 3) (by kernel_rfl) rfl (by kernel_rfl) (fun _ _ _ h => h) rfl (v_cell rfl rfl Try.underlying3 rfl (Env.cellv (i := 0) hE3 rfl (ints_get? _ _ _ (by first | assumption | omega | (simp; done) | (simp; omega))))) ?_
  simp only [Act.put, List.setIfInBounds_toArray, List.set_cons_zero, List.set_cons_succ]
  refine wpB_take (i := 5) (by kernel_rfl) rfl (by kernel_rfl) (fun _ _ _ h => h) rfl (v_load (i := 1) hE3 rfl rfl rfl Try.underlying57 rfl (sz_of (n := 17) (by kernel_rfl) (by first | (simp only [ints_size, digs_length, List.length_replicate, List.length_cons, List.length_nil]; done) | (simp only [ints_size, digs_length, List.length_replicate, List.length_cons, List.length_nil, List.length_set, List.length_append]; omega) | rfl))) ?_
  simp only [Act.put, List.setIfInBounds_toArray, List.set_cons_zero, List.set_cons_succ]
  refine wpB_take (i := 6) (by kernel_rfl) rfl (by kernel_rfl) (fun _ _ _ h => h) rfl (v_moveT (.inl rfl) rfl) ?_
  simp only [Act.put, List.setIfInBounds_toArray, List.set_cons_zero, List.set_cons_succ]
  refine wpB_take (i := 7) (by kernel_rfl) rfl (by kernel_rfl) (fun _ _ _ h => h) rfl (v_indexA0 (j := 1) rfl rfl rfl Try.underlying55 (by kernel_rfl) (by first | assumption | omega)) ?_
  simp only [Act.put, List.setIfInBounds_toArray, List.set_cons_zero, List.set_cons_succ]
  refine wpB_take (i := 8) (by kernel_rfl) rfl (by kernel_rfl) (fun _ _ _ h => h) rfl (v_cell rfl rfl Try.underlying3 rfl (Env.cellv (i := 0) hE3 rfl (ints_get? _ _ _ (by first | assumption | omega | (simp; done) | (simp; omega))))) ?_
  simp only [Act.put, List.setIfInBounds_toArray, List.set_cons_zero, List.set_cons_succ]
  refine wpB_take (i := 11) (by kernel_rfl) rfl (by kernel_rfl) (fun _ _ _ h => h) rfl (v_moveT (.inl rfl) rfl) ?_
  simp only [Act.put, List.setIfInBounds_toArray, List.set_cons_zero, List.set_cons_succ]
  refine wpB_take (i := 12) (by kernel_rfl) rfl (by kernel_rfl) (fun _ _ _ h => h) rfl (v_indexA0 (j := 2) rfl rfl rfl Try.underlying55 (by kernel_rfl) (by first | assumption | omega)) ?_
  simp only [Act.put, List.setIfInBounds_toArray, List.set_cons_zero, List.set_cons_succ]
  refine wpB_take (i := 13) (by kernel_rfl) rfl (by kernel_rfl) (fun _ _ _ h => h) rfl (v_cell rfl rfl Try.underlying3 rfl (Env.cellv (i := 0) hE3 rfl (ints_get? _ _ _ (by first | assumption | omega | (simp; done) | (simp; omega))))) ?_
  simp only [Act.put, List.setIfInBounds_toArray, List.set_cons_zero, List.set_cons_succ]
  refine wpB_take (i := 14) (by kernel_rfl) rfl (by kernel_rfl) (fun _ _ _ h => h) rfl (v_shr (s := c) rfl rfl rfl s1) ?_
  simp only [Act.put, List.setIfInBounds_toArray, List.set_cons_zero, List.set_cons_succ]
  refine wpB_step (i := 4) (by kernel_rfl) rfl (st_gives hE3 rfl (run_call rfl Try.call36) (R1.out _) ?_)
  intro w4 hb4 hE4
  clear hE3
  refine ⟨fun _ => hb4, ?_⟩
  simp only [Act.put, List.setIfInBounds_toArray, List.set_cons_zero, List.set_cons_succ]
  refine wpB_step (i := 9) (by kernel_rfl) rfl (st_gives hE4 rfl (run_call rfl Try.call36) (R2.out _) ?_)
  intro w5 hb5 hE5
  clear hE4
  refine ⟨fun _ => hb5, ?_⟩
  simp only [Act.put, List.setIfInBounds_toArray, List.set_cons_zero, List.set_cons_succ]
  refine wpB_take (i := 10) (by kernel_rfl) rfl (by kernel_rfl) (fun _ _ _ h => h) rfl (v_bxor rfl rfl rfl b1 b2 (w_xor rfl b1 b2)) ?_
  simp only [Act.put, List.setIfInBounds_toArray, List.set_cons_zero, List.set_cons_succ]
  refine wpB_take (i := 15) (by kernel_rfl) rfl (by kernel_rfl) (fun _ _ _ h => h) rfl (v_bxor rfl rfl rfl b4 b3 (w_xor rfl b4 b3)) ?_
  simp only [Act.put, List.setIfInBounds_toArray, List.set_cons_zero, List.set_cons_succ]
  refine wpB_step (i := 16) (by kernel_rfl) rfl (st_val rfl (v_moveT (.inr rfl) rfl) ?_)
  refine ⟨fun _ => Below.refl _ _, ?_⟩
  simp only [Act.put, List.setIfInBounds_toArray, List.set_cons_zero, List.set_cons_succ]
  refine wpB_done (by kernel_rfl) ?_ _
  repeat ((fail_if_success (with_reducible show wpList _ _ _ (List.cons _ _) _ _)); (fail_if_success (with_reducible show Code.wp _ (Code.region _ _ true) _ _ _)); go_step)
  go_returns
  exact ⟨rfl, hE5.below⟩
end Go.Proofs.Ytndnmghlgcamfaa
