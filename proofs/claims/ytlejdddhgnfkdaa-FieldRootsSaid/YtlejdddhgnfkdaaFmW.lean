/-
  Layer 4: the law's own example.
-/
import Derived.Test.YtlejdddhgnfkdaaFmH
namespace Go.Proofs.Ytlejdddhgnfkdaa
open Go.RowKit
set_option linter.unusedVariables false
set_option linter.unusedSimpArgs false

set_option maxHeartbeats 4000000 in
theorem awake_any (w : World) : Gives 18 #[] w (.bool true) := by
  obtain ⟨f4, e4, G4⟩ := Small_any (n := 4) (by decide)
  obtain ⟨f1, e1, G1⟩ := Small_any (n := 1) (by decide)
  obtain ⟨f2, e2, G2⟩ := Small_any (n := 2) (by decide)
  obtain ⟨r, fr, er, GR⟩ := Root_any f4 f1
  rw [e4, e1, rootN41] at er GR
  obtain ⟨i, fi, ei, GI⟩ := Invert_any f2
  obtain ⟨m, fm, em, GM⟩ := Mul_any fi f2
  have hS1 := fun w => Same_any fr f2 w
  rw [er, e2, decide_eq_true (show ((2, true) : Nat × Bool).1 = 2 % pN by decide)] at hS1
  have hS2 := fun w => Same_any fm f1 w
  have h2 : fval m % pN = fval [1, 0, 0, 0, 0] % pN := by
    rw [em, e1, mod_mul_l ei, e2]
    exact half_mod
  rw [decide_eq_true h2] at hS2
  have hZ := fun w => Zero_any f1 w
  rw [e1, decide_eq_false (show ¬ 1 % pN = 0 by decide)] at hZ
  have hr5 := fr.1
  have hi5 := fi.1
  have hm5 := fm.1
  have H1 := Lib.hid G1
  have H2 := Lib.hid G2
  have H4 := Lib.hid G4
  have HR := Lib.hid GR
  have HI := Lib.hid GI
  have HM := Lib.hid GM
  have HS1 := Lib.hid hS1
  have HS2 := Lib.hid hS2
  have HZ := Lib.hid hZ
  clear f4 e4 G4 f1 e1 G1 f2 e2 G2 fr er GR fi ei GI fm em GM hS1 hS2 h2 hZ
  have hE0 := Env.nil w
  go_enter Try.func18, Try.ntmps18
  repeat ((fail_if_success (with_reducible show wpList _ _ _ (List.cons _ _) _ _)); (fail_if_success (with_reducible show Code.wp _ (Code.region _ _ true) _ _ _)); go_step)
  refine wl_step (st_val rfl (v_moveC (.inr rfl)) ?_)
  simp only [Act.put, List.setIfInBounds_toArray, List.set_cons_zero, List.set_cons_succ]
  repeat ((fail_if_success (with_reducible show wpList _ _ _ (List.cons _ _) _ _)); (fail_if_success (with_reducible show Code.wp _ (Code.region _ _ true) _ _ _)); go_step)
  refine wl_step (st_gives hE0 rfl (run_call rfl Try.call10) (H4.out _) ?_)
  intro w1 hb1 hE1
  clear hE0
  simp only [Act.put, List.setIfInBounds_toArray, List.set_cons_zero, List.set_cons_succ]
  refine wl_step (st_gives hE1 rfl (run_call rfl Try.call10) (H1.out _) ?_)
  intro w2 hb2 hE2
  clear hE1
  simp only [Act.put, List.setIfInBounds_toArray, List.set_cons_zero, List.set_cons_succ]
  refine wl_step (st_gives hE2 rfl (run_call rfl Try.call19) (HR.out _) ?_)
  intro w3 hb3 hE3
  clear hE2
  simp only [Act.put, List.setIfInBounds_toArray, List.set_cons_zero, List.set_cons_succ]
  refine wl_step (st_val rfl (v_moveT (.inl rfl) rfl) ?_)
  simp only [Act.put, List.setIfInBounds_toArray, List.set_cons_zero, List.set_cons_succ]
  refine wl_step (st_val rfl (v_extract rfl rfl rfl) ?_)
  simp only [Act.put, List.setIfInBounds_toArray, List.set_cons_zero, List.set_cons_succ]
  refine wl_step (st_val rfl (v_extract rfl rfl rfl) ?_)
  simp only [Act.put, List.setIfInBounds_toArray, List.set_cons_zero, List.set_cons_succ]
  refine wl_step (st_alloc (zs := ints .u64 (List.replicate 5 0)) hE3 rfl rfl (fun w => by kernel_rfl) ?_)
  intro g0 w4 hb4 hE4
  clear hE3
  simp only [Act.put, List.setIfInBounds_toArray, List.set_cons_zero, List.set_cons_succ]
  refine wl_step (st_store (i := 0) hE4 rfl rfl rfl rfl rfl (sz_of (n := 5) (by kernel_rfl) (by first | (simp only [ints_size, digs_length, List.length_replicate, List.length_cons, List.length_nil]; done) | (simp only [ints_size, digs_length, List.length_replicate, List.length_cons, List.length_nil, List.length_set, List.length_append]; omega) | rfl)) (by first | (simp only [ints_size, digs_length, List.length_replicate, List.length_cons, List.length_nil]; done) | (simp only [ints_size, digs_length, List.length_replicate, List.length_cons, List.length_nil, List.length_set, List.length_append]; omega) | rfl) (by first | exact ints_one _ _ | decide | simp [*]) ?_)
  intro w5 hE5
  clear hE4
  simp only [List.set_cons_zero, List.set_cons_succ] at hE5
  simp only [Act.put, List.setIfInBounds_toArray, List.set_cons_zero, List.set_cons_succ]
  refine wl_step (st_val rfl (v_moveT (.inr rfl) rfl) ?_)
  simp only [Act.put, List.setIfInBounds_toArray, List.set_cons_zero, List.set_cons_succ]
  repeat ((fail_if_success (with_reducible show wpList _ _ _ (List.cons _ _) _ _)); (fail_if_success (with_reducible show Code.wp _ (Code.region _ _ true) _ _ _)); go_step)
  refine wp_region_B (n := 20) 19 (by kernel_rfl) rfl hE5 ?_
  intro w6 hb6 hE6
  clear hE5
  refine wpB_take (i := 0) (by kernel_rfl) rfl (by kernel_rfl) (fun _ _ _ h => h) rfl (v_moveT (.inl rfl) rfl) ?_
  simp only [Act.put, List.setIfInBounds_toArray, List.set_cons_zero, List.set_cons_succ]
  refine wpB_take (i := 1) (by kernel_rfl) rfl (by kernel_rfl) (fun _ _ _ h => h) rfl (v_moveT (.inl rfl) rfl) ?_
  simp only [Act.put, List.setIfInBounds_toArray, List.set_cons_zero, List.set_cons_succ]
  refine wpB_take (i := 2) (by kernel_rfl) rfl (by kernel_rfl) (fun _ _ _ h => h) rfl (v_load (i := 0) hE6 rfl rfl rfl Try.underlying26 rfl (sz_of (n := 5) (by kernel_rfl) (by first | (simp only [ints_size, digs_length, List.length_replicate, List.length_cons, List.length_nil]; done) | (simp only [ints_size, digs_length, List.length_replicate, List.length_cons, List.length_nil, List.length_set, List.length_append]; omega) | rfl))) ?_
  simp only [Act.put, List.setIfInBounds_toArray, List.set_cons_zero, List.set_cons_succ]
  refine wpB_step (i := 3) (by kernel_rfl) rfl (st_gives hE6 rfl (run_call rfl Try.call10) (H2.out _) ?_)
  intro w7 hb7 hE7
  clear hE6
  refine ⟨fun _ => hb7, ?_⟩
  simp only [Act.put, List.setIfInBounds_toArray, List.set_cons_zero, List.set_cons_succ]
  refine wpB_step (i := 4) (by kernel_rfl) rfl (st_gives hE7 rfl (run_call rfl Try.call12) (HS1.out _) ?_)
  intro w8 hb8 hE8
  clear hE7
  refine ⟨fun _ => hb8, ?_⟩
  simp only [Act.put, List.setIfInBounds_toArray, List.set_cons_zero, List.set_cons_succ]
  refine wpB_take (i := 5) (by kernel_rfl) rfl (by kernel_rfl) (fun _ _ _ h => h) rfl (v_and rfl rfl (fun _ => rfl)) ?_
  simp only [Act.put, List.setIfInBounds_toArray, List.set_cons_zero, List.set_cons_succ]
  refine wpB_take (i := 6) (by kernel_rfl) rfl (by kernel_rfl) (fun _ _ _ h => h) rfl (v_moveT (.inl rfl) rfl) ?_
  simp only [Act.put, List.setIfInBounds_toArray, List.set_cons_zero, List.set_cons_succ]
  refine wpB_step (i := 7) (by kernel_rfl) rfl (st_gives hE8 rfl (run_call rfl Try.call10) (H2.out _) ?_)
  intro w9 hb9 hE9
  clear hE8
  refine ⟨fun _ => hb9, ?_⟩
  simp only [Act.put, List.setIfInBounds_toArray, List.set_cons_zero, List.set_cons_succ]
  refine wpB_step (i := 8) (by kernel_rfl) rfl (st_gives hE9 rfl (run_call rfl Try.call17) (HI.out _) ?_)
  intro w10 hb10 hE10
  clear hE9
  refine ⟨fun _ => hb10, ?_⟩
  simp only [Act.put, List.setIfInBounds_toArray, List.set_cons_zero, List.set_cons_succ]
  refine wpB_step (i := 9) (by kernel_rfl) rfl (st_gives hE10 rfl (run_call rfl Try.call10) (H2.out _) ?_)
  intro w11 hb11 hE11
  clear hE10
  refine ⟨fun _ => hb11, ?_⟩
  simp only [Act.put, List.setIfInBounds_toArray, List.set_cons_zero, List.set_cons_succ]
  refine wpB_step (i := 10) (by kernel_rfl) rfl (st_gives hE11 rfl (run_call rfl Try.call13) (HM.out _) ?_)
  intro w12 hb12 hE12
  clear hE11
  refine ⟨fun _ => hb12, ?_⟩
  simp only [Act.put, List.setIfInBounds_toArray, List.set_cons_zero, List.set_cons_succ]
  refine wpB_step (i := 11) (by kernel_rfl) rfl (st_gives hE12 rfl (run_call rfl Try.call10) (H1.out _) ?_)
  intro w13 hb13 hE13
  clear hE12
  refine ⟨fun _ => hb13, ?_⟩
  simp only [Act.put, List.setIfInBounds_toArray, List.set_cons_zero, List.set_cons_succ]
  refine wpB_step (i := 12) (by kernel_rfl) rfl (st_gives hE13 rfl (run_call rfl Try.call12) (HS2.out _) ?_)
  intro w14 hb14 hE14
  clear hE13
  refine ⟨fun _ => hb14, ?_⟩
  simp only [Act.put, List.setIfInBounds_toArray, List.set_cons_zero, List.set_cons_succ]
  refine wpB_take (i := 13) (by kernel_rfl) rfl (by kernel_rfl) (fun _ _ _ h => h) rfl (v_and rfl rfl (fun _ => rfl)) ?_
  simp only [Act.put, List.setIfInBounds_toArray, List.set_cons_zero, List.set_cons_succ]
  refine wpB_take (i := 14) (by kernel_rfl) rfl (by kernel_rfl) (fun _ _ _ h => h) rfl (v_moveT (.inl rfl) rfl) ?_
  simp only [Act.put, List.setIfInBounds_toArray, List.set_cons_zero, List.set_cons_succ]
  refine wpB_step (i := 15) (by kernel_rfl) rfl (st_gives hE14 rfl (run_call rfl Try.call10) (H1.out _) ?_)
  intro w15 hb15 hE15
  clear hE14
  refine ⟨fun _ => hb15, ?_⟩
  simp only [Act.put, List.setIfInBounds_toArray, List.set_cons_zero, List.set_cons_succ]
  refine wpB_step (i := 16) (by kernel_rfl) rfl (st_gives hE15 rfl (run_call rfl Try.call16) (HZ.out _) ?_)
  intro w16 hb16 hE16
  clear hE15
  refine ⟨fun _ => hb16, ?_⟩
  simp only [Act.put, List.setIfInBounds_toArray, List.set_cons_zero, List.set_cons_succ]
  refine wpB_take (i := 17) (by kernel_rfl) rfl (by kernel_rfl) (fun _ _ _ h => h) rfl (v_not rfl rfl) ?_
  simp only [Act.put, List.setIfInBounds_toArray, List.set_cons_zero, List.set_cons_succ]
  refine wpB_take (i := 18) (by kernel_rfl) rfl (by kernel_rfl) (fun _ _ _ h => h) rfl (v_and rfl rfl (fun _ => rfl)) ?_
  simp only [Act.put, List.setIfInBounds_toArray, List.set_cons_zero, List.set_cons_succ]
  refine wpB_step (i := 19) (by kernel_rfl) rfl (st_val rfl (v_moveT (.inr rfl) rfl) ?_)
  refine ⟨fun _ => Below.refl _ _, ?_⟩
  simp only [Act.put, List.setIfInBounds_toArray, List.set_cons_zero, List.set_cons_succ]
  refine wpB_done (by kernel_rfl) ?_ _
  repeat ((fail_if_success (with_reducible show wpList _ _ _ (List.cons _ _) _ _)); (fail_if_success (with_reducible show Code.wp _ (Code.region _ _ true) _ _ _)); go_step)
  go_returns
  exact ⟨rfl, hE16.below⟩
end Go.Proofs.Ytlejdddhgnfkdaa
