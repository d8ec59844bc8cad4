/-
  Layer 6: the law's own example; 'CurveGroup'. No condition.
-/
import Derived.Test.YtmebjoehmheknaaCrvQ
namespace Go.Proofs.Ytmebjoehmheknaa
open Go.RowKit
set_option linter.unusedVariables false
set_option linter.unusedSimpArgs false

theorem encB_len (P : Pt) : (encB P).length = 32 := digs_length _ _ _
theorem encB_Digs (P : Pt) : Digs 256 (encB P) := digs_Digs (by decide) _ _
theorem encB_val (P : Pt) : val 256 (encB P) = encN P := by
  unfold encB
  rw [val_digs]
  exact Nat.mod_eq_of_lt (encN_lt P)
theorem encB_inj {P Q : Pt} (h : encB P = encB Q) : P = Q := encN_inj (by rw [← encB_val, h, encB_val])
theorem encB_iff {P Q : Pt} : decide (encB P = encB Q) = decide (P = Q) := decide_eq_decide.2 ⟨encB_inj, fun h => by rw [h]⟩
theorem encN_base : encN baseP = bY := by
  have e1 : baseP.x.val = bX := kk_val bX_lt
  have e2 : baseP.y.val = bY := kk_val bY_lt
  have h : bY + 57896044618658097711785492504343953926634992332820282019728792003956564819968 * (bX % 2) = bY := by kernel_rfl
  unfold encN
  rw [e1, e2]
  exact h
theorem base0 : (encB baseP).getD 0 0 = 88 := by
  unfold encB
  rw [digs_getD _ _ _ _ (by decide), encN_base]
  kernel_rfl
theorem base_ne : baseP ≠ pzero := fun h => by
  have e2 : baseP.y.val = bY := kk_val bY_lt
  rw [h] at e2
  have e3 : pzero.y.val = 1 := kk_val (a := 1) (by decide)
  rw [e3] at e2
  exact absurd e2 (of_decide_eq_true (by kernel_rfl))
theorem dbl_two (P : Pt) : smul 2 P = padd P P := by
  show padd (smul 1 P) P = padd P P
  rw [smul_one]

def twoB : List Nat := [2, 0, 0, 0, 0, 0, 0, 0, 0, 0, 0, 0, 0, 0, 0, 0, 0, 0, 0, 0, 0, 0, 0, 0, 0, 0, 0, 0, 0, 0, 0, 0]
set_option maxHeartbeats 4000000 in
theorem awake_any (w : World) : Gives 18 #[] w (.bool true) := by
  obtain ⟨g, hg, Gg⟩ := PBase_any
  obtain ⟨t, ht, Gt⟩ := PMul_any hg (b := twoB) rfl (by unfold Digs twoB; decide)
  obtain ⟨d, hd, Gd⟩ := PDouble_any hg
  have e2 : val 256 twoB = 2 := by decide
  rw [e2, dbl_two] at ht
  have hS1 := fun w => PSame_any ht hd w
  rw [decide_eq_true rfl] at hS1
  have hS2 := fun w => PSame_any hg PRep_zero w
  rw [decide_eq_false base_ne] at hS2
  have hB := fun w => PBytes_any hg w
  have lB := encB_len baseP
  have h0 := base0
  obtain ⟨B, hBe⟩ : ∃ B, encB baseP = B := ⟨_, rfl⟩
  rw [hBe] at hB lB h0
  have lg := hg.len
  have lt := ht.len
  have ld := hd.len
  have HG := Lib.hid Gg
  have HT := Lib.hid Gt
  have HD := Lib.hid Gd
  have S1 := Lib.hid hS1
  have S2 := Lib.hid hS2
  have HB := Lib.hid hB
  have H0 := Lib.hid h0
  clear Gg Gt Gd hS1 hS2 hB h0 hBe hg ht hd e2
  have hE0 := Env.nil w
  go_enter Try.func18, Try.ntmps18
  repeat ((fail_if_success (with_reducible show wpList _ _ _ (List.cons _ _) _ _)); (fail_if_success (with_reducible show Code.wp _ (Code.region _ _ true) _ _ _)); go_step)
  refine wl_step (st_val rfl (v_moveC (.inr rfl)) ?_)
  simp only [Act.put, List.setIfInBounds_toArray, List.set_cons_zero, List.set_cons_succ]
  repeat ((fail_if_success (with_reducible show wpList _ _ _ (List.cons _ _) _ _)); (fail_if_success (with_reducible show Code.wp _ (Code.region _ _ true) _ _ _)); go_step)
  refine wl_step (st_gives hE0 rfl (run_call rfl Try.call8) (HG.out _) ?_)
  intro w1 hb1 hE1
  clear hE0
  simp only [Act.put, List.setIfInBounds_toArray, List.set_cons_zero, List.set_cons_succ]
  refine wl_step (st_alloc (zs := ints .u64 (List.replicate 20 0)) hE1 rfl rfl (fun w => by kernel_rfl) ?_)
  intro g0 w2 hb2 hE2
  clear hE1
  simp only [Act.put, List.setIfInBounds_toArray, List.set_cons_zero, List.set_cons_succ]
  refine wl_step (st_store (i := 0) hE2 rfl rfl rfl rfl rfl (sz_of (n := 20) (by kernel_rfl) (by first | (simp only [ints_size, digs_length, List.length_replicate, List.length_cons, List.length_nil]; done) | (simp only [ints_size, digs_length, List.length_replicate, List.length_cons, List.length_nil, List.length_set, List.length_append]; omega) | rfl)) (by first | (simp only [ints_size, digs_length, List.length_replicate, List.length_cons, List.length_nil]; done) | (simp only [ints_size, digs_length, List.length_replicate, List.length_cons, List.length_nil, List.length_set, List.length_append]; omega) | rfl) (by first | exact ints_one _ _ | decide | simp [*]) ?_)
  intro w3 hE3
  clear hE2
  simp only [List.set_cons_zero, List.set_cons_succ] at hE3
  simp only [Act.put, List.setIfInBounds_toArray, List.set_cons_zero, List.set_cons_succ]
  repeat ((fail_if_success (with_reducible show wpList _ _ _ (List.cons _ _) _ _)); (fail_if_success (with_reducible show Code.wp _ (Code.region _ _ true) _ _ _)); go_step)
  refine wp_region_B (n := 19) 18 (by kernel_rfl) rfl hE3 ?_
  intro w4 hb4 hE4
  clear hE3
  refine wpB_take (i := 0) (by kernel_rfl) rfl (by kernel_rfl) (fun _ _ _ h => h) rfl (v_load (i := 0) hE4 rfl rfl rfl Try.underlying28 rfl (sz_of (n := 20) (by kernel_rfl) (by first | (simp only [ints_size, digs_length, List.length_replicate, List.length_cons, List.length_nil]; done) | (simp only [ints_size, digs_length, List.length_replicate, List.length_cons, List.length_nil, List.length_set, List.length_append]; omega) | rfl))) ?_
  simp only [Act.put, List.setIfInBounds_toArray, List.set_cons_zero, List.set_cons_succ]
  refine wpB_take (i := 1) (by kernel_rfl) rfl (by kernel_rfl) (fun _ _ _ h => h) rfl (v_built (k := .u8) (l := twoB) rfl (fun w => by kernel_rfl)) ?_
  simp only [Act.put, List.setIfInBounds_toArray, List.set_cons_zero, List.set_cons_succ]
  refine wpB_take (i := 3) (by kernel_rfl) rfl (by kernel_rfl) (fun _ _ _ h => h) rfl (v_load (i := 0) hE4 rfl rfl rfl Try.underlying28 rfl (sz_of (n := 20) (by kernel_rfl) (by first | (simp only [ints_size, digs_length, List.length_replicate, List.length_cons, List.length_nil]; done) | (simp only [ints_size, digs_length, List.length_replicate, List.length_cons, List.length_nil, List.length_set, List.length_append]; omega) | rfl))) ?_
  simp only [Act.put, List.setIfInBounds_toArray, List.set_cons_zero, List.set_cons_succ]
  refine wpB_step (i := 2) (by kernel_rfl) rfl (st_gives hE4 rfl (run_call rfl Try.call9) (HT.out _) ?_)
  intro w5 hb5 hE5
  clear hE4
  refine ⟨fun _ => hb5, ?_⟩
  simp only [Act.put, List.setIfInBounds_toArray, List.set_cons_zero, List.set_cons_succ]
  refine wpB_step (i := 4) (by kernel_rfl) rfl (st_gives hE5 rfl (run_call rfl Try.call14) (HD.out _) ?_)
  intro w6 hb6 hE6
  clear hE5
  refine ⟨fun _ => hb6, ?_⟩
  simp only [Act.put, List.setIfInBounds_toArray, List.set_cons_zero, List.set_cons_succ]
  refine wpB_step (i := 5) (by kernel_rfl) rfl (st_gives hE6 rfl (run_call rfl Try.call11) (S1.out _) ?_)
  intro w7 hb7 hE7
  clear hE6
  refine ⟨fun _ => hb7, ?_⟩
  simp only [Act.put, List.setIfInBounds_toArray, List.set_cons_zero, List.set_cons_succ]
  refine wpB_take (i := 6) (by kernel_rfl) rfl (by kernel_rfl) (fun _ _ _ h => h) rfl (v_moveT (.inl rfl) rfl) ?_
  simp only [Act.put, List.setIfInBounds_toArray, List.set_cons_zero, List.set_cons_succ]
  refine wpB_take (i := 7) (by kernel_rfl) rfl (by kernel_rfl) (fun _ _ _ h => h) rfl (v_load (i := 0) hE7 rfl rfl rfl Try.underlying28 rfl (sz_of (n := 20) (by kernel_rfl) (by first | (simp only [ints_size, digs_length, List.length_replicate, List.length_cons, List.length_nil]; done) | (simp only [ints_size, digs_length, List.length_replicate, List.length_cons, List.length_nil, List.length_set, List.length_append]; omega) | rfl))) ?_
  simp only [Act.put, List.setIfInBounds_toArray, List.set_cons_zero, List.set_cons_succ]
  refine wpB_step (i := 8) (by kernel_rfl) rfl (st_gives hE7 rfl (run_call rfl Try.call15) (HB.out _) ?_)
  intro w8 hb8 hE8
  clear hE7
  refine ⟨fun _ => hb8, ?_⟩
  simp only [Act.put, List.setIfInBounds_toArray, List.set_cons_zero, List.set_cons_succ]
  refine wpB_take (i := 9) (by kernel_rfl) rfl (by kernel_rfl) (fun _ _ _ h => h) rfl (v_idx (j := 0) rfl rfl rfl Try.underlying22 (by kernel_rfl : _ = some Try.t5) rfl Try.underlying5 (by first | assumption | simp) (by first | assumption | omega)) ?_
  simp only [Act.put, List.setIfInBounds_toArray, List.set_cons_zero, List.set_cons_succ]
  rw [H0.out]
  refine wpB_take (i := 10) (by kernel_rfl) rfl (by kernel_rfl) (fun _ _ _ h => h) rfl (v_eql (n := 88) rfl rfl rfl) ?_
  simp only [Act.put, List.setIfInBounds_toArray, List.set_cons_zero, List.set_cons_succ]
  refine wpB_take (i := 11) (by kernel_rfl) rfl (by kernel_rfl) (fun _ _ _ h => h) rfl (v_and rfl rfl (fun _ => rfl)) ?_
  simp only [Act.put, List.setIfInBounds_toArray, List.set_cons_zero, List.set_cons_succ]
  refine wpB_take (i := 12) (by kernel_rfl) rfl (by kernel_rfl) (fun _ _ _ h => h) rfl (v_moveT (.inl rfl) rfl) ?_
  simp only [Act.put, List.setIfInBounds_toArray, List.set_cons_zero, List.set_cons_succ]
  refine wpB_take (i := 13) (by kernel_rfl) rfl (by kernel_rfl) (fun _ _ _ h => h) rfl (v_load (i := 0) hE8 rfl rfl rfl Try.underlying28 rfl (sz_of (n := 20) (by kernel_rfl) (by first | (simp only [ints_size, digs_length, List.length_replicate, List.length_cons, List.length_nil]; done) | (simp only [ints_size, digs_length, List.length_replicate, List.length_cons, List.length_nil, List.length_set, List.length_append]; omega) | rfl))) ?_
  simp only [Act.put, List.setIfInBounds_toArray, List.set_cons_zero, List.set_cons_succ]
  refine wpB_step (i := 14) (by kernel_rfl) rfl (st_gives hE8 rfl (run_call rfl Try.call12) (PZero_any _) ?_)
  intro w9 hb9 hE9
  clear hE8
  refine ⟨fun _ => hb9, ?_⟩
  simp only [Act.put, List.setIfInBounds_toArray, List.set_cons_zero, List.set_cons_succ]
  refine wpB_step (i := 15) (by kernel_rfl) rfl (st_gives hE9 rfl (run_call rfl Try.call11) (S2.out _) ?_)
  intro w10 hb10 hE10
  clear hE9
  refine ⟨fun _ => hb10, ?_⟩
  simp only [Act.put, List.setIfInBounds_toArray, List.set_cons_zero, List.set_cons_succ]
  refine wpB_take (i := 16) (by kernel_rfl) rfl (by kernel_rfl) (fun _ _ _ h => h) rfl (v_not rfl rfl) ?_
  simp only [Act.put, List.setIfInBounds_toArray, List.set_cons_zero, List.set_cons_succ]
  refine wpB_take (i := 17) (by kernel_rfl) rfl (by kernel_rfl) (fun _ _ _ h => h) rfl (v_and rfl rfl (fun _ => rfl)) ?_
  simp only [Act.put, List.setIfInBounds_toArray, List.set_cons_zero, List.set_cons_succ]
  refine wpB_step (i := 18) (by kernel_rfl) rfl (st_val rfl (v_moveT (.inr rfl) rfl) ?_)
  refine ⟨fun _ => Below.refl _ _, ?_⟩
  simp only [Act.put, List.setIfInBounds_toArray, List.set_cons_zero, List.set_cons_succ]
  refine wpB_done (by kernel_rfl) ?_ _
  repeat ((fail_if_success (with_reducible show wpList _ _ _ (List.cons _ _) _ _)); (fail_if_success (with_reducible show Code.wp _ (Code.region _ _ true) _ _ _)); go_step)
  go_returns
  exact ⟨rfl, hE10.below⟩

set_option maxRecDepth 100000 in
set_option maxHeartbeats 16000000 in
theorem curveGroup_walk (a b c : List Nat) (ha : a.length = 32) (hb : b.length = 32) (hc : c.length = 32) (da : Digs 256 a) (db : Digs 256 b) (dc : Digs 256 c) (w : World) :
    Gives 3 #[.agg (ints .u8 a), .agg (ints .u8 b), .agg (ints .u8 c)] w (.bool true) := by
  obtain ⟨g, hg, Gg⟩ := PBase_any
  obtain ⟨p, hp, Gp⟩ := PMul_any hg ha da
  obtain ⟨q, hq, Gq⟩ := PMul_any hg hb db
  obtain ⟨r, hr, Gr⟩ := PMul_any hg hc dc
  obtain ⟨P, hPe⟩ : ∃ P, smul (val 256 a) baseP = P := ⟨_, rfl⟩
  obtain ⟨Q, hQe⟩ : ∃ Q, smul (val 256 b) baseP = Q := ⟨_, rfl⟩
  obtain ⟨R, hRe⟩ : ∃ R, smul (val 256 c) baseP = R := ⟨_, rfl⟩
  have hcm : smul (val 256 a) Q = smul (val 256 b) P := by rw [← hPe, ← hQe, smul_comm]
  rw [hPe] at hp
  rw [hQe] at hq
  rw [hRe] at hr
  obtain ⟨x1, hx1, Gx1⟩ := PAdd_any hp hq
  obtain ⟨x2, hx2, Gx2⟩ := PAdd_any hq hp
  obtain ⟨x3, hx3, Gx3⟩ := PAdd_any hx1 hr
  obtain ⟨x4, hx4, Gx4⟩ := PAdd_any hq hr
  obtain ⟨x5, hx5, Gx5⟩ := PAdd_any hp hx4
  obtain ⟨x6, hx6, Gx6⟩ := PAdd_any hp PRep_zero
  obtain ⟨np, hnp, Gnp⟩ := PNeg_any hp
  obtain ⟨x7, hx7, Gx7⟩ := PAdd_any hp hnp
  obtain ⟨x8, hx8, Gx8⟩ := PAdd_any hp hp
  obtain ⟨dp, hdp, Gdp⟩ := PDouble_any hp
  obtain ⟨m1, hm1, Gm1⟩ := PMul_any hq ha da
  obtain ⟨m2, hm2, Gm2⟩ := PMul_any hp hb db
  obtain ⟨m3, hm3, Gm3⟩ := PMul_any hg (b := ordD) rfl ordD_Digs
  rw [ordD_val, ord_base] at hm3
  have hS1 := fun w => PSame_any hx1 hx2 w
  rw [decide_eq_true (padd_comm P Q)] at hS1
  have hS2 := fun w => PSame_any hx3 hx5 w
  rw [decide_eq_true (padd_assoc P Q R)] at hS2
  have hS3 := fun w => PSame_any hx6 hp w
  rw [decide_eq_true (padd_zero P)] at hS3
  have hS4 := fun w => PSame_any hx7 PRep_zero w
  rw [decide_eq_true (padd_neg P)] at hS4
  have hS5 := fun w => PSame_any hx8 hdp w
  rw [decide_eq_true rfl] at hS5
  have hS6 := fun w => PSame_any hp hq w
  have hS7 := fun w => PSame_any hm1 hm2 w
  rw [decide_eq_true hcm] at hS7
  have hS8 := fun w => PSame_any hm3 PRep_zero w
  rw [decide_eq_true rfl] at hS8
  have hB1 := fun w => PBytes_any hp w
  have hB2 := fun w => PBytes_any hq w
  have hbe : decide (encB P = encB Q) = decide (P = Q) := encB_iff
  have lb1 := encB_len P
  have lb2 := encB_len Q
  obtain ⟨t, ht⟩ : ∃ t, decide (P = Q) = t := ⟨_, rfl⟩
  obtain ⟨b1, hb1⟩ : ∃ b, encB P = b := ⟨_, rfl⟩
  obtain ⟨b2, hb2⟩ : ∃ b, encB Q = b := ⟨_, rfl⟩
  rw [ht] at hS6 hbe
  rw [hb1] at hbe hB1 lb1
  rw [hb2] at hbe hB2 lb2
  have lg := hg.len
  have Hg := Lib.hid Gg
  clear Gg
  have lp := hp.len
  have Hp := Lib.hid Gp
  clear Gp
  have lq := hq.len
  have Hq := Lib.hid Gq
  clear Gq
  have lr := hr.len
  have Hr := Lib.hid Gr
  clear Gr
  have lx1 := hx1.len
  have Hx1 := Lib.hid Gx1
  clear Gx1
  have lx2 := hx2.len
  have Hx2 := Lib.hid Gx2
  clear Gx2
  have lx3 := hx3.len
  have Hx3 := Lib.hid Gx3
  clear Gx3
  have lx4 := hx4.len
  have Hx4 := Lib.hid Gx4
  clear Gx4
  have lx5 := hx5.len
  have Hx5 := Lib.hid Gx5
  clear Gx5
  have lx6 := hx6.len
  have Hx6 := Lib.hid Gx6
  clear Gx6
  have lx7 := hx7.len
  have Hx7 := Lib.hid Gx7
  clear Gx7
  have lx8 := hx8.len
  have Hx8 := Lib.hid Gx8
  clear Gx8
  have lnp := hnp.len
  have Hnp := Lib.hid Gnp
  clear Gnp
  have ldp := hdp.len
  have Hdp := Lib.hid Gdp
  clear Gdp
  have lm1 := hm1.len
  have Hm1 := Lib.hid Gm1
  clear Gm1
  have lm2 := hm2.len
  have Hm2 := Lib.hid Gm2
  clear Gm2
  have lm3 := hm3.len
  have Hm3 := Lib.hid Gm3
  clear Gm3
  have HS1 := Lib.hid hS1
  clear hS1
  have HS2 := Lib.hid hS2
  clear hS2
  have HS3 := Lib.hid hS3
  clear hS3
  have HS4 := Lib.hid hS4
  clear hS4
  have HS5 := Lib.hid hS5
  clear hS5
  have HS6 := Lib.hid hS6
  clear hS6
  have HS7 := Lib.hid hS7
  clear hS7
  have HS8 := Lib.hid hS8
  clear hS8
  have HB1 := Lib.hid hB1
  clear hB1
  have HB2 := Lib.hid hB2
  clear hB2
  have HE := Lib.hid hbe
  have HQ := Lib.hid (fun w => ordQ_any w)
  clear hbe ht hb1 hb2 hcm hPe hQe hRe hg hp hq hr hx1 hx2 hx3 hx4 hx5 hx6 hx7 hx8 hnp hdp hm1 hm2 hm3 da db dc
  have hE0 := Env.nil w
  go_enter Try.func3, Try.ntmps3
  repeat ((fail_if_success (with_reducible show wpList _ _ _ (List.cons _ _) _ _)); (fail_if_success (with_reducible show Code.wp _ (Code.region _ _ true) _ _ _)); go_step)
  refine wl_step (st_boxA hE0 rfl rfl rfl ?_)
  intro g0 w1 hb1 hE1
  clear hE0
  simp only [Act.put, List.setIfInBounds_toArray, List.set_cons_zero, List.set_cons_succ]
  refine wl_step (st_boxA hE1 rfl rfl rfl ?_)
  intro g1 w2 hb2 hE2
  clear hE1
  simp only [Act.put, List.setIfInBounds_toArray, List.set_cons_zero, List.set_cons_succ]
  refine wl_step (st_boxA hE2 rfl rfl rfl ?_)
  intro g2 w3 hb3 hE3
  clear hE2
  simp only [Act.put, List.setIfInBounds_toArray, List.set_cons_zero, List.set_cons_succ]
  refine wl_step (st_val rfl (v_moveC (.inr rfl)) ?_)
  simp only [Act.put, List.setIfInBounds_toArray, List.set_cons_zero, List.set_cons_succ]
  repeat ((fail_if_success (with_reducible show wpList _ _ _ (List.cons _ _) _ _)); (fail_if_success (with_reducible show Code.wp _ (Code.region _ _ true) _ _ _)); go_step)
  refine wl_step (st_gives hE3 rfl (run_call rfl Try.call8) (Hg.out _) ?_)
  intro w4 hb4 hE4
  clear hE3
  simp only [Act.put, List.setIfInBounds_toArray, List.set_cons_zero, List.set_cons_succ]
  refine wl_step (st_alloc (zs := ints .u64 (List.replicate 20 0)) hE4 rfl rfl (fun w => by kernel_rfl) ?_)
  intro g3 w5 hb5 hE5
  clear hE4
  simp only [Act.put, List.setIfInBounds_toArray, List.set_cons_zero, List.set_cons_succ]
  refine wl_step (st_store (i := 0) hE5 rfl rfl rfl rfl rfl (sz_of (n := 20) (by kernel_rfl) (by first | (simp only [ints_size, digs_length, List.length_replicate, List.length_cons, List.length_nil]; done) | (simp only [ints_size, digs_length, List.length_replicate, List.length_cons, List.length_nil, List.length_set, List.length_append]; omega) | rfl)) (by first | (simp only [ints_size, digs_length, List.length_replicate, List.length_cons, List.length_nil]; done) | (simp only [ints_size, digs_length, List.length_replicate, List.length_cons, List.length_nil, List.length_set, List.length_append]; omega) | rfl) (by first | exact ints_one _ _ | decide | simp [*]) ?_)
  intro w6 hE6
  clear hE5
  simp only [List.set_cons_zero, List.set_cons_succ] at hE6
  simp only [Act.put, List.setIfInBounds_toArray, List.set_cons_zero, List.set_cons_succ]
  repeat ((fail_if_success (with_reducible show wpList _ _ _ (List.cons _ _) _ _)); (fail_if_success (with_reducible show Code.wp _ (Code.region _ _ true) _ _ _)); go_step)
  refine wp_region_env 12 (by kernel_rfl) (by kernel_rfl) (fun _ _ d _ _ h => by cases d <;> exact h) hE6 ?_
  refine headRun_val (fun w9 hW => (v_load (i := 0) hW rfl rfl rfl Try.underlying28 rfl (sz_of (n := 20) (by kernel_rfl) (by first | (simp only [ints_size, digs_length, List.length_replicate, List.length_cons, List.length_nil]; done) | (simp only [ints_size, digs_length, List.length_replicate, List.length_cons, List.length_nil, List.length_set, List.length_append]; omega) | rfl))) w9 (Below.refl _ _)) ?_
  simp only [Act.put, List.setIfInBounds_toArray, List.set_cons_zero, List.set_cons_succ]
  refine headRun_val (fun w9 hW => (v_load (i := 3) hW rfl rfl rfl Try.underlying22 rfl (sz_of (n := 32) (by kernel_rfl) (by first | (simp only [ints_size, digs_length, List.length_replicate, List.length_cons, List.length_nil]; done) | (simp only [ints_size, digs_length, List.length_replicate, List.length_cons, List.length_nil, List.length_set, List.length_append]; omega) | rfl))) w9 (Below.refl _ _)) ?_
  simp only [Act.put, List.setIfInBounds_toArray, List.set_cons_zero, List.set_cons_succ]
  refine headRun_call (fun w1 => run_call rfl Try.call9) (fun w1 hW => Hp.out _) ?_
  simp only [Act.put, List.setIfInBounds_toArray, List.set_cons_zero, List.set_cons_succ]
  refine headRun_val (fun w9 hW => (v_load (i := 0) hW rfl rfl rfl Try.underlying28 rfl (sz_of (n := 20) (by kernel_rfl) (by first | (simp only [ints_size, digs_length, List.length_replicate, List.length_cons, List.length_nil]; done) | (simp only [ints_size, digs_length, List.length_replicate, List.length_cons, List.length_nil, List.length_set, List.length_append]; omega) | rfl))) w9 (Below.refl _ _)) ?_
  simp only [Act.put, List.setIfInBounds_toArray, List.set_cons_zero, List.set_cons_succ]
  refine headRun_val (fun w9 hW => (v_load (i := 2) hW rfl rfl rfl Try.underlying22 rfl (sz_of (n := 32) (by kernel_rfl) (by first | (simp only [ints_size, digs_length, List.length_replicate, List.length_cons, List.length_nil]; done) | (simp only [ints_size, digs_length, List.length_replicate, List.length_cons, List.length_nil, List.length_set, List.length_append]; omega) | rfl))) w9 (Below.refl _ _)) ?_
  simp only [Act.put, List.setIfInBounds_toArray, List.set_cons_zero, List.set_cons_succ]
  refine headRun_call (fun w1 => run_call rfl Try.call9) (fun w1 hW => Hq.out _) ?_
  simp only [Act.put, List.setIfInBounds_toArray, List.set_cons_zero, List.set_cons_succ]
  refine headRun_val (fun w9 hW => (v_load (i := 0) hW rfl rfl rfl Try.underlying28 rfl (sz_of (n := 20) (by kernel_rfl) (by first | (simp only [ints_size, digs_length, List.length_replicate, List.length_cons, List.length_nil]; done) | (simp only [ints_size, digs_length, List.length_replicate, List.length_cons, List.length_nil, List.length_set, List.length_append]; omega) | rfl))) w9 (Below.refl _ _)) ?_
  simp only [Act.put, List.setIfInBounds_toArray, List.set_cons_zero, List.set_cons_succ]
  refine headRun_val (fun w9 hW => (v_load (i := 1) hW rfl rfl rfl Try.underlying22 rfl (sz_of (n := 32) (by kernel_rfl) (by first | (simp only [ints_size, digs_length, List.length_replicate, List.length_cons, List.length_nil]; done) | (simp only [ints_size, digs_length, List.length_replicate, List.length_cons, List.length_nil, List.length_set, List.length_append]; omega) | rfl))) w9 (Below.refl _ _)) ?_
  simp only [Act.put, List.setIfInBounds_toArray, List.set_cons_zero, List.set_cons_succ]
  refine headRun_call (fun w1 => run_call rfl Try.call9) (fun w1 hW => Hr.out _) ?_
  simp only [Act.put, List.setIfInBounds_toArray, List.set_cons_zero, List.set_cons_succ]
  refine headRun_alloc (zs := ints .u64 (List.replicate 20 0)) rfl rfl (fun w => by kernel_rfl) ?_
  simp only [Act.put, List.setIfInBounds_toArray, List.set_cons_zero, List.set_cons_succ]
  refine headRun_alloc (zs := ints .u64 (List.replicate 20 0)) rfl rfl (fun w => by kernel_rfl) ?_
  simp only [Act.put, List.setIfInBounds_toArray, List.set_cons_zero, List.set_cons_succ]
  refine headRun_alloc (zs := ints .u64 (List.replicate 20 0)) rfl rfl (fun w => by kernel_rfl) ?_
  simp only [Act.put, List.setIfInBounds_toArray, List.set_cons_zero, List.set_cons_succ]
  refine headRun_nil (endK3 ?_)
  intro g4 g5 g6 w7 hE7
  clear hE6
  simp only [List.drop_succ_cons, List.drop_zero, Act.put, List.setIfInBounds_toArray, List.set_cons_zero, List.set_cons_succ]
  refine wl_step (st_store (i := 0) hE7 rfl rfl rfl rfl rfl (sz_of (n := 20) (by kernel_rfl) (by first | (simp only [ints_size, digs_length, List.length_replicate, List.length_cons, List.length_nil]; done) | (simp only [ints_size, digs_length, List.length_replicate, List.length_cons, List.length_nil, List.length_set, List.length_append]; omega) | rfl)) (by first | (simp only [ints_size, digs_length, List.length_replicate, List.length_cons, List.length_nil]; done) | (simp only [ints_size, digs_length, List.length_replicate, List.length_cons, List.length_nil, List.length_set, List.length_append]; omega) | rfl) (by first | exact ints_one _ _ | decide | simp [*]) ?_)
  intro w8 hE8
  clear hE7
  simp only [List.set_cons_zero, List.set_cons_succ] at hE8
  simp only [Act.put, List.setIfInBounds_toArray, List.set_cons_zero, List.set_cons_succ]
  refine wl_step (st_store (i := 1) hE8 rfl rfl rfl rfl rfl (sz_of (n := 20) (by kernel_rfl) (by first | (simp only [ints_size, digs_length, List.length_replicate, List.length_cons, List.length_nil]; done) | (simp only [ints_size, digs_length, List.length_replicate, List.length_cons, List.length_nil, List.length_set, List.length_append]; omega) | rfl)) (by first | (simp only [ints_size, digs_length, List.length_replicate, List.length_cons, List.length_nil]; done) | (simp only [ints_size, digs_length, List.length_replicate, List.length_cons, List.length_nil, List.length_set, List.length_append]; omega) | rfl) (by first | exact ints_one _ _ | decide | simp [*]) ?_)
  intro w9 hE9
  clear hE8
  simp only [List.set_cons_zero, List.set_cons_succ] at hE9
  simp only [Act.put, List.setIfInBounds_toArray, List.set_cons_zero, List.set_cons_succ]
  refine wl_step (st_store (i := 2) hE9 rfl rfl rfl rfl rfl (sz_of (n := 20) (by kernel_rfl) (by first | (simp only [ints_size, digs_length, List.length_replicate, List.length_cons, List.length_nil]; done) | (simp only [ints_size, digs_length, List.length_replicate, List.length_cons, List.length_nil, List.length_set, List.length_append]; omega) | rfl)) (by first | (simp only [ints_size, digs_length, List.length_replicate, List.length_cons, List.length_nil]; done) | (simp only [ints_size, digs_length, List.length_replicate, List.length_cons, List.length_nil, List.length_set, List.length_append]; omega) | rfl) (by first | exact ints_one _ _ | decide | simp [*]) ?_)
  intro w10 hE10
  clear hE9
  simp only [List.set_cons_zero, List.set_cons_succ] at hE10
  simp only [Act.put, List.setIfInBounds_toArray, List.set_cons_zero, List.set_cons_succ]
  repeat ((fail_if_success (with_reducible show wpList _ _ _ (List.cons _ _) _ _)); (fail_if_success (with_reducible show Code.wp _ (Code.region _ _ true) _ _ _)); go_step)
  refine wp_region_B (n := 48) 48 (by kernel_rfl) rfl hE10 ?_
  intro w11 hb11 hE11
  clear hE10
  refine wpB_take (i := 0) (by kernel_rfl) rfl (by kernel_rfl) (fun _ _ _ h => h) rfl (v_load (i := 0) hE11 rfl rfl rfl Try.underlying28 rfl (sz_of (n := 20) (by kernel_rfl) (by first | (simp only [ints_size, digs_length, List.length_replicate, List.length_cons, List.length_nil]; done) | (simp only [ints_size, digs_length, List.length_replicate, List.length_cons, List.length_nil, List.length_set, List.length_append]; omega) | rfl))) ?_
  simp only [Act.put, List.setIfInBounds_toArray, List.set_cons_zero, List.set_cons_succ]
  refine wpB_take (i := 1) (by kernel_rfl) rfl (by kernel_rfl) (fun _ _ _ h => h) rfl (v_load (i := 1) hE11 rfl rfl rfl Try.underlying28 rfl (sz_of (n := 20) (by kernel_rfl) (by first | (simp only [ints_size, digs_length, List.length_replicate, List.length_cons, List.length_nil]; done) | (simp only [ints_size, digs_length, List.length_replicate, List.length_cons, List.length_nil, List.length_set, List.length_append]; omega) | rfl))) ?_
  simp only [Act.put, List.setIfInBounds_toArray, List.set_cons_zero, List.set_cons_succ]
  refine wpB_take (i := 3) (by kernel_rfl) rfl (by kernel_rfl) (fun _ _ _ h => h) rfl (v_load (i := 1) hE11 rfl rfl rfl Try.underlying28 rfl (sz_of (n := 20) (by kernel_rfl) (by first | (simp only [ints_size, digs_length, List.length_replicate, List.length_cons, List.length_nil]; done) | (simp only [ints_size, digs_length, List.length_replicate, List.length_cons, List.length_nil, List.length_set, List.length_append]; omega) | rfl))) ?_
  simp only [Act.put, List.setIfInBounds_toArray, List.set_cons_zero, List.set_cons_succ]
  refine wpB_take (i := 4) (by kernel_rfl) rfl (by kernel_rfl) (fun _ _ _ h => h) rfl (v_load (i := 0) hE11 rfl rfl rfl Try.underlying28 rfl (sz_of (n := 20) (by kernel_rfl) (by first | (simp only [ints_size, digs_length, List.length_replicate, List.length_cons, List.length_nil]; done) | (simp only [ints_size, digs_length, List.length_replicate, List.length_cons, List.length_nil, List.length_set, List.length_append]; omega) | rfl))) ?_
  simp only [Act.put, List.setIfInBounds_toArray, List.set_cons_zero, List.set_cons_succ]
  refine wpB_step (i := 2) (by kernel_rfl) rfl (st_gives hE11 rfl (run_call rfl Try.call10) (Hx1.out _) ?_)
  intro w12 hb12 hE12
  clear hE11
  refine ⟨fun _ => hb12, ?_⟩
  simp only [Act.put, List.setIfInBounds_toArray, List.set_cons_zero, List.set_cons_succ]
  refine wpB_step (i := 5) (by kernel_rfl) rfl (st_gives hE12 rfl (run_call rfl Try.call10) (Hx2.out _) ?_)
  intro w13 hb13 hE13
  clear hE12
  refine ⟨fun _ => hb13, ?_⟩
  simp only [Act.put, List.setIfInBounds_toArray, List.set_cons_zero, List.set_cons_succ]
  refine wpB_step (i := 6) (by kernel_rfl) rfl (st_gives hE13 rfl (run_call rfl Try.call11) (HS1.out _) ?_)
  intro w14 hb14 hE14
  clear hE13
  refine ⟨fun _ => hb14, ?_⟩
  simp only [Act.put, List.setIfInBounds_toArray, List.set_cons_zero, List.set_cons_succ]
  refine wpB_take (i := 7) (by kernel_rfl) rfl (by kernel_rfl) (fun _ _ _ h => h) rfl (v_not rfl rfl) ?_
  simp only [Act.put, List.setIfInBounds_toArray, List.set_cons_zero, List.set_cons_succ]
  refine wpB_take (i := 8) (by kernel_rfl) rfl (by kernel_rfl) (fun _ _ _ h => h) rfl (v_moveT (.inl rfl) rfl) ?_
  simp only [Act.put, List.setIfInBounds_toArray, List.set_cons_zero, List.set_cons_succ]
  refine wpB_take (i := 9) (by kernel_rfl) rfl (by kernel_rfl) (fun _ _ _ h => h) rfl (v_load (i := 0) hE14 rfl rfl rfl Try.underlying28 rfl (sz_of (n := 20) (by kernel_rfl) (by first | (simp only [ints_size, digs_length, List.length_replicate, List.length_cons, List.length_nil]; done) | (simp only [ints_size, digs_length, List.length_replicate, List.length_cons, List.length_nil, List.length_set, List.length_append]; omega) | rfl))) ?_
  simp only [Act.put, List.setIfInBounds_toArray, List.set_cons_zero, List.set_cons_succ]
  refine wpB_take (i := 10) (by kernel_rfl) rfl (by kernel_rfl) (fun _ _ _ h => h) rfl (v_load (i := 1) hE14 rfl rfl rfl Try.underlying28 rfl (sz_of (n := 20) (by kernel_rfl) (by first | (simp only [ints_size, digs_length, List.length_replicate, List.length_cons, List.length_nil]; done) | (simp only [ints_size, digs_length, List.length_replicate, List.length_cons, List.length_nil, List.length_set, List.length_append]; omega) | rfl))) ?_
  simp only [Act.put, List.setIfInBounds_toArray, List.set_cons_zero, List.set_cons_succ]
  refine wpB_take (i := 12) (by kernel_rfl) rfl (by kernel_rfl) (fun _ _ _ h => h) rfl (v_load (i := 2) hE14 rfl rfl rfl Try.underlying28 rfl (sz_of (n := 20) (by kernel_rfl) (by first | (simp only [ints_size, digs_length, List.length_replicate, List.length_cons, List.length_nil]; done) | (simp only [ints_size, digs_length, List.length_replicate, List.length_cons, List.length_nil, List.length_set, List.length_append]; omega) | rfl))) ?_
  simp only [Act.put, List.setIfInBounds_toArray, List.set_cons_zero, List.set_cons_succ]
  refine wpB_take (i := 14) (by kernel_rfl) rfl (by kernel_rfl) (fun _ _ _ h => h) rfl (v_load (i := 0) hE14 rfl rfl rfl Try.underlying28 rfl (sz_of (n := 20) (by kernel_rfl) (by first | (simp only [ints_size, digs_length, List.length_replicate, List.length_cons, List.length_nil]; done) | (simp only [ints_size, digs_length, List.length_replicate, List.length_cons, List.length_nil, List.length_set, List.length_append]; omega) | rfl))) ?_
  simp only [Act.put, List.setIfInBounds_toArray, List.set_cons_zero, List.set_cons_succ]
  refine wpB_take (i := 15) (by kernel_rfl) rfl (by kernel_rfl) (fun _ _ _ h => h) rfl (v_load (i := 1) hE14 rfl rfl rfl Try.underlying28 rfl (sz_of (n := 20) (by kernel_rfl) (by first | (simp only [ints_size, digs_length, List.length_replicate, List.length_cons, List.length_nil]; done) | (simp only [ints_size, digs_length, List.length_replicate, List.length_cons, List.length_nil, List.length_set, List.length_append]; omega) | rfl))) ?_
  simp only [Act.put, List.setIfInBounds_toArray, List.set_cons_zero, List.set_cons_succ]
  refine wpB_take (i := 16) (by kernel_rfl) rfl (by kernel_rfl) (fun _ _ _ h => h) rfl (v_load (i := 2) hE14 rfl rfl rfl Try.underlying28 rfl (sz_of (n := 20) (by kernel_rfl) (by first | (simp only [ints_size, digs_length, List.length_replicate, List.length_cons, List.length_nil]; done) | (simp only [ints_size, digs_length, List.length_replicate, List.length_cons, List.length_nil, List.length_set, List.length_append]; omega) | rfl))) ?_
  simp only [Act.put, List.setIfInBounds_toArray, List.set_cons_zero, List.set_cons_succ]
  refine wpB_step (i := 11) (by kernel_rfl) rfl (st_gives hE14 rfl (run_call rfl Try.call10) (Hx1.out _) ?_)
  intro w15 hb15 hE15
  clear hE14
  refine ⟨fun _ => hb15, ?_⟩
  simp only [Act.put, List.setIfInBounds_toArray, List.set_cons_zero, List.set_cons_succ]
  refine wpB_step (i := 13) (by kernel_rfl) rfl (st_gives hE15 rfl (run_call rfl Try.call10) (Hx3.out _) ?_)
  intro w16 hb16 hE16
  clear hE15
  refine ⟨fun _ => hb16, ?_⟩
  simp only [Act.put, List.setIfInBounds_toArray, List.set_cons_zero, List.set_cons_succ]
  refine wpB_step (i := 17) (by kernel_rfl) rfl (st_gives hE16 rfl (run_call rfl Try.call10) (Hx4.out _) ?_)
  intro w17 hb17 hE17
  clear hE16
  refine ⟨fun _ => hb17, ?_⟩
  simp only [Act.put, List.setIfInBounds_toArray, List.set_cons_zero, List.set_cons_succ]
  refine wpB_step (i := 18) (by kernel_rfl) rfl (st_gives hE17 rfl (run_call rfl Try.call10) (Hx5.out _) ?_)
  intro w18 hb18 hE18
  clear hE17
  refine ⟨fun _ => hb18, ?_⟩
  simp only [Act.put, List.setIfInBounds_toArray, List.set_cons_zero, List.set_cons_succ]
  refine wpB_step (i := 19) (by kernel_rfl) rfl (st_gives hE18 rfl (run_call rfl Try.call11) (HS2.out _) ?_)
  intro w19 hb19 hE19
  clear hE18
  refine ⟨fun _ => hb19, ?_⟩
  simp only [Act.put, List.setIfInBounds_toArray, List.set_cons_zero, List.set_cons_succ]
  refine wpB_take (i := 20) (by kernel_rfl) rfl (by kernel_rfl) (fun _ _ _ h => h) rfl (v_not rfl rfl) ?_
  simp only [Act.put, List.setIfInBounds_toArray, List.set_cons_zero, List.set_cons_succ]
  refine wpB_take (i := 21) (by kernel_rfl) rfl (by kernel_rfl) (fun _ _ _ h => h) rfl (v_or rfl rfl (fun _ => rfl)) ?_
  simp only [Act.put, List.setIfInBounds_toArray, List.set_cons_zero, List.set_cons_succ]
  refine wpB_take (i := 22) (by kernel_rfl) rfl (by kernel_rfl) (fun _ _ _ h => h) rfl (v_moveT (.inl rfl) rfl) ?_
  simp only [Act.put, List.setIfInBounds_toArray, List.set_cons_zero, List.set_cons_succ]
  refine wpB_take (i := 23) (by kernel_rfl) rfl (by kernel_rfl) (fun _ _ _ h => h) rfl (v_load (i := 0) hE19 rfl rfl rfl Try.underlying28 rfl (sz_of (n := 20) (by kernel_rfl) (by first | (simp only [ints_size, digs_length, List.length_replicate, List.length_cons, List.length_nil]; done) | (simp only [ints_size, digs_length, List.length_replicate, List.length_cons, List.length_nil, List.length_set, List.length_append]; omega) | rfl))) ?_
  simp only [Act.put, List.setIfInBounds_toArray, List.set_cons_zero, List.set_cons_succ]
  refine wpB_take (i := 26) (by kernel_rfl) rfl (by kernel_rfl) (fun _ _ _ h => h) rfl (v_load (i := 0) hE19 rfl rfl rfl Try.underlying28 rfl (sz_of (n := 20) (by kernel_rfl) (by first | (simp only [ints_size, digs_length, List.length_replicate, List.length_cons, List.length_nil]; done) | (simp only [ints_size, digs_length, List.length_replicate, List.length_cons, List.length_nil, List.length_set, List.length_append]; omega) | rfl))) ?_
  simp only [Act.put, List.setIfInBounds_toArray, List.set_cons_zero, List.set_cons_succ]
  refine wpB_step (i := 24) (by kernel_rfl) rfl (st_gives hE19 rfl (run_call rfl Try.call12) (PZero_any _) ?_)
  intro w20 hb20 hE20
  clear hE19
  refine ⟨fun _ => hb20, ?_⟩
  simp only [Act.put, List.setIfInBounds_toArray, List.set_cons_zero, List.set_cons_succ]
  refine wpB_step (i := 25) (by kernel_rfl) rfl (st_gives hE20 rfl (run_call rfl Try.call10) (Hx6.out _) ?_)
  intro w21 hb21 hE21
  clear hE20
  refine ⟨fun _ => hb21, ?_⟩
  simp only [Act.put, List.setIfInBounds_toArray, List.set_cons_zero, List.set_cons_succ]
  refine wpB_step (i := 27) (by kernel_rfl) rfl (st_gives hE21 rfl (run_call rfl Try.call11) (HS3.out _) ?_)
  intro w22 hb22 hE22
  clear hE21
  refine ⟨fun _ => hb22, ?_⟩
  simp only [Act.put, List.setIfInBounds_toArray, List.set_cons_zero, List.set_cons_succ]
  refine wpB_take (i := 28) (by kernel_rfl) rfl (by kernel_rfl) (fun _ _ _ h => h) rfl (v_not rfl rfl) ?_
  simp only [Act.put, List.setIfInBounds_toArray, List.set_cons_zero, List.set_cons_succ]
  refine wpB_take (i := 29) (by kernel_rfl) rfl (by kernel_rfl) (fun _ _ _ h => h) rfl (v_or rfl rfl (fun _ => rfl)) ?_
  simp only [Act.put, List.setIfInBounds_toArray, List.set_cons_zero, List.set_cons_succ]
  refine wpB_take (i := 30) (by kernel_rfl) rfl (by kernel_rfl) (fun _ _ _ h => h) rfl (v_moveT (.inl rfl) rfl) ?_
  simp only [Act.put, List.setIfInBounds_toArray, List.set_cons_zero, List.set_cons_succ]
  refine wpB_take (i := 31) (by kernel_rfl) rfl (by kernel_rfl) (fun _ _ _ h => h) rfl (v_load (i := 0) hE22 rfl rfl rfl Try.underlying28 rfl (sz_of (n := 20) (by kernel_rfl) (by first | (simp only [ints_size, digs_length, List.length_replicate, List.length_cons, List.length_nil]; done) | (simp only [ints_size, digs_length, List.length_replicate, List.length_cons, List.length_nil, List.length_set, List.length_append]; omega) | rfl))) ?_
  simp only [Act.put, List.setIfInBounds_toArray, List.set_cons_zero, List.set_cons_succ]
  refine wpB_take (i := 32) (by kernel_rfl) rfl (by kernel_rfl) (fun _ _ _ h => h) rfl (v_load (i := 0) hE22 rfl rfl rfl Try.underlying28 rfl (sz_of (n := 20) (by kernel_rfl) (by first | (simp only [ints_size, digs_length, List.length_replicate, List.length_cons, List.length_nil]; done) | (simp only [ints_size, digs_length, List.length_replicate, List.length_cons, List.length_nil, List.length_set, List.length_append]; omega) | rfl))) ?_
  simp only [Act.put, List.setIfInBounds_toArray, List.set_cons_zero, List.set_cons_succ]
  refine wpB_step (i := 33) (by kernel_rfl) rfl (st_gives hE22 rfl (run_call rfl Try.call13) (Hnp.out _) ?_)
  intro w23 hb23 hE23
  clear hE22
  refine ⟨fun _ => hb23, ?_⟩
  simp only [Act.put, List.setIfInBounds_toArray, List.set_cons_zero, List.set_cons_succ]
  refine wpB_step (i := 34) (by kernel_rfl) rfl (st_gives hE23 rfl (run_call rfl Try.call10) (Hx7.out _) ?_)
  intro w24 hb24 hE24
  clear hE23
  refine ⟨fun _ => hb24, ?_⟩
  simp only [Act.put, List.setIfInBounds_toArray, List.set_cons_zero, List.set_cons_succ]
  refine wpB_step (i := 35) (by kernel_rfl) rfl (st_gives hE24 rfl (run_call rfl Try.call12) (PZero_any _) ?_)
  intro w25 hb25 hE25
  clear hE24
  refine ⟨fun _ => hb25, ?_⟩
  simp only [Act.put, List.setIfInBounds_toArray, List.set_cons_zero, List.set_cons_succ]
  refine wpB_step (i := 36) (by kernel_rfl) rfl (st_gives hE25 rfl (run_call rfl Try.call11) (HS4.out _) ?_)
  intro w26 hb26 hE26
  clear hE25
  refine ⟨fun _ => hb26, ?_⟩
  simp only [Act.put, List.setIfInBounds_toArray, List.set_cons_zero, List.set_cons_succ]
  refine wpB_take (i := 37) (by kernel_rfl) rfl (by kernel_rfl) (fun _ _ _ h => h) rfl (v_not rfl rfl) ?_
  simp only [Act.put, List.setIfInBounds_toArray, List.set_cons_zero, List.set_cons_succ]
  refine wpB_take (i := 38) (by kernel_rfl) rfl (by kernel_rfl) (fun _ _ _ h => h) rfl (v_or rfl rfl (fun _ => rfl)) ?_
  simp only [Act.put, List.setIfInBounds_toArray, List.set_cons_zero, List.set_cons_succ]
  refine wpB_take (i := 39) (by kernel_rfl) rfl (by kernel_rfl) (fun _ _ _ h => h) rfl (v_moveT (.inl rfl) rfl) ?_
  simp only [Act.put, List.setIfInBounds_toArray, List.set_cons_zero, List.set_cons_succ]
  refine wpB_take (i := 40) (by kernel_rfl) rfl (by kernel_rfl) (fun _ _ _ h => h) rfl (v_load (i := 0) hE26 rfl rfl rfl Try.underlying28 rfl (sz_of (n := 20) (by kernel_rfl) (by first | (simp only [ints_size, digs_length, List.length_replicate, List.length_cons, List.length_nil]; done) | (simp only [ints_size, digs_length, List.length_replicate, List.length_cons, List.length_nil, List.length_set, List.length_append]; omega) | rfl))) ?_
  simp only [Act.put, List.setIfInBounds_toArray, List.set_cons_zero, List.set_cons_succ]
  refine wpB_take (i := 41) (by kernel_rfl) rfl (by kernel_rfl) (fun _ _ _ h => h) rfl (v_load (i := 0) hE26 rfl rfl rfl Try.underlying28 rfl (sz_of (n := 20) (by kernel_rfl) (by first | (simp only [ints_size, digs_length, List.length_replicate, List.length_cons, List.length_nil]; done) | (simp only [ints_size, digs_length, List.length_replicate, List.length_cons, List.length_nil, List.length_set, List.length_append]; omega) | rfl))) ?_
  simp only [Act.put, List.setIfInBounds_toArray, List.set_cons_zero, List.set_cons_succ]
  refine wpB_take (i := 43) (by kernel_rfl) rfl (by kernel_rfl) (fun _ _ _ h => h) rfl (v_load (i := 0) hE26 rfl rfl rfl Try.underlying28 rfl (sz_of (n := 20) (by kernel_rfl) (by first | (simp only [ints_size, digs_length, List.length_replicate, List.length_cons, List.length_nil]; done) | (simp only [ints_size, digs_length, List.length_replicate, List.length_cons, List.length_nil, List.length_set, List.length_append]; omega) | rfl))) ?_
  simp only [Act.put, List.setIfInBounds_toArray, List.set_cons_zero, List.set_cons_succ]
  refine wpB_step (i := 42) (by kernel_rfl) rfl (st_gives hE26 rfl (run_call rfl Try.call10) (Hx8.out _) ?_)
  intro w27 hb27 hE27
  clear hE26
  refine ⟨fun _ => hb27, ?_⟩
  simp only [Act.put, List.setIfInBounds_toArray, List.set_cons_zero, List.set_cons_succ]
  refine wpB_step (i := 44) (by kernel_rfl) rfl (st_gives hE27 rfl (run_call rfl Try.call14) (Hdp.out _) ?_)
  intro w28 hb28 hE28
  clear hE27
  refine ⟨fun _ => hb28, ?_⟩
  simp only [Act.put, List.setIfInBounds_toArray, List.set_cons_zero, List.set_cons_succ]
  refine wpB_step (i := 45) (by kernel_rfl) rfl (st_gives hE28 rfl (run_call rfl Try.call11) (HS5.out _) ?_)
  intro w29 hb29 hE29
  clear hE28
  refine ⟨fun _ => hb29, ?_⟩
  simp only [Act.put, List.setIfInBounds_toArray, List.set_cons_zero, List.set_cons_succ]
  refine wpB_take (i := 46) (by kernel_rfl) rfl (by kernel_rfl) (fun _ _ _ h => h) rfl (v_not rfl rfl) ?_
  simp only [Act.put, List.setIfInBounds_toArray, List.set_cons_zero, List.set_cons_succ]
  refine wpB_take (i := 47) (by kernel_rfl) rfl (by kernel_rfl) (fun _ _ _ h => h) rfl (v_or rfl rfl (fun _ => rfl)) ?_
  simp only [Act.put, List.setIfInBounds_toArray, List.set_cons_zero, List.set_cons_succ]
  refine wpB_done (by kernel_rfl) ?_ _
  repeat ((fail_if_success (with_reducible show wpList _ _ _ (List.cons _ _) _ _)); (fail_if_success (with_reducible show Code.wp _ (Code.region _ _ true) _ _ _)); (fail_if_success (with_reducible show Code.wp _ (Code.cond _ _ _) _ _ _)); go_step)
  refine wp_cond_false (by first | rfl | exact congrArg Value.bool (decide_eq_false (by omega))) ?_
  skip
  repeat ((fail_if_success (with_reducible show wpList _ _ _ (List.cons _ _) _ _)); (fail_if_success (with_reducible show Code.wp _ (Code.region _ _ true) _ _ _)); go_step)
  refine wp_region_B (n := 30) 29 (by kernel_rfl) rfl hE29 ?_
  intro w30 hb30 hE30
  clear hE29
  refine wpB_take (i := 0) (by kernel_rfl) rfl (by kernel_rfl) (fun _ _ _ h => h) rfl (v_load (i := 0) hE30 rfl rfl rfl Try.underlying28 rfl (sz_of (n := 20) (by kernel_rfl) (by first | (simp only [ints_size, digs_length, List.length_replicate, List.length_cons, List.length_nil]; done) | (simp only [ints_size, digs_length, List.length_replicate, List.length_cons, List.length_nil, List.length_set, List.length_append]; omega) | rfl))) ?_
  simp only [Act.put, List.setIfInBounds_toArray, List.set_cons_zero, List.set_cons_succ]
  refine wpB_take (i := 1) (by kernel_rfl) rfl (by kernel_rfl) (fun _ _ _ h => h) rfl (v_load (i := 1) hE30 rfl rfl rfl Try.underlying28 rfl (sz_of (n := 20) (by kernel_rfl) (by first | (simp only [ints_size, digs_length, List.length_replicate, List.length_cons, List.length_nil]; done) | (simp only [ints_size, digs_length, List.length_replicate, List.length_cons, List.length_nil, List.length_set, List.length_append]; omega) | rfl))) ?_
  simp only [Act.put, List.setIfInBounds_toArray, List.set_cons_zero, List.set_cons_succ]
  refine wpB_take (i := 3) (by kernel_rfl) rfl (by kernel_rfl) (fun _ _ _ h => h) rfl (v_load (i := 0) hE30 rfl rfl rfl Try.underlying28 rfl (sz_of (n := 20) (by kernel_rfl) (by first | (simp only [ints_size, digs_length, List.length_replicate, List.length_cons, List.length_nil]; done) | (simp only [ints_size, digs_length, List.length_replicate, List.length_cons, List.length_nil, List.length_set, List.length_append]; omega) | rfl))) ?_
  simp only [Act.put, List.setIfInBounds_toArray, List.set_cons_zero, List.set_cons_succ]
  refine wpB_take (i := 5) (by kernel_rfl) rfl (by kernel_rfl) (fun _ _ _ h => h) rfl (v_load (i := 1) hE30 rfl rfl rfl Try.underlying28 rfl (sz_of (n := 20) (by kernel_rfl) (by first | (simp only [ints_size, digs_length, List.length_replicate, List.length_cons, List.length_nil]; done) | (simp only [ints_size, digs_length, List.length_replicate, List.length_cons, List.length_nil, List.length_set, List.length_append]; omega) | rfl))) ?_
  simp only [Act.put, List.setIfInBounds_toArray, List.set_cons_zero, List.set_cons_succ]
  refine wpB_step (i := 2) (by kernel_rfl) rfl (st_gives hE30 rfl (run_call rfl Try.call11) (HS6.out _) ?_)
  intro w31 hb31 hE31
  clear hE30
  refine ⟨fun _ => hb31, ?_⟩
  simp only [Act.put, List.setIfInBounds_toArray, List.set_cons_zero, List.set_cons_succ]
  refine wpB_step (i := 4) (by kernel_rfl) rfl (st_gives hE31 rfl (run_call rfl Try.call15) (HB1.out _) ?_)
  intro w32 hb32 hE32
  clear hE31
  refine ⟨fun _ => hb32, ?_⟩
  simp only [Act.put, List.setIfInBounds_toArray, List.set_cons_zero, List.set_cons_succ]
  refine wpB_step (i := 6) (by kernel_rfl) rfl (st_gives hE32 rfl (run_call rfl Try.call15) (HB2.out _) ?_)
  intro w33 hb33 hE33
  clear hE32
  refine ⟨fun _ => hb33, ?_⟩
  simp only [Act.put, List.setIfInBounds_toArray, List.set_cons_zero, List.set_cons_succ]
  refine wpB_take (i := 7) (by kernel_rfl) rfl (by kernel_rfl) (fun _ _ _ h => h) rfl (v_eq32 rfl rfl rfl lb1 lb2) ?_
  simp only [Act.put, List.setIfInBounds_toArray, List.set_cons_zero, List.set_cons_succ]
  rw [HE.out]
  refine wpB_take (i := 8) (by kernel_rfl) rfl (by kernel_rfl) (fun _ _ _ h => h) rfl (v_eqBs rfl rfl rfl Try.underlying4) ?_
  simp only [Act.put, List.setIfInBounds_toArray, List.set_cons_zero, List.set_cons_succ]
  refine wpB_take (i := 9) (by kernel_rfl) rfl (by kernel_rfl) (fun _ _ _ h => h) rfl (v_moveT (.inl rfl) rfl) ?_
  simp only [Act.put, List.setIfInBounds_toArray, List.set_cons_zero, List.set_cons_succ]
  refine wpB_take (i := 10) (by kernel_rfl) rfl (by kernel_rfl) (fun _ _ _ h => h) rfl (v_load (i := 1) hE33 rfl rfl rfl Try.underlying28 rfl (sz_of (n := 20) (by kernel_rfl) (by first | (simp only [ints_size, digs_length, List.length_replicate, List.length_cons, List.length_nil]; done) | (simp only [ints_size, digs_length, List.length_replicate, List.length_cons, List.length_nil, List.length_set, List.length_append]; omega) | rfl))) ?_
  simp only [Act.put, List.setIfInBounds_toArray, List.set_cons_zero, List.set_cons_succ]
  refine wpB_take (i := 11) (by kernel_rfl) rfl (by kernel_rfl) (fun _ _ _ h => h) rfl (v_load (i := 6) hE33 rfl rfl rfl Try.underlying22 rfl (sz_of (n := 32) (by kernel_rfl) (by first | (simp only [ints_size, digs_length, List.length_replicate, List.length_cons, List.length_nil]; done) | (simp only [ints_size, digs_length, List.length_replicate, List.length_cons, List.length_nil, List.length_set, List.length_append]; omega) | rfl))) ?_
  simp only [Act.put, List.setIfInBounds_toArray, List.set_cons_zero, List.set_cons_succ]
  refine wpB_take (i := 13) (by kernel_rfl) rfl (by kernel_rfl) (fun _ _ _ h => h) rfl (v_load (i := 0) hE33 rfl rfl rfl Try.underlying28 rfl (sz_of (n := 20) (by kernel_rfl) (by first | (simp only [ints_size, digs_length, List.length_replicate, List.length_cons, List.length_nil]; done) | (simp only [ints_size, digs_length, List.length_replicate, List.length_cons, List.length_nil, List.length_set, List.length_append]; omega) | rfl))) ?_
  simp only [Act.put, List.setIfInBounds_toArray, List.set_cons_zero, List.set_cons_succ]
  refine wpB_take (i := 14) (by kernel_rfl) rfl (by kernel_rfl) (fun _ _ _ h => h) rfl (v_load (i := 5) hE33 rfl rfl rfl Try.underlying22 rfl (sz_of (n := 32) (by kernel_rfl) (by first | (simp only [ints_size, digs_length, List.length_replicate, List.length_cons, List.length_nil]; done) | (simp only [ints_size, digs_length, List.length_replicate, List.length_cons, List.length_nil, List.length_set, List.length_append]; omega) | rfl))) ?_
  simp only [Act.put, List.setIfInBounds_toArray, List.set_cons_zero, List.set_cons_succ]
  refine wpB_step (i := 12) (by kernel_rfl) rfl (st_gives hE33 rfl (run_call rfl Try.call9) (Hm1.out _) ?_)
  intro w34 hb34 hE34
  clear hE33
  refine ⟨fun _ => hb34, ?_⟩
  simp only [Act.put, List.setIfInBounds_toArray, List.set_cons_zero, List.set_cons_succ]
  refine wpB_step (i := 15) (by kernel_rfl) rfl (st_gives hE34 rfl (run_call rfl Try.call9) (Hm2.out _) ?_)
  intro w35 hb35 hE35
  clear hE34
  refine ⟨fun _ => hb35, ?_⟩
  simp only [Act.put, List.setIfInBounds_toArray, List.set_cons_zero, List.set_cons_succ]
  refine wpB_step (i := 16) (by kernel_rfl) rfl (st_gives hE35 rfl (run_call rfl Try.call11) (HS7.out _) ?_)
  intro w36 hb36 hE36
  clear hE35
  refine ⟨fun _ => hb36, ?_⟩
  simp only [Act.put, List.setIfInBounds_toArray, List.set_cons_zero, List.set_cons_succ]
  refine wpB_take (i := 17) (by kernel_rfl) rfl (by kernel_rfl) (fun _ _ _ h => h) rfl (v_and rfl rfl (fun _ => rfl)) ?_
  simp only [Act.put, List.setIfInBounds_toArray, List.set_cons_zero, List.set_cons_succ]
  refine wpB_take (i := 18) (by kernel_rfl) rfl (by kernel_rfl) (fun _ _ _ h => h) rfl (v_moveT (.inl rfl) rfl) ?_
  simp only [Act.put, List.setIfInBounds_toArray, List.set_cons_zero, List.set_cons_succ]
  refine wpB_take (i := 19) (by kernel_rfl) rfl (by kernel_rfl) (fun _ _ _ h => h) rfl (v_load (i := 3) hE36 rfl rfl rfl Try.underlying28 rfl (sz_of (n := 20) (by kernel_rfl) (by first | (simp only [ints_size, digs_length, List.length_replicate, List.length_cons, List.length_nil]; done) | (simp only [ints_size, digs_length, List.length_replicate, List.length_cons, List.length_nil, List.length_set, List.length_append]; omega) | rfl))) ?_
  simp only [Act.put, List.setIfInBounds_toArray, List.set_cons_zero, List.set_cons_succ]
  refine wpB_step (i := 20) (by kernel_rfl) rfl (st_new hE36 rfl (run_call rfl Try.call17) (HQ.out _) ?_)
  intro g7 w37 hb37 hE37
  clear hE36
  refine ⟨fun _ => hb37, ?_⟩
  simp only [Act.put, List.setIfInBounds_toArray, List.set_cons_zero, List.set_cons_succ]
  refine wpB_step (i := 21) (by kernel_rfl) rfl (st_gives hE37 rfl (run_call rfl Try.call16) (ordBytes_any rfl ordD_Digs (hE37.get (i := 0) rfl)) ?_)
  intro w38 hb38 hE38
  clear hE37
  refine ⟨fun _ => hb38, ?_⟩
  simp only [Act.put, List.setIfInBounds_toArray, List.set_cons_zero, List.set_cons_succ]
  refine wpB_step (i := 22) (by kernel_rfl) rfl (st_gives hE38 rfl (run_call rfl Try.call9) (Hm3.out _) ?_)
  intro w39 hb39 hE39
  clear hE38
  refine ⟨fun _ => hb39, ?_⟩
  simp only [Act.put, List.setIfInBounds_toArray, List.set_cons_zero, List.set_cons_succ]
  refine wpB_step (i := 23) (by kernel_rfl) rfl (st_gives hE39 rfl (run_call rfl Try.call12) (PZero_any _) ?_)
  intro w40 hb40 hE40
  clear hE39
  refine ⟨fun _ => hb40, ?_⟩
  simp only [Act.put, List.setIfInBounds_toArray, List.set_cons_zero, List.set_cons_succ]
  refine wpB_step (i := 24) (by kernel_rfl) rfl (st_gives hE40 rfl (run_call rfl Try.call11) (HS8.out _) ?_)
  intro w41 hb41 hE41
  clear hE40
  refine ⟨fun _ => hb41, ?_⟩
  simp only [Act.put, List.setIfInBounds_toArray, List.set_cons_zero, List.set_cons_succ]
  refine wpB_take (i := 25) (by kernel_rfl) rfl (by kernel_rfl) (fun _ _ _ h => h) rfl (v_and rfl rfl (fun _ => rfl)) ?_
  simp only [Act.put, List.setIfInBounds_toArray, List.set_cons_zero, List.set_cons_succ]
  refine wpB_take (i := 26) (by kernel_rfl) rfl (by kernel_rfl) (fun _ _ _ h => h) rfl (v_moveT (.inl rfl) rfl) ?_
  simp only [Act.put, List.setIfInBounds_toArray, List.set_cons_zero, List.set_cons_succ]
  refine wpB_step (i := 27) (by kernel_rfl) rfl (st_gives hE41 rfl (run_call rfl Try.call18) (awake_any _) ?_)
  intro w42 hb42 hE42
  clear hE41
  refine ⟨fun _ => hb42, ?_⟩
  simp only [Act.put, List.setIfInBounds_toArray, List.set_cons_zero, List.set_cons_succ]
  refine wpB_take (i := 28) (by kernel_rfl) rfl (by kernel_rfl) (fun _ _ _ h => h) rfl (v_and rfl rfl (fun _ => rfl)) ?_
  simp only [Act.put, List.setIfInBounds_toArray, List.set_cons_zero, List.set_cons_succ]
  refine wpB_step (i := 29) (by kernel_rfl) rfl (st_val rfl (v_moveT (.inr rfl) rfl) ?_)
  refine ⟨fun _ => Below.refl _ _, ?_⟩
  simp only [Act.put, List.setIfInBounds_toArray, List.set_cons_zero, List.set_cons_succ]
  refine wpB_done (by kernel_rfl) ?_ _
  repeat ((fail_if_success (with_reducible show wpList _ _ _ (List.cons _ _) _ _)); (fail_if_success (with_reducible show Code.wp _ (Code.region _ _ true) _ _ _)); go_step)
  go_returns
  exact ⟨rfl, hE42.below⟩
end Go.Proofs.Ytmebjoehmheknaa
