/-
  Layer 4, the document's answer: the inverse; the law's own example.
-/
import Derived.Test.YtmebjoehmheknaaFmG
namespace Go.Proofs.Ytmebjoehmheknaa
open Go.RowKit
set_option linter.unusedVariables false
set_option linter.unusedSimpArgs false

/-- A power, modulo p, by squares. -/
def powM (p : Nat) : Nat → Nat → Nat → Nat
  | 0, _, _ => 1 % p
  | f + 1, b, e => if e % 2 = 1 then b * powM p f (b * b % p) (e / 2) % p else powM p f (b * b % p) (e / 2)
theorem powM_eq (p : Nat) : ∀ (f b e : Nat), e < 2 ^ f → powM p f b e = b ^ e % p
  | 0, b, e, h => by
    have : e = 0 := by rw [Nat.pow_zero] at h; omega
    subst this
    rfl
  | f + 1, b, e, h => by
    have h2 : e / 2 < 2 ^ f := by rw [Nat.pow_succ] at h; omega
    have ih := powM_eq p f (b * b % p) (e / 2) h2
    have e1 : (b * b % p) ^ (e / 2) % p = b ^ (2 * (e / 2)) % p := by
      rw [← Nat.pow_mod, Nat.pow_mul, Nat.pow_two]
    unfold powM
    rw [ih, e1]
    split
    · rename_i h1
      have : e = 2 * (e / 2) + 1 := by omega
      conv => rhs; rw [this, Nat.pow_succ, Nat.mul_comm]
      exact (Nat.mul_mod_mod _ _ _)
    · rename_i h1
      have : e = 2 * (e / 2) := by omega
      conv => rhs; rw [this]
theorem powM_mul {b e c p f : Nat} (h : e < 2 ^ f) : b ^ e * c % p = powM p f b e * (c % p) % p := by rw [Nat.mul_mod, powM_eq p f b e h]
theorem mul_powM {b e c p f : Nat} (h : e < 2 ^ f) : c * b ^ e % p = (c % p) * powM p f b e % p := by rw [Nat.mul_mod, powM_eq p f b e h]
theorem half_mod : 2 ^ (pN - 2) * 2 % pN = 1 % pN := (powM_mul (f := 255) (of_decide_eq_true (by kernel_rfl))).trans (by kernel_rfl)
theorem rootR_one (U : Nat) : rootR U 1 = U * U ^ ((pN - 5) / 8) % pN := by
  unfold rootR
  simp only [Nat.one_pow, Nat.mul_one]
theorem rootR41 : rootR 4 1 = 39362322753415011913614158609977084030892133031847780325488042146247659569504 := (rootR_one 4).trans ((mul_powM (f := 255) (of_decide_eq_true (by kernel_rfl))).trans (by kernel_rfl))
theorem rootN41 : rootN 4 1 = (2, true) := by
  unfold rootN
  rw [rootR41]
  kernel_rfl

set_option maxHeartbeats 2000000 in
theorem rInvert_any {x : Nat} (hx : x < pN) (w : World) : Gives 58 #[nm x] w (nm (x ^ (pN - 2) % pN)) := by
  have hm := fun w => minus_any (m := pN) (n := 2) pN_lt (by decide) w
  have e1 : (pN + big8 - 2) % big8 = pN - 2 := by decide
  have e2 : decide (pN < 2) = false := by decide
  rw [e1, e2] at hm
  have hb := fun w => rBytes_any (n := pN - 2) (by decide) w
  have hp := fun w => rPow_any (x := x) (e := digs 256 32 (pN - 2)) hx (digs_Digs (by decide) _ _) (digs_length _ _ _) w
  have e3 : val 256 (digs 256 32 (pN - 2)) = pN - 2 := by
    rw [val_digs]
    exact Nat.mod_eq_of_lt (by decide)
  rw [e3] at hp
  have hx8 := nm_len x
  obtain ⟨Q, hQ⟩ : ∃ Q, x ^ (pN - 2) % pN = Q := ⟨_, rfl⟩
  rw [hQ] at hp ⊢
  obtain ⟨D, hD⟩ : ∃ D, pN - 2 = D := ⟨_, rfl⟩
  rw [hD] at hp hm hb
  have hl1 := nm_len D
  have hl2 := nm_len Q
  have HM := Lib.hid hm
  have HB := Lib.hid hb
  have HP := Lib.hid hp
  clear hm hb hp e1 e2 e3 hQ hD hx
  have hE0 := Env.nil w
  go_enter Try.func58, Try.ntmps58
  repeat ((fail_if_success (with_reducible show wpList _ _ _ (List.cons _ _) _ _)); (fail_if_success (with_reducible show Code.wp _ (Code.region _ _ true) _ _ _)); go_step)
  refine wl_step (st_boxA hE0 rfl rfl rfl ?_)
  intro g0 w1 hb1 hE1
  clear hE0
  simp only [Act.put, List.setIfInBounds_toArray, List.set_cons_zero, List.set_cons_succ]
  refine wl_step (st_alloc (zs := ints .u32 (List.replicate 8 0)) hE1 rfl rfl (fun w => by kernel_rfl) ?_)
  intro g1 w2 hb2 hE2
  clear hE1
  simp only [Act.put, List.setIfInBounds_toArray, List.set_cons_zero, List.set_cons_succ]
  repeat ((fail_if_success (with_reducible show wpList _ _ _ (List.cons _ _) _ _)); (fail_if_success (with_reducible show Code.wp _ (Code.region _ _ true) _ _ _)); go_step)
  refine wl_step (st_gives hE2 rfl (run_call rfl Try.call50) (P_any _) ?_)
  intro w3 hb3 hE3
  clear hE2
  simp only [Act.put, List.setIfInBounds_toArray, List.set_cons_zero, List.set_cons_succ]
  refine wl_step (st_gives hE3 rfl (run_call rfl Try.call53) (rSmall_any (n := 2) (by decide) _) ?_)
  intro w4 hb4 hE4
  clear hE3
  simp only [Act.put, List.setIfInBounds_toArray, List.set_cons_zero, List.set_cons_succ]
  refine wl_step (st_gives hE4 rfl (run_call rfl Try.call74) (HM.out _) ?_)
  intro w5 hb5 hE5
  clear hE4
  simp only [Act.put, List.setIfInBounds_toArray, List.set_cons_zero, List.set_cons_succ]
  refine wl_step (st_val rfl (v_moveT (.inl rfl) rfl) ?_)
  simp only [Act.put, List.setIfInBounds_toArray, List.set_cons_zero, List.set_cons_succ]
  refine wl_step (st_val rfl (v_extract rfl rfl rfl) ?_)
  simp only [Act.put, List.setIfInBounds_toArray, List.set_cons_zero, List.set_cons_succ]
  refine wl_step (st_val rfl (v_extract rfl rfl rfl) ?_)
  simp only [Act.put, List.setIfInBounds_toArray, List.set_cons_zero, List.set_cons_succ]
  refine wl_step (st_alloc (zs := ints .u32 (List.replicate 8 0)) hE5 rfl rfl (fun w => by kernel_rfl) ?_)
  intro g2 w6 hb6 hE6
  clear hE5
  simp only [Act.put, List.setIfInBounds_toArray, List.set_cons_zero, List.set_cons_succ]
  refine wl_step (st_store (i := 0) hE6 rfl rfl rfl rfl rfl (sz_of (n := 8) (by kernel_rfl) (by first | (simp only [ints_size, digs_length, List.length_replicate, List.length_cons, List.length_nil]; done) | (simp only [ints_size, digs_length, List.length_replicate, List.length_cons, List.length_nil, List.length_set, List.length_append]; omega) | rfl)) (by first | (simp only [ints_size, digs_length, List.length_replicate, List.length_cons, List.length_nil]; done) | (simp only [ints_size, digs_length, List.length_replicate, List.length_cons, List.length_nil, List.length_set, List.length_append]; omega) | rfl) (by first | exact ints_one _ _ | decide | simp [*]) ?_)
  intro w7 hE7
  clear hE6
  simp only [List.set_cons_zero, List.set_cons_succ] at hE7
  simp only [Act.put, List.setIfInBounds_toArray, List.set_cons_zero, List.set_cons_succ]
  refine wl_step (st_val rfl (v_moveT (.inr rfl) rfl) ?_)
  simp only [Act.put, List.setIfInBounds_toArray, List.set_cons_zero, List.set_cons_succ]
  repeat ((fail_if_success (with_reducible show wpList _ _ _ (List.cons _ _) _ _)); (fail_if_success (with_reducible show Code.wp _ (Code.region _ _ true) _ _ _)); go_step)
  refine wp_region_B (n := 5) 4 (by kernel_rfl) rfl hE7 ?_
  intro w8 hb8 hE8
  clear hE7
  refine wpB_take (i := 0) (by kernel_rfl) rfl (by kernel_rfl) (fun _ _ _ h => h) rfl (v_load (i := 2) hE8 rfl rfl rfl Try.underlying43 rfl (sz_of (n := 8) (by kernel_rfl) (by first | (simp only [ints_size, digs_length, List.length_replicate, List.length_cons, List.length_nil]; done) | (simp only [ints_size, digs_length, List.length_replicate, List.length_cons, List.length_nil, List.length_set, List.length_append]; omega) | rfl))) ?_
  simp only [Act.put, List.setIfInBounds_toArray, List.set_cons_zero, List.set_cons_succ]
  refine wpB_take (i := 1) (by kernel_rfl) rfl (by kernel_rfl) (fun _ _ _ h => h) rfl (v_load (i := 0) hE8 rfl rfl rfl Try.underlying43 rfl (sz_of (n := 8) (by kernel_rfl) (by first | (simp only [ints_size, digs_length, List.length_replicate, List.length_cons, List.length_nil]; done) | (simp only [ints_size, digs_length, List.length_replicate, List.length_cons, List.length_nil, List.length_set, List.length_append]; omega) | rfl))) ?_
  simp only [Act.put, List.setIfInBounds_toArray, List.set_cons_zero, List.set_cons_succ]
  refine wpB_step (i := 2) (by kernel_rfl) rfl (st_gives hE8 rfl (run_call rfl Try.call59) (HB.out _) ?_)
  intro w9 hb9 hE9
  clear hE8
  refine ⟨fun _ => hb9, ?_⟩
  simp only [Act.put, List.setIfInBounds_toArray, List.set_cons_zero, List.set_cons_succ]
  refine wpB_step (i := 3) (by kernel_rfl) rfl (st_gives hE9 rfl (run_call rfl Try.call72) (HP.out _) ?_)
  intro w10 hb10 hE10
  clear hE9
  refine ⟨fun _ => hb10, ?_⟩
  simp only [Act.put, List.setIfInBounds_toArray, List.set_cons_zero, List.set_cons_succ]
  refine wpB_step (i := 4) (by kernel_rfl) rfl (st_store (i := 1) hE10 rfl rfl rfl rfl rfl (sz_of (n := 8) (by kernel_rfl) (by first | (simp only [ints_size, digs_length, List.length_replicate, List.length_cons, List.length_nil]; done) | (simp only [ints_size, digs_length, List.length_replicate, List.length_cons, List.length_nil, List.length_set, List.length_append]; omega) | rfl)) (by first | (simp only [ints_size, digs_length, List.length_replicate, List.length_cons, List.length_nil]; done) | (simp only [ints_size, digs_length, List.length_replicate, List.length_cons, List.length_nil, List.length_set, List.length_append]; omega) | rfl) (by first | exact ints_one _ _ | decide | simp [*]) ?_)
  intro w11 hE11
  clear hE10
  simp only [List.set_cons_zero, List.set_cons_succ] at hE11
  refine ⟨fun h => absurd h (by decide), ?_⟩
  simp only [Act.put, List.setIfInBounds_toArray, List.set_cons_zero, List.set_cons_succ]
  refine wpB_done (by kernel_rfl) ?_ _
  repeat ((fail_if_success (with_reducible show wpList _ _ _ (List.cons _ _) _ _)); (fail_if_success (with_reducible show Code.wp _ (Code.region _ _ true) _ _ _)); go_step)
  refine bodyPost_ret (results_cell_row rfl _ _ _ _ _ (0, 0) _ rfl (hE11.get (i := 1) rfl) Try.underlying43 rfl (sz_of (n := 8) (by kernel_rfl) (by first | (simp only [ints_size, digs_length, List.length_replicate, List.length_cons, List.length_nil]; done) | (simp only [ints_size, digs_length, List.length_replicate, List.length_cons, List.length_nil, List.length_set, List.length_append]; omega) | rfl))) rfl ⟨rfl, hE11.below⟩
end Go.Proofs.Ytmebjoehmheknaa
