/-
  Layer 6: points: whether two are the same, a point's bytes, the base.
-/
import Derived.Test.YtmebjoehmheknaaJ15
import Derived.Test.YtmebjoehmheknaaJ18
namespace Go.Proofs.Ytmebjoehmheknaa
open Go.RowKit
set_option linter.unusedVariables false
set_option linter.unusedSimpArgs false

theorem same_key {x1 z1 x2 z2 : Fin pN} {X1 X2 : Fin pN} (h1 : z1 ≠ 0) (h2 : z2 ≠ 0) (e1 : x1 = X1 * z1) (e2 : x2 = X2 * z2) : (x1 * z2 = x2 * z1) ↔ X1 = X2 := by
  subst e1
  subst e2
  constructor
  · intro h
    refine K_cancel (K_mul_ne h1 h2) ?_
    grobner
  · intro h
    subst h
    grobner
set_option maxRecDepth 100000 in
set_option maxHeartbeats 4000000 in
theorem PSame_any {l m : List Nat} {P Q : Pt} (h : PRep l P) (h' : PRep m Q) (w : World) : Gives 11 #[pt l, pt m] w (.bool (decide (P = Q))) := by
  obtain ⟨len, fx, fy, fz, ft, nz, ex, ey, et⟩ := h
  obtain ⟨len', fx', fy', fz', ft', nz', ex', ey', et'⟩ := h'
  obtain ⟨x, hx⟩ : ∃ x, (l.drop 0).take 5 = x := ⟨_, rfl⟩
  obtain ⟨y, hy⟩ : ∃ y, (l.drop 5).take 5 = y := ⟨_, rfl⟩
  obtain ⟨z, hz⟩ : ∃ z, (l.drop 10).take 5 = z := ⟨_, rfl⟩
  obtain ⟨x', hx'⟩ : ∃ x, (m.drop 0).take 5 = x := ⟨_, rfl⟩
  obtain ⟨y', hy'⟩ : ∃ y, (m.drop 5).take 5 = y := ⟨_, rfl⟩
  obtain ⟨z', hz'⟩ : ∃ z, (m.drop 10).take 5 = z := ⟨_, rfl⟩
  rw [hx] at fx ex
  rw [hy] at fy ey
  rw [hz] at fz nz ex ey
  rw [hx'] at fx' ex'
  rw [hy'] at fy' ey'
  rw [hz'] at fz' nz' ex' ey'
  clear ft et ft' et'
  obtain ⟨a, fa, ea, Ga⟩ := Mul_K fx fz'
  obtain ⟨b, fb, eb, Gb⟩ := Mul_K fx' fz
  obtain ⟨c, fc, ec, Gc⟩ := Mul_K fy fz'
  obtain ⟨d, fd, ed, Gd⟩ := Mul_K fy' fz
  have hS1 : ∀ w, Gives 37 #[elem a, elem b] w (.bool (decide (P.x = Q.x))) := fun w => by
    rw [show decide (P.x = Q.x) = decide (fk a = fk b) from decide_eq_decide.2 (by rw [ea, eb]; exact (same_key nz nz' ex ex').symm)]
    exact Same_K fa fb w
  have hS2 : ∀ w, Gives 37 #[elem c, elem d] w (.bool (decide (P.y = Q.y))) := fun w => by
    rw [show decide (P.y = Q.y) = decide (fk c = fk d) from decide_eq_decide.2 (by rw [ec, ed]; exact (same_key nz nz' ey ey').symm)]
    exact Same_K fc fd w
  have lx := fx.1
  have Hx := Lib.hid hx
  clear hx fx
  have ly := fy.1
  have Hy := Lib.hid hy
  clear hy fy
  have lz := fz.1
  have Hz := Lib.hid hz
  clear hz fz
  have lx' := fx'.1
  have Hx' := Lib.hid hx'
  clear hx' fx'
  have ly' := fy'.1
  have Hy' := Lib.hid hy'
  clear hy' fy'
  have lz' := fz'.1
  have Hz' := Lib.hid hz'
  clear hz' fz'
  clear ex ey ex' ey' nz nz'
  have la := fa.1
  have HGa := Lib.hid Ga
  clear Ga fa ea
  have lb := fb.1
  have HGb := Lib.hid Gb
  clear Gb fb eb
  have lc := fc.1
  have HGc := Lib.hid Gc
  clear Gc fc ec
  have ld := fd.1
  have HGd := Lib.hid Gd
  clear Gd fd ed
  by_cases h1 : P.x = Q.x
  · have hpq : decide (P = Q) = decide (P.y = Q.y) := decide_eq_decide.2 ⟨fun h => by rw [h], fun h => Pt.same h1 h⟩
    rw [hpq]
    rw [decide_eq_true h1] at hS1
    have H1 := Lib.hid hS1
    have H2 := Lib.hid hS2
    clear hS1 hS2 h1 hpq
    obtain ⟨v, hv⟩ : ∃ v, decide (P.y = Q.y) = v := ⟨_, rfl⟩
    rw [hv] at H2 ⊢
    clear hv
    have hE0 := Env.nil w
    go_enter Try.func11, Try.ntmps11
    repeat ((fail_if_success with_reducible show wA ..); (fail_if_success with_reducible show wB ..); go_step)
    refine wl_step (st_boxA hE0 rfl rfl rfl ?_)
    intro g0 w1 hb1 hE1
    clear hE0
    simp only [Act.put, pA, pB, pC]
    refine wl_step (st_boxA hE1 rfl rfl rfl ?_)
    intro g1 w2 hb2 hE2
    clear hE1
    simp only [Act.put, pA, pB, pC]
    refine wv (v_moveC (.inr rfl)) ?_
    simp only [Act.put, pA, pB, pC]
    repeat ((fail_if_success with_reducible show wA ..); (fail_if_success with_reducible show wB ..); go_step)
    refine wp_region_B (n := 25) 24 (by kernel_rfl) rfl hE2 ?_
    intro w3 hb3 hE3
    clear hE2
    refine wpB_take (i := 0) (by kernel_rfl) rfl (by kernel_rfl) (fun _ _ _ h => h) rfl (v_field0 (s := 4) rfl rfl Try.underlying28 rfl (by kernel_rfl) rfl) ?_
    simp only [Act.put, pA, pB, pC]
    refine wpB_take (i := 1) (by kernel_rfl) rfl (by kernel_rfl) (fun _ _ _ h => h) rfl (v_loadPartE (i := 1) (n := 5) Hx.out hE3 rfl rfl rfl Try.underlying26 rfl (by kernel_rfl) (by omega)) ?_
    simp only [Act.put, pA, pB, pC]
    refine wpB_take (i := 2) (by kernel_rfl) rfl (by kernel_rfl) (fun _ _ _ h => h) rfl (v_fieldB (s := 4) rfl rfl Try.underlying28 rfl (by kernel_rfl) rfl) ?_
    simp only [Act.put, pA, pB, pC]
    refine wpB_take (i := 3) (by kernel_rfl) rfl (by kernel_rfl) (fun _ _ _ h => h) rfl (v_loadPartE (i := 0) (n := 5) Hz'.out hE3 rfl rfl rfl Try.underlying26 rfl (by kernel_rfl) (by omega)) ?_
    simp only [Act.put, pA, pB, pC]
    refine wpB_take (i := 5) (by kernel_rfl) rfl (by kernel_rfl) (fun _ _ _ h => h) rfl (v_field0 (s := 4) rfl rfl Try.underlying28 rfl (by kernel_rfl) rfl) ?_
    simp only [Act.put, pA, pB, pC]
    refine wpB_take (i := 6) (by kernel_rfl) rfl (by kernel_rfl) (fun _ _ _ h => h) rfl (v_loadPartE (i := 0) (n := 5) Hx'.out hE3 rfl rfl rfl Try.underlying26 rfl (by kernel_rfl) (by omega)) ?_
    simp only [Act.put, pA, pB, pC]
    refine wpB_take (i := 7) (by kernel_rfl) rfl (by kernel_rfl) (fun _ _ _ h => h) rfl (v_fieldB (s := 4) rfl rfl Try.underlying28 rfl (by kernel_rfl) rfl) ?_
    simp only [Act.put, pA, pB, pC]
    refine wpB_take (i := 8) (by kernel_rfl) rfl (by kernel_rfl) (fun _ _ _ h => h) rfl (v_loadPartE (i := 1) (n := 5) Hz.out hE3 rfl rfl rfl Try.underlying26 rfl (by kernel_rfl) (by omega)) ?_
    simp only [Act.put, pA, pB, pC]
    refine wpB_step (i := 4) (by kernel_rfl) rfl (st_gives hE3 rfl (run_call rfl Try.call34) (HGa.out _) ?_)
    intro w4 hb4 hE4
    clear hE3
    refine ⟨fun _ => hb4, ?_⟩
    simp only [Act.put, pA, pB, pC]
    refine wpB_step (i := 9) (by kernel_rfl) rfl (st_gives hE4 rfl (run_call rfl Try.call34) (HGb.out _) ?_)
    intro w5 hb5 hE5
    clear hE4
    refine ⟨fun _ => hb5, ?_⟩
    simp only [Act.put, pA, pB, pC]
    refine wpB_step (i := 10) (by kernel_rfl) rfl (st_gives hE5 rfl (run_call rfl Try.call37) (H1.out _) ?_)
    intro w6 hb6 hE6
    clear hE5
    refine ⟨fun _ => hb6, ?_⟩
    simp only [Act.put, pA, pB, pC]
    refine wpB_take (i := 11) (by kernel_rfl) rfl (by kernel_rfl) (fun _ _ _ h => h) rfl (v_moveT (.inl rfl) rfl) ?_
    simp only [Act.put, pA, pB, pC]
    refine wpB_take (i := 12) (by kernel_rfl) rfl (by kernel_rfl) (fun _ _ _ h => h) rfl (v_fieldB (s := 4) rfl rfl Try.underlying28 rfl (by kernel_rfl) rfl) ?_
    simp only [Act.put, pA, pB, pC]
    refine wpB_take (i := 13) (by kernel_rfl) rfl (by kernel_rfl) (fun _ _ _ h => h) rfl (v_loadPartE (i := 1) (n := 5) Hy.out hE6 rfl rfl rfl Try.underlying26 rfl (by kernel_rfl) (by omega)) ?_
    simp only [Act.put, pA, pB, pC]
    refine wpB_take (i := 14) (by kernel_rfl) rfl (by kernel_rfl) (fun _ _ _ h => h) rfl (v_fieldB (s := 4) rfl rfl Try.underlying28 rfl (by kernel_rfl) rfl) ?_
    simp only [Act.put, pA, pB, pC]
    refine wpB_take (i := 15) (by kernel_rfl) rfl (by kernel_rfl) (fun _ _ _ h => h) rfl (v_loadPartE (i := 0) (n := 5) Hz'.out hE6 rfl rfl rfl Try.underlying26 rfl (by kernel_rfl) (by omega)) ?_
    simp only [Act.put, pA, pB, pC]
    refine wpB_take (i := 17) (by kernel_rfl) rfl (by kernel_rfl) (fun _ _ _ h => h) rfl (v_fieldB (s := 4) rfl rfl Try.underlying28 rfl (by kernel_rfl) rfl) ?_
    simp only [Act.put, pA, pB, pC]
    refine wpB_take (i := 18) (by kernel_rfl) rfl (by kernel_rfl) (fun _ _ _ h => h) rfl (v_loadPartE (i := 0) (n := 5) Hy'.out hE6 rfl rfl rfl Try.underlying26 rfl (by kernel_rfl) (by omega)) ?_
    simp only [Act.put, pA, pB, pC]
    refine wpB_take (i := 19) (by kernel_rfl) rfl (by kernel_rfl) (fun _ _ _ h => h) rfl (v_fieldB (s := 4) rfl rfl Try.underlying28 rfl (by kernel_rfl) rfl) ?_
    simp only [Act.put, pA, pB, pC]
    refine wpB_take (i := 20) (by kernel_rfl) rfl (by kernel_rfl) (fun _ _ _ h => h) rfl (v_loadPartE (i := 1) (n := 5) Hz.out hE6 rfl rfl rfl Try.underlying26 rfl (by kernel_rfl) (by omega)) ?_
    simp only [Act.put, pA, pB, pC]
    refine wpB_step (i := 16) (by kernel_rfl) rfl (st_gives hE6 rfl (run_call rfl Try.call34) (HGc.out _) ?_)
    intro w7 hb7 hE7
    clear hE6
    refine ⟨fun _ => hb7, ?_⟩
    simp only [Act.put, pA, pB, pC]
    refine wpB_step (i := 21) (by kernel_rfl) rfl (st_gives hE7 rfl (run_call rfl Try.call34) (HGd.out _) ?_)
    intro w8 hb8 hE8
    clear hE7
    refine ⟨fun _ => hb8, ?_⟩
    simp only [Act.put, pA, pB, pC]
    refine wpB_step (i := 22) (by kernel_rfl) rfl (st_gives hE8 rfl (run_call rfl Try.call37) (H2.out _) ?_)
    intro w9 hb9 hE9
    clear hE8
    refine ⟨fun _ => hb9, ?_⟩
    simp only [Act.put, pA, pB, pC]
    refine wpB_take (i := 23) (by kernel_rfl) rfl (by kernel_rfl) (fun _ _ _ h => h) rfl (v_and rfl rfl (fun _ => rfl)) ?_
    simp only [Act.put, pA, pB, pC]
    refine wpB_step (i := 24) (by kernel_rfl) rfl (st_val rfl (v_moveT (.inr rfl) rfl) ?_)
    refine ⟨fun _ => Below.refl _ _, ?_⟩
    simp only [Act.put, pA, pB, pC]
    refine wpB_done (by kernel_rfl) ?_ _
    repeat ((fail_if_success with_reducible show wA ..); (fail_if_success with_reducible show wB ..); go_step)
    go_returns
    exact ⟨by cases v <;> rfl, hE9.below⟩
  · have hpq : decide (P = Q) = false := decide_eq_false fun h => h1 (by rw [h])
    rw [hpq]
    rw [decide_eq_false h1] at hS1
    have H1 := Lib.hid hS1
    clear hS1 hS2 h1 hpq
    have hE0 := Env.nil w
    go_enter Try.func11, Try.ntmps11
    repeat ((fail_if_success with_reducible show wA ..); (fail_if_success with_reducible show wB ..); go_step)
    refine wl_step (st_boxA hE0 rfl rfl rfl ?_)
    intro g0 w1 hb1 hE1
    clear hE0
    simp only [Act.put, pA, pB, pC]
    refine wl_step (st_boxA hE1 rfl rfl rfl ?_)
    intro g1 w2 hb2 hE2
    clear hE1
    simp only [Act.put, pA, pB, pC]
    refine wv (v_moveC (.inr rfl)) ?_
    simp only [Act.put, pA, pB, pC]
    repeat ((fail_if_success with_reducible show wA ..); (fail_if_success with_reducible show wB ..); go_step)
    refine wp_region_B (n := 25) 24 (by kernel_rfl) rfl hE2 ?_
    intro w3 hb3 hE3
    clear hE2
    refine wpB_take (i := 0) (by kernel_rfl) rfl (by kernel_rfl) (fun _ _ _ h => h) rfl (v_field0 (s := 4) rfl rfl Try.underlying28 rfl (by kernel_rfl) rfl) ?_
    simp only [Act.put, pA, pB, pC]
    refine wpB_take (i := 1) (by kernel_rfl) rfl (by kernel_rfl) (fun _ _ _ h => h) rfl (v_loadPartE (i := 1) (n := 5) Hx.out hE3 rfl rfl rfl Try.underlying26 rfl (by kernel_rfl) (by omega)) ?_
    simp only [Act.put, pA, pB, pC]
    refine wpB_take (i := 2) (by kernel_rfl) rfl (by kernel_rfl) (fun _ _ _ h => h) rfl (v_fieldB (s := 4) rfl rfl Try.underlying28 rfl (by kernel_rfl) rfl) ?_
    simp only [Act.put, pA, pB, pC]
    refine wpB_take (i := 3) (by kernel_rfl) rfl (by kernel_rfl) (fun _ _ _ h => h) rfl (v_loadPartE (i := 0) (n := 5) Hz'.out hE3 rfl rfl rfl Try.underlying26 rfl (by kernel_rfl) (by omega)) ?_
    simp only [Act.put, pA, pB, pC]
    refine wpB_take (i := 5) (by kernel_rfl) rfl (by kernel_rfl) (fun _ _ _ h => h) rfl (v_field0 (s := 4) rfl rfl Try.underlying28 rfl (by kernel_rfl) rfl) ?_
    simp only [Act.put, pA, pB, pC]
    refine wpB_take (i := 6) (by kernel_rfl) rfl (by kernel_rfl) (fun _ _ _ h => h) rfl (v_loadPartE (i := 0) (n := 5) Hx'.out hE3 rfl rfl rfl Try.underlying26 rfl (by kernel_rfl) (by omega)) ?_
    simp only [Act.put, pA, pB, pC]
    refine wpB_take (i := 7) (by kernel_rfl) rfl (by kernel_rfl) (fun _ _ _ h => h) rfl (v_fieldB (s := 4) rfl rfl Try.underlying28 rfl (by kernel_rfl) rfl) ?_
    simp only [Act.put, pA, pB, pC]
    refine wpB_take (i := 8) (by kernel_rfl) rfl (by kernel_rfl) (fun _ _ _ h => h) rfl (v_loadPartE (i := 1) (n := 5) Hz.out hE3 rfl rfl rfl Try.underlying26 rfl (by kernel_rfl) (by omega)) ?_
    simp only [Act.put, pA, pB, pC]
    refine wpB_step (i := 4) (by kernel_rfl) rfl (st_gives hE3 rfl (run_call rfl Try.call34) (HGa.out _) ?_)
    intro w4 hb4 hE4
    clear hE3
    refine ⟨fun _ => hb4, ?_⟩
    simp only [Act.put, pA, pB, pC]
    refine wpB_step (i := 9) (by kernel_rfl) rfl (st_gives hE4 rfl (run_call rfl Try.call34) (HGb.out _) ?_)
    intro w5 hb5 hE5
    clear hE4
    refine ⟨fun _ => hb5, ?_⟩
    simp only [Act.put, pA, pB, pC]
    refine wpB_step (i := 10) (by kernel_rfl) rfl (st_gives hE5 rfl (run_call rfl Try.call37) (H1.out _) ?_)
    intro w6 hb6 hE6
    clear hE5
    refine ⟨fun _ => hb6, ?_⟩
    simp only [Act.put, pA, pB, pC]
    refine wpB_take (i := 11) (by kernel_rfl) rfl (by kernel_rfl) (fun _ _ _ h => h) rfl (v_moveT (.inl rfl) rfl) ?_
    simp only [Act.put, pA, pB, pC]
    refine wpB_pass (i := 12) (by kernel_rfl) rfl (by kernel_rfl) (fun _ _ _ h => h) rfl ?_
    simp only [Act.put, pA, pB, pC]
    refine wpB_pass (i := 13) (by kernel_rfl) rfl (by kernel_rfl) (fun _ _ _ h => h) rfl ?_
    simp only [Act.put, pA, pB, pC]
    refine wpB_pass (i := 14) (by kernel_rfl) rfl (by kernel_rfl) (fun _ _ _ h => h) rfl ?_
    simp only [Act.put, pA, pB, pC]
    refine wpB_pass (i := 15) (by kernel_rfl) rfl (by kernel_rfl) (fun _ _ _ h => h) rfl ?_
    simp only [Act.put, pA, pB, pC]
    refine wpB_pass (i := 16) (by kernel_rfl) rfl (by kernel_rfl) (fun _ _ _ h => h) rfl ?_
    simp only [Act.put, pA, pB, pC]
    refine wpB_pass (i := 17) (by kernel_rfl) rfl (by kernel_rfl) (fun _ _ _ h => h) rfl ?_
    simp only [Act.put, pA, pB, pC]
    refine wpB_pass (i := 18) (by kernel_rfl) rfl (by kernel_rfl) (fun _ _ _ h => h) rfl ?_
    simp only [Act.put, pA, pB, pC]
    refine wpB_pass (i := 19) (by kernel_rfl) rfl (by kernel_rfl) (fun _ _ _ h => h) rfl ?_
    simp only [Act.put, pA, pB, pC]
    refine wpB_pass (i := 20) (by kernel_rfl) rfl (by kernel_rfl) (fun _ _ _ h => h) rfl ?_
    simp only [Act.put, pA, pB, pC]
    refine wpB_pass (i := 21) (by kernel_rfl) rfl (by kernel_rfl) (fun _ _ _ h => h) rfl ?_
    simp only [Act.put, pA, pB, pC]
    refine wpB_pass (i := 22) (by kernel_rfl) rfl (by kernel_rfl) (fun _ _ _ h => h) rfl ?_
    simp only [Act.put, pA, pB, pC]
    refine wpB_take (i := 23) (by kernel_rfl) rfl (by kernel_rfl) (fun _ _ _ h => h) rfl (v_andF rfl rfl) ?_
    simp only [Act.put, pA, pB, pC]
    refine wpB_step (i := 24) (by kernel_rfl) rfl (st_val rfl (v_moveT (.inr rfl) rfl) ?_)
    refine ⟨fun _ => Below.refl _ _, ?_⟩
    simp only [Act.put, pA, pB, pC]
    refine wpB_done (by kernel_rfl) ?_ _
    repeat ((fail_if_success with_reducible show wA ..); (fail_if_success with_reducible show wB ..); go_step)
    go_returns
    exact ⟨rfl, hE6.below⟩

/-- A point's bytes. -/
def encB (P : Pt) : List Nat := digs 256 32 (encN P)
theorem half_pow : (57896044618658097711785492504343953926634992332820282019728792003956564819968 : Nat) = 256 ^ 31 * 128 := by decide
theorem top_digit {v : Nat} (h : v < 57896044618658097711785492504343953926634992332820282019728792003956564819968) : (digs 256 32 v).getD 31 0 = v / 256 ^ 31 ∧ v / 256 ^ 31 < 128 := by
  have h1 : v / 256 ^ 31 < 128 := Nat.div_lt_of_lt_mul (half_pow ▸ h)
  refine ⟨?_, h1⟩
  rw [digs_getD _ _ _ _ (by decide)]
  exact Nat.mod_eq_of_lt (by omega)
theorem set_top {v : Nat} (h : v < 57896044618658097711785492504343953926634992332820282019728792003956564819968) : (digs 256 32 v).set 31 (v / 256 ^ 31 + 128) = digs 256 32 (v + 57896044618658097711785492504343953926634992332820282019728792003956564819968) := by
  obtain ⟨h0, h1⟩ := top_digit h
  rw [digs_getD _ _ _ _ (by decide)] at h0
  have hb : (256 : Nat) ^ 32 = 57896044618658097711785492504343953926634992332820282019728792003956564819968 + 57896044618658097711785492504343953926634992332820282019728792003956564819968 := by decide
  refine digs_set (by decide) (by decide) (by omega) (by omega) (by omega) ?_
  rw [h0, Nat.mul_add, half_pow]
  omega
theorem or_128 {n : Nat} (h : n < 128) : n ||| 128 = n + 128 := by
  have := Nat.two_pow_add_eq_or_of_lt (i := 7) (b := n) h 1
  rw [show (2 : Nat) ^ 7 * 1 = 128 from rfl] at this
  rw [Nat.or_comm, ← this, Nat.add_comm]
theorem lt_half {v : Nat} (h : v < pN) : v < 57896044618658097711785492504343953926634992332820282019728792003956564819968 := Nat.lt_trans h (by decide)
theorem val_kk {n : Nat} {x : Fin pN} (h : kk pN n = x) : n % pN = x.val := by
  rw [← h]
  rfl
theorem K_quot {x X z i : Fin pN} (e : x = X * z) (h : z * i = 1) : x * i = X := by
  rw [e]
  have : X * z * i = X * (z * i) := by grobner
  rw [this, h]
  grobner

set_option maxRecDepth 100000 in
set_option maxHeartbeats 4000000 in
theorem PBytes_any {l : List Nat} {P : Pt} (h : PRep l P) (w : World) : Gives 15 #[pt l] w (.agg (ints .u8 (encB P))) := by
  obtain ⟨len, fx, fy, fz, ft, nz, ex, ey, et⟩ := h
  obtain ⟨x, hx⟩ : ∃ x, (l.drop 0).take 5 = x := ⟨_, rfl⟩
  obtain ⟨y, hy⟩ : ∃ y, (l.drop 5).take 5 = y := ⟨_, rfl⟩
  obtain ⟨z, hz⟩ : ∃ z, (l.drop 10).take 5 = z := ⟨_, rfl⟩
  rw [hx] at fx ex
  rw [hy] at fy ey
  rw [hz] at fz nz ex ey
  clear ft et
  obtain ⟨i, fi, ei, Gi⟩ := Invert_K fz
  obtain ⟨a, fa, ea, Ga⟩ := Mul_K fy fi
  obtain ⟨b, fb, eb, Gb⟩ := Mul_K fx fi
  have hi : fk z * fk i = 1 := by rw [ei]; exact K_inv nz
  rw [K_quot ey hi] at ea
  rw [K_quot ex hi] at eb
  have hB := fun w => Bytes_any fa w
  have hO := fun w => Odd_any fb w
  rw [val_kk ea] at hB
  rw [val_kk eb] at hO
  have hY := lt_half P.y.isLt
  have he : encB P = digs 256 32 (P.y.val + 57896044618658097711785492504343953926634992332820282019728792003956564819968 * (P.x.val % 2)) := rfl
  rw [he]
  obtain ⟨Y, hYe⟩ : ∃ Y, P.y.val = Y := ⟨_, rfl⟩
  obtain ⟨X, hXe⟩ : ∃ X, P.x.val = X := ⟨_, rfl⟩
  rw [hYe] at hB hY ⊢
  rw [hXe] at hO ⊢
  obtain ⟨ht, htl⟩ := top_digit hY
  have hs := set_top hY
  obtain ⟨T, hT⟩ : ∃ T, Y / 256 ^ 31 = T := ⟨_, rfl⟩
  rw [hT] at ht hs htl
  have hor : T ||| 128 = T + 128 := or_128 htl
  have hT8 : T < 256 := by omega
  have lx := fx.1
  have Hx := Lib.hid hx
  clear hx fx
  have ly := fy.1
  have Hy := Lib.hid hy
  clear hy fy
  have lz := fz.1
  have Hz := Lib.hid hz
  clear hz fz
  clear ex ey nz
  have li := fi.1
  have HGi := Lib.hid Gi
  clear Gi fi ei
  have la := fa.1
  have HGa := Lib.hid Ga
  clear Ga fa ea
  have lb := fb.1
  have HGb := Lib.hid Gb
  clear Gb fb eb
  have HB := Lib.hid hB
  have HO := Lib.hid hO
  have Ht := Lib.hid ht
  have Hs := Lib.hid hs
  have Hor := Lib.hid hor
  clear hB hO ht hs hor hi he hYe hXe hT hY
  have hdY := digs_length 256 32 Y
  have hE0 := Env.nil w
  go_enter Try.func15, Try.ntmps15
  repeat ((fail_if_success with_reducible show wA ..); (fail_if_success with_reducible show wB ..); go_step)
  refine wl_step (st_boxA hE0 rfl rfl rfl ?_)
  intro g0 w1 hb1 hE1
  clear hE0
  simp only [Act.put, pA, pB, pC]
  refine wl_step (st_alloc (zs := ints .u8 (List.replicate 32 0)) hE1 rfl rfl (fun w => by kernel_rfl) ?_)
  intro g1 w2 hb2 hE2
  clear hE1
  simp only [Act.put, pA, pB, pC]
  repeat ((fail_if_success with_reducible show wA ..); (fail_if_success with_reducible show wB ..); go_step)
  refine wv (v_fieldB (s := 4) rfl rfl Try.underlying28 rfl (by kernel_rfl) rfl) ?_
  simp only [Act.put, pA, pB, pC]
  refine wv (v_loadPartE (i := 1) (n := 5) Hz.out hE2 rfl rfl rfl Try.underlying26 rfl (by kernel_rfl) (by omega)) ?_
  simp only [Act.put, pA, pB, pC]
  refine wl_step (st_gives hE2 rfl (run_call rfl Try.call40) (HGi.out _) ?_)
  intro w3 hb3 hE3
  clear hE2
  simp only [Act.put, pA, pB, pC]
  refine wl_step (st_alloc (zs := ints .u64 (List.replicate 5 0)) hE3 rfl rfl (fun w => by kernel_rfl) ?_)
  intro g2 w4 hb4 hE4
  clear hE3
  simp only [Act.put, pA, pB, pC]
  refine wl_step (st_store (i := 0) hE4 rfl rfl rfl rfl rfl (szA (n := 5)) (by first | (simp only [ints_size, digs_length, List.length_replicate, List.length_cons, List.length_nil]; done) | (simp only [ints_size, digs_length, List.length_replicate, List.length_cons, List.length_nil, List.length_set, List.length_append]; omega) | rfl) (by first | exact ints_one _ _ | decide | simp [*]) ?_)
  intro w5 hE5
  clear hE4
  simp only [pB, pC] at hE5
  simp only [Act.put, pA, pB, pC]
  repeat ((fail_if_success with_reducible show wA ..); (fail_if_success with_reducible show wB ..); go_step)
  refine wv (v_fieldB (s := 4) rfl rfl Try.underlying28 rfl (by kernel_rfl) rfl) ?_
  simp only [Act.put, pA, pB, pC]
  refine wv (v_loadPartE (i := 2) (n := 5) Hy.out hE5 rfl rfl rfl Try.underlying26 rfl (by kernel_rfl) (by omega)) ?_
  simp only [Act.put, pA, pB, pC]
  refine wv (v_load (i := 0) hE5 rfl rfl rfl Try.underlying26 rfl (szA (n := 5))) ?_
  simp only [Act.put, pA, pB, pC]
  refine wl_step (st_gives hE5 rfl (run_call rfl Try.call34) (HGa.out _) ?_)
  intro w6 hb6 hE6
  clear hE5
  simp only [Act.put, pA, pB, pC]
  refine wl_step (st_gives hE6 rfl (run_call rfl Try.call41) (HB.out _) ?_)
  intro w7 hb7 hE7
  clear hE6
  simp only [Act.put, pA, pB, pC]
  refine wl_step (st_alloc (zs := ints .u8 (List.replicate 32 0)) hE7 rfl rfl (fun w => by kernel_rfl) ?_)
  intro g3 w8 hb8 hE8
  clear hE7
  simp only [Act.put, pA, pB, pC]
  refine wl_step (st_store (i := 0) hE8 rfl rfl rfl rfl rfl (szA (n := 32)) (by first | (simp only [ints_size, digs_length, List.length_replicate, List.length_cons, List.length_nil]; done) | (simp only [ints_size, digs_length, List.length_replicate, List.length_cons, List.length_nil, List.length_set, List.length_append]; omega) | rfl) (by first | exact ints_one _ _ | decide | simp [*]) ?_)
  intro w9 hE9
  clear hE8
  simp only [pB, pC] at hE9
  simp only [Act.put, pA, pB, pC]
  repeat ((fail_if_success with_reducible show wA ..); (fail_if_success with_reducible show wB ..); go_step)
  refine wv (v_field0 (s := 4) rfl rfl Try.underlying28 rfl (by kernel_rfl) rfl) ?_
  simp only [Act.put, pA, pB, pC]
  refine wv (v_loadPartE (i := 3) (n := 5) Hx.out hE9 rfl rfl rfl Try.underlying26 rfl (by kernel_rfl) (by omega)) ?_
  simp only [Act.put, pA, pB, pC]
  refine wv (v_load (i := 1) hE9 rfl rfl rfl Try.underlying26 rfl (szA (n := 5))) ?_
  simp only [Act.put, pA, pB, pC]
  refine wl_step (st_gives hE9 rfl (run_call rfl Try.call34) (HGb.out _) ?_)
  intro w10 hb10 hE10
  clear hE9
  simp only [Act.put, pA, pB, pC]
  refine wl_step (st_gives hE10 rfl (run_call rfl Try.call42) (HO.out _) ?_)
  intro w11 hb11 hE11
  clear hE10
  simp only [Act.put, pA, pB, pC]
  repeat ((fail_if_success with_reducible show wA ..); (fail_if_success with_reducible show wB ..); (fail_if_success (with_reducible show Code.wp _ (Code.cond _ _ _) _ _ _)); go_step)
  by_cases ho : X % 2 = 1
  · skip
    repeat ((fail_if_success with_reducible show wA ..); (fail_if_success with_reducible show wB ..); (fail_if_success (with_reducible show Code.wp _ (Code.cond _ _ _) _ _ _)); go_step)
    refine wp_cond_true (by first | rfl | exact congrArg Value.bool (decide_eq_true (by omega))) ?_
    skip
    repeat ((fail_if_success with_reducible show wA ..); (fail_if_success with_reducible show wB ..); go_step)
    refine wv (v_indexA0 (j := 31) rfl rfl rfl Try.underlying22 (by kernel_rfl) (by first | assumption | omega)) ?_
    simp only [Act.put, pA, pB, pC]
    refine wv (v_cell rfl rfl Try.underlying5 rfl (Env.cellv (i := 0) hE11 rfl (ints_get? _ _ _ (by first | assumption | omega | (simp; done) | (simp; omega))))) ?_
    simp only [Act.put, pA, pB, pC]
    rw [Ht.out]
    refine wv (v_bor (n := 128) rfl rfl rfl (by simp only [IntKind.bits]; omega) (by simp only [IntKind.bits]; omega) (w_or rfl (by simp only [IntKind.bits]; omega) (by simp only [IntKind.bits]; omega))) ?_
    simp only [Act.put, pA, pB, pC]
    rw [Hor.out]
    refine wv (v_indexA0 (j := 31) rfl rfl rfl Try.underlying22 (by kernel_rfl) (by first | assumption | omega)) ?_
    simp only [Act.put, pA, pB, pC]
    refine wl_step (st_putN (i := 0) hE11 rfl rfl rfl rfl rfl (by kernel_rfl) (by first | assumption | omega | (simp only [List.length_set, List.length_replicate]; first | assumption | omega)) ?_)
    intro w12 hE12
    clear hE11
    simp only [pB, pC] at hE12
    simp only [Act.put, pA, pB, pC]
    rw [Hs.out] at hE12
    repeat ((fail_if_success with_reducible show wA ..); (fail_if_success with_reducible show wB ..); go_step)
    refine wv (v_load (i := 0) hE12 rfl rfl rfl Try.underlying22 rfl (szA (n := 32))) ?_
    simp only [Act.put, pA, pB, pC]
    refine wl_step (st_store (i := 2) hE12 rfl rfl rfl rfl rfl (szA (n := 32)) (by first | (simp only [ints_size, digs_length, List.length_replicate, List.length_cons, List.length_nil]; done) | (simp only [ints_size, digs_length, List.length_replicate, List.length_cons, List.length_nil, List.length_set, List.length_append]; omega) | rfl) (by first | exact ints_one _ _ | decide | simp [*]) ?_)
    intro w13 hE13
    clear hE12
    simp only [pB, pC] at hE13
    simp only [Act.put, pA, pB, pC]
    repeat ((fail_if_success with_reducible show wA ..); (fail_if_success with_reducible show wB ..); go_step)
    refine bodyPost_ret (results_cell_row rfl _ _ _ _ _ (0, 0) _ rfl (hE13.get (i := 2) rfl) Try.underlying22 rfl (szA (n := 32))) rfl ⟨by rw [ho, Nat.mul_one] <;> rfl, hE13.below⟩
  · have h0 : X % 2 = 0 := by omega
    repeat ((fail_if_success with_reducible show wA ..); (fail_if_success with_reducible show wB ..); (fail_if_success (with_reducible show Code.wp _ (Code.cond _ _ _) _ _ _)); go_step)
    refine wp_cond_false (by first | rfl | exact congrArg Value.bool (decide_eq_false (by omega))) ?_
    skip
    repeat ((fail_if_success with_reducible show wA ..); (fail_if_success with_reducible show wB ..); go_step)
    refine wv (v_load (i := 0) hE11 rfl rfl rfl Try.underlying22 rfl (szA (n := 32))) ?_
    simp only [Act.put, pA, pB, pC]
    refine wl_step (st_store (i := 2) hE11 rfl rfl rfl rfl rfl (szA (n := 32)) (by first | (simp only [ints_size, digs_length, List.length_replicate, List.length_cons, List.length_nil]; done) | (simp only [ints_size, digs_length, List.length_replicate, List.length_cons, List.length_nil, List.length_set, List.length_append]; omega) | rfl) (by first | exact ints_one _ _ | decide | simp [*]) ?_)
    intro w12 hE12
    clear hE11
    simp only [pB, pC] at hE12
    simp only [Act.put, pA, pB, pC]
    repeat ((fail_if_success with_reducible show wA ..); (fail_if_success with_reducible show wB ..); go_step)
    refine bodyPost_ret (results_cell_row rfl _ _ _ _ _ (0, 0) _ rfl (hE12.get (i := 2) rfl) Try.underlying22 rfl (szA (n := 32))) rfl ⟨by rw [h0, Nat.mul_zero, Nat.add_zero] <;> rfl, hE12.below⟩

/-! ### The base -/
def bXB : List Nat := [0x1a, 0xd5, 0x25, 0x8f, 0x60, 0x2d, 0x56, 0xc9, 0xb2, 0xa7, 0x25, 0x95, 0x60, 0xc7, 0x2c, 0x69, 0x5c, 0xdc, 0xd6, 0xfd, 0x31, 0xe2, 0xa4, 0xc0, 0xfe, 0x53, 0x6e, 0xcd, 0xd3, 0x36, 0x69, 0x21]
def bYB : List Nat := [0x58, 0x66, 0x66, 0x66, 0x66, 0x66, 0x66, 0x66, 0x66, 0x66, 0x66, 0x66, 0x66, 0x66, 0x66, 0x66, 0x66, 0x66, 0x66, 0x66, 0x66, 0x66, 0x66, 0x66, 0x66, 0x66, 0x66, 0x66, 0x66, 0x66, 0x66, 0x66]
theorem bX_val : val 256 bXB = bX := by kernel_rfl
theorem bY_val : val 256 bYB = bY := by kernel_rfl
theorem affine_any {x y : List Nat} {P : Pt} (fx : Fe x) (fy : Fe y) (ex : fk x = P.x) (ey : fk y = P.y) : ∃ c, PRep c P ∧ ∀ w, Gives 30 #[elem x, elem y] w (pt c) := by
  obtain ⟨f1, e1, G1⟩ := Small_K (n := 1) (by decide)
  obtain ⟨t, ft, et, Gt⟩ := Mul_K fx fy
  rw [kk_one] at e1
  have hR : PRep [x, y, [1, 0, 0, 0, 0], t].flatten P := PRep_mk fx fy f1 ft (by rw [e1]; exact one_ne) (by rw [ex, e1]; grobner) (by rw [ey, e1]; grobner) (by rw [et, ex, ey, e1]; grobner)
  have hr5 := rows5 fx.1 fy.1 f1.1 ft.1
  obtain ⟨L, hL⟩ : ∃ L, [x, y, [1, 0, 0, 0, 0], t].flatten = L := ⟨_, rfl⟩
  rw [hL] at hR
  refine ⟨L, hR, fun w => ?_⟩
  have lL := hR.len
  have lx := fx.1
  have ly := fy.1
  have lt := ft.1
  have H1 := Lib.hid G1
  have HT := Lib.hid Gt
  have HL := Lib.hid hL
  have H5 := Lib.hid hr5
  clear G1 Gt hL hr5 hR fx fy ex ey f1 e1 ft et
  have hE0 := Env.nil w
  go_enter Try.func30, Try.ntmps30
  repeat ((fail_if_success with_reducible show wA ..); (fail_if_success with_reducible show wB ..); go_step)
  refine wl_step (st_boxA hE0 rfl rfl rfl ?_)
  intro g0 w1 hb1 hE1
  clear hE0
  simp only [Act.put, pA, pB, pC]
  refine wl_step (st_boxA hE1 rfl rfl rfl ?_)
  intro g1 w2 hb2 hE2
  clear hE1
  simp only [Act.put, pA, pB, pC]
  refine wl_step (st_alloc (zs := ints .u64 (List.replicate 20 0)) hE2 rfl rfl (fun w => by kernel_rfl) ?_)
  intro g2 w3 hb3 hE3
  clear hE2
  simp only [Act.put, pA, pB, pC]
  repeat ((fail_if_success with_reducible show wA ..); (fail_if_success with_reducible show wB ..); go_step)
  refine wp_region_B (n := 8) 7 (by kernel_rfl) rfl hE3 ?_
  intro w4 hb4 hE4
  clear hE3
  refine wpB_take (i := 0) (by kernel_rfl) rfl (by kernel_rfl) (fun _ _ _ h => h) rfl (v_load (i := 2) hE4 rfl rfl rfl Try.underlying26 rfl (szA (n := 5))) ?_
  simp only [Act.put, pA, pB, pC]
  refine wpB_take (i := 1) (by kernel_rfl) rfl (by kernel_rfl) (fun _ _ _ h => h) rfl (v_load (i := 1) hE4 rfl rfl rfl Try.underlying26 rfl (szA (n := 5))) ?_
  simp only [Act.put, pA, pB, pC]
  refine wpB_take (i := 3) (by kernel_rfl) rfl (by kernel_rfl) (fun _ _ _ h => h) rfl (v_load (i := 2) hE4 rfl rfl rfl Try.underlying26 rfl (szA (n := 5))) ?_
  simp only [Act.put, pA, pB, pC]
  refine wpB_take (i := 4) (by kernel_rfl) rfl (by kernel_rfl) (fun _ _ _ h => h) rfl (v_load (i := 1) hE4 rfl rfl rfl Try.underlying26 rfl (szA (n := 5))) ?_
  simp only [Act.put, pA, pB, pC]
  refine wpB_step (i := 2) (by kernel_rfl) rfl (st_gives hE4 rfl (run_call rfl Try.call38) (H1.out _) ?_)
  intro w5 hb5 hE5
  clear hE4
  refine ⟨fun _ => hb5, ?_⟩
  simp only [Act.put, pA, pB, pC]
  refine wpB_step (i := 5) (by kernel_rfl) rfl (st_gives hE5 rfl (run_call rfl Try.call34) (HT.out _) ?_)
  intro w6 hb6 hE6
  clear hE5
  refine ⟨fun _ => hb6, ?_⟩
  simp only [Act.put, pA, pB, pC]
  refine wpB_take (i := 6) (by kernel_rfl) rfl (by kernel_rfl) (fun _ _ _ h => h) rfl (v_point [x, y, [1, 0, 0, 0, 0], t] HL.out rfl (by simp only [List.map_cons, List.map_nil, List.zipIdx_cons, List.zipIdx_nil]; rfl) rfl H5.out) ?_
  simp only [Act.put, pA, pB, pC]
  refine wpB_step (i := 7) (by kernel_rfl) rfl (st_store (i := 0) hE6 rfl rfl rfl rfl rfl (szA (n := 20)) (by first | (simp only [ints_size, digs_length, List.length_replicate, List.length_cons, List.length_nil]; done) | (simp only [ints_size, digs_length, List.length_replicate, List.length_cons, List.length_nil, List.length_set, List.length_append]; omega) | rfl) (by first | exact ints_one _ _ | decide | simp [*]) ?_)
  intro w7 hE7
  clear hE6
  simp only [pB, pC] at hE7
  refine ⟨fun h => absurd h (by decide), ?_⟩
  simp only [Act.put, pA, pB, pC]
  refine wpB_done (by kernel_rfl) ?_ _
  repeat ((fail_if_success with_reducible show wA ..); (fail_if_success with_reducible show wB ..); go_step)
  refine bodyPost_ret (results_cell_row rfl _ _ _ _ _ (0, 0) _ rfl (hE7.get (i := 0) rfl) Try.underlying28 rfl (szA (n := 20))) rfl ⟨rfl, hE7.below⟩
theorem PBase_any : ∃ c, PRep c baseP ∧ ∀ w, Gives 8 #[] w (pt c) := by
  obtain ⟨c, hc, Gc⟩ := affine_any (P := baseP) (digs_Fe bX) (digs_Fe bY) (of_fk bX_lt) (of_fk bY_lt)
  refine ⟨c, hc, fun w => ?_⟩
  have hOX := Lib.hid (fun w => bX_val ▸ Of_any bXB rfl (by unfold Digs bXB; decide) w)
  have hOY := Lib.hid (fun w => bY_val ▸ Of_any bYB rfl (by unfold Digs bYB; decide) w)
  have lc := hc.len
  have l1 : (digs 2251799813685248 5 bX).length = 5 := digs_length _ _ _
  have l2 : (digs 2251799813685248 5 bY).length = 5 := digs_length _ _ _
  have HC := Lib.hid Gc
  clear hc Gc
  have hE0 := Env.nil w
  go_enter Try.func8, Try.ntmps8
  repeat ((fail_if_success with_reducible show wA ..); (fail_if_success with_reducible show wB ..); go_step)
  refine wl_step (st_alloc (zs := ints .u64 (List.replicate 20 0)) hE0 rfl rfl (fun w => by kernel_rfl) ?_)
  intro g0 w1 hb1 hE1
  clear hE0
  simp only [Act.put, pA, pB, pC]
  repeat ((fail_if_success with_reducible show wA ..); (fail_if_success with_reducible show wB ..); go_step)
  refine wv (v_built (k := .u8) (l := bXB) rfl (fun w => by kernel_rfl)) ?_
  simp only [Act.put, pA, pB, pC]
  refine wl_step (st_gives hE1 rfl (run_call rfl Try.call31) (hOX.out _) ?_)
  intro w2 hb2 hE2
  clear hE1
  simp only [Act.put, pA, pB, pC]
  refine wv (v_built (k := .u8) (l := bYB) rfl (fun w => by kernel_rfl)) ?_
  simp only [Act.put, pA, pB, pC]
  refine wl_step (st_gives hE2 rfl (run_call rfl Try.call31) (hOY.out _) ?_)
  intro w3 hb3 hE3
  clear hE2
  simp only [Act.put, pA, pB, pC]
  refine wl_step (st_gives hE3 rfl (run_call rfl Try.call30) (HC.out _) ?_)
  intro w4 hb4 hE4
  clear hE3
  simp only [Act.put, pA, pB, pC]
  refine wl_step (st_store (i := 0) hE4 rfl rfl rfl rfl rfl (szA (n := 20)) (by first | (simp only [ints_size, digs_length, List.length_replicate, List.length_cons, List.length_nil]; done) | (simp only [ints_size, digs_length, List.length_replicate, List.length_cons, List.length_nil, List.length_set, List.length_append]; omega) | rfl) (by first | exact ints_one _ _ | decide | simp [*]) ?_)
  intro w5 hE5
  clear hE4
  simp only [pB, pC] at hE5
  simp only [Act.put, pA, pB, pC]
  repeat ((fail_if_success with_reducible show wA ..); (fail_if_success with_reducible show wB ..); go_step)
  refine bodyPost_ret (results_cell_row rfl _ _ _ _ _ (0, 0) _ rfl (hE5.get (i := 0) rfl) Try.underlying28 rfl (szA (n := 20))) rfl ⟨rfl, hE5.below⟩
end Go.Proofs.Ytmebjoehmheknaa
