/-
  Layer 6, the document's answer: the point of bytes, the base.
  Two results that lie in memory.
-/
import Derived.Test.YtmebjoehmheknaaJ13
import Derived.Test.YtmebjoehmheknaaJ22
import Derived.Test.YtmebjoehmheknaaJ24
namespace Go.Proofs.Ytmebjoehmheknaa
open Go.RowKit
set_option linter.unusedVariables false
set_option linter.unusedSimpArgs false

theorem one_pN : 1 < pN := by decide
theorem one_big (m : Nat) : m % pN + 1 < big8 := by
  have h1 := Nat.mod_lt m pos_pN
  have h2 : pN + 1 < big8 := by decide
  omega
theorem xOf_R {V Y o : Nat} {P : Pt} (hY : Y < pN) (hPy : P.y = kk pN Y) (hPx : P.x = kk pN (xOf Y o)) : R3 (xOf Y o, Y, 1) P :=
  ⟨xOf_lt Y o, hY, one_pN, by show kk pN 1 ≠ 0; rw [kk_one]; exact one_ne, by show kk pN (xOf Y o) = P.x * kk pN 1; rw [hPx, kk_one]; exact (f_mul_one _).symm, by show kk pN Y = P.y * kk pN 1; rw [hPy, kk_one]; exact (f_mul_one _).symm⟩

set_option maxRecDepth 100000 in
set_option maxHeartbeats 16000000 in
theorem rPDecode_walk {b : List Nat} (hb : b.length = 32) (db : Digs 256 b) (V : Nat) (hV : val 256 b = V) :
    (∀ P, encN P = V → ∃ r, R3 r P ∧ ∀ w, Gives 20 #[.agg (ints .u8 b)] w (.tuple #[rv r, .bool true])) ∧
    (¬ isPt V → ∀ w, Gives 20 #[.agg (ints .u8 b)] w (.tuple #[rv (0, 1, 1), .bool false])) := by
  obtain ⟨T, ht, hT, lb', db', hv, ho⟩ := strike hb db
  rw [hV] at hv ho
  have hVl : V < 115792089237316195423570985008687907853269984665640564039457584007913129639936 := by
    have := val_lt db
    rw [hb, hV] at this
    exact this
  obtain ⟨b', hbe⟩ : ∃ b', b.set 31 (T % 128) = b' := ⟨_, rfl⟩
  rw [hbe] at lb' db' hv
  have hRw := fun w => Raw_any db' lb' w
  have hOf := fun w => rOf_any db' lb' w
  rw [hv] at hRw hOf
  rw [Nat.mod_mod] at hOf
  obtain ⟨Y, hYe⟩ : ∃ Y, V % 57896044618658097711785492504343953926634992332820282019728792003956564819968 = Y := ⟨_, rfl⟩
  obtain ⟨o, hoe⟩ : ∃ o, V / 57896044618658097711785492504343953926634992332820282019728792003956564819968 = o := ⟨_, rfl⟩
  have hpt : isPt V ↔ Y < pN ∧ (rootN (uN Y) (vN Y)).2 = true ∧ ¬ (o = 1 ∧ (rootN (uN Y) (vN Y)).1 = 0) := by
    unfold isPt
    rw [hYe, hoe]
  have hyes : ∀ P, encN P = V → isPt V ∧ P.y = kk pN Y ∧ P.x = kk pN (xOf Y o) := fun P hP => by
    have hi : isPt V := hP ▸ of_pt P
    obtain ⟨P', h1, h2, h3⟩ := pt_of hVl hi
    obtain rfl : P' = P := encN_inj (h1.trans hP.symm)
    rw [hYe] at h2 h3
    rw [hoe] at h3
    exact ⟨hi, by rw [← h2]; exact kk_all _, by rw [← h3]; exact kk_all _⟩
  rw [hpt] at hyes ⊢
  rw [hYe] at hRw hOf
  rw [hoe] at ho
  have hY8 : Y < big8 := hYe ▸ Nat.lt_trans (Nat.mod_lt _ (by decide)) (by decide)
  have hL := fun w => Less_any hY8 pN_lt w
  have hord : decide (128 ≤ T) = decide (o = 1) := decide_eq_decide.2 (by omega)
  have Ht := Lib.hid ht
  have Hbe := Lib.hid hbe
  have HRw := Lib.hid hRw
  have HP := Lib.hid (fun w => P_any w)
  have HZ := Lib.hid (fun w => rZero_any w)
  have H1 := Lib.hid (fun w => rSmall_any (n := 1) (by decide) w)
  have Hyes := Lib.hid hyes
  have Hod := Lib.hid hord
  have nY := nm_len Y
  have n1 := nm_len 1
  have lz := rpL_len 0 1 1
  clear ht hbe hRw hyes hord ho hv hpt hYe hoe db db' hV hVl
  by_cases hY : Y < pN
  · have hOw := hOf
    rw [Nat.mod_eq_of_lt hY] at hOw
    have HO := Lib.hid hOw
    have hLw := hL
    rw [decide_eq_true hY] at hLw
    have HL := Lib.hid hLw
    have cM := fun w => rMul_any hY8 hY8 w
    have cS := fun w => rSub_any (m := Y * Y % pN) (n := 1) (Nat.mod_lt _ pos_pN) (by decide) w
    have eU : (Y * Y % pN + (pN - 1)) % pN = uN Y := rfl
    rw [eU] at cS
    have cD := fun w => rMul_any (m := dN) (n := Y * Y % pN) (by decide) (mod_big _) w
    have cA := fun w => rAdd_any (m := dN * (Y * Y % pN) % pN) (n := 1) (mod_big _) (by decide) (one_big _) w
    have eV : (dN * (Y * Y % pN) % pN + 1) % pN = vN Y := by
      unfold vN
      rw [Nat.mul_comm dN, Nat.mod_add_mod]
    rw [eV] at cA
    have lu : uN Y < pN := Nat.mod_lt _ pos_pN
    have lv : vN Y < pN := Nat.mod_lt _ pos_pN
    have cR := fun w => rRoot_any lu lv w
    have hl : (rootN (uN Y) (vN Y)).1 < pN := rootN_lt _ _
    have hxo : ∀ {o' : Nat}, xOf Y o' = if o' = 1 then (pN - (rootN (uN Y) (vN Y)).1) % pN else (rootN (uN Y) (vN Y)).1 := rfl
    have cN := fun w => rSub_any (m := 0) (by decide) hl w
    rw [Nat.zero_add] at cN
    have nu := nm_len (uN Y)
    have nv := nm_len (vN Y)
    have hR3 : ∀ P : Pt, P.y = kk pN Y → P.x = kk pN (xOf Y o) → R3 (xOf Y o, Y, 1) P := fun P h1 h2 => xOf_R (V := V) hY h1 h2
    have hl8 := lt_big' hl
    have h08 : 0 < big8 := by decide
    clear hOw hLw eU eV
    obtain ⟨r, hr⟩ : ∃ r, rootN (uN Y) (vN Y) = r := ⟨_, rfl⟩
    rw [hr] at cR Hyes cN hl hl8 ⊢
    obtain ⟨x, ok⟩ := r
    obtain ⟨yy, hyy⟩ : ∃ r, Y * Y % pN = r := ⟨_, rfl⟩
    rw [hyy] at cM cS cD cA
    obtain ⟨dy, hdy⟩ : ∃ r, dN * yy % pN = r := ⟨_, rfl⟩
    rw [hdy] at cD cA
    obtain ⟨u, hu⟩ : ∃ r, uN Y = r := ⟨_, rfl⟩
    obtain ⟨v, hv⟩ : ∃ r, vN Y = r := ⟨_, rfl⟩
    rw [hu] at cS cR nu
    rw [hv] at cA cR nv
    simp only at cR cN hl hl8
    have nyy := nm_len yy
    have nx := nm_len x
    have HxO : o = 1 → xOf Y o = (pN - x) % pN := fun h => by rw [hxo, if_pos h, hr]
    have HxE : ¬ o = 1 → xOf Y o = x := fun h => by rw [hxo, if_neg h, hr]
    have HR3 := Lib.hid hR3
    have HM := Lib.hid cM
    clear cM
    have HS := Lib.hid cS
    clear cS
    have HD := Lib.hid cD
    clear cD
    have HA := Lib.hid cA
    clear cA
    have HR := Lib.hid cR
    clear cR
    have HN := Lib.hid cN
    clear cN
    have HxO' := Lib.hid HxO
    have HxE' := Lib.hid HxE
    clear hxo hyy hdy hu hv HxO HxE hR3 lu lv hr hL hOf
    obtain ⟨NX, hNX⟩ : ∃ r, (pN - x) % pN = r := ⟨_, rfl⟩
    rw [hNX] at HN HxO'
    have nNX := nm_len NX
    have HDD := Lib.hid (fun w => rD_any w)
    clear hNX
    cases ok with
    | false =>
      refine ⟨fun P hP => absurd (show false = true from (Hyes.out P hP).1.2.1) (by decide), fun _ w => ?_⟩
      clear Hyes HR3 hY
      have hE0 := Env.nil w
      go_enter Try.func20, Try.ntmps20
      repeat ((fail_if_success with_reducible show wA ..); (fail_if_success with_reducible show wB ..); go_step)
      refine wl_step (st_boxA hE0 rfl rfl rfl ?_)
      intro g0 w1 hb1 hE1
      clear hE0
      simp only [Act.put, pA, pB, pC]
      refine wl_step (st_alloc (zs := ints .u32 (List.replicate 24 0)) hE1 rfl rfl (fun w => by kernel_rfl) ?_)
      intro g1 w2 hb2 hE2
      clear hE1
      simp only [Act.put, pA, pB, pC]
      refine wv (v_moveC (.inr rfl)) ?_
      simp only [Act.put, pA, pB, pC]
      repeat ((fail_if_success with_reducible show wA ..); (fail_if_success with_reducible show wB ..); go_step)
      refine wv (v_indexA0 (j := 31) rfl rfl rfl Try.underlying22 (by kernel_rfl) (by first | assumption | omega)) ?_
      simp only [Act.put, pA, pB, pC]
      refine wv (v_cell rfl rfl Try.underlying5 rfl (Env.cellv (i := 1) hE2 rfl (ints_get? _ _ _ (by first | assumption | omega | (simp; done) | (simp; omega))))) ?_
      simp only [Act.put, pA, pB, pC]
      rw [Ht.out]
      refine wv (v_geq (n := 128) rfl rfl rfl) ?_
      simp only [Act.put, pA, pB, pC]
      rw [Hod.out]
      refine wv (v_moveT (.inr rfl) rfl) ?_
      simp only [Act.put, pA, pB, pC]
      repeat ((fail_if_success with_reducible show wA ..); (fail_if_success with_reducible show wB ..); go_step)
      refine wv (v_indexA0 (j := 31) rfl rfl rfl Try.underlying22 (by kernel_rfl) (by first | assumption | omega)) ?_
      simp only [Act.put, pA, pB, pC]
      refine wv (v_cell rfl rfl Try.underlying5 rfl (Env.cellv (i := 1) hE2 rfl (ints_get? _ _ _ (by first | assumption | omega | (simp; done) | (simp; omega))))) ?_
      simp only [Act.put, pA, pB, pC]
      rw [Ht.out]
      refine wv (v_rem (n := 128) rfl rfl rfl (by omega)) ?_
      simp only [Act.put, pA, pB, pC]
      refine wv (v_indexA0 (j := 31) rfl rfl rfl Try.underlying22 (by kernel_rfl) (by first | assumption | omega)) ?_
      simp only [Act.put, pA, pB, pC]
      refine wl_step (st_putN (i := 1) hE2 rfl rfl rfl rfl rfl (by kernel_rfl) (by first | assumption | omega | (simp only [List.length_set, List.length_replicate]; first | assumption | omega)) ?_)
      intro w3 hE3
      clear hE2
      simp only [pB, pC] at hE3
      simp only [Act.put, pA, pB, pC]
      rw [Hbe.out] at hE3
      repeat ((fail_if_success with_reducible show wA ..); (fail_if_success with_reducible show wB ..); go_step)
      refine wv (v_load (i := 1) hE3 rfl rfl rfl Try.underlying22 rfl (szA (n := 32))) ?_
      simp only [Act.put, pA, pB, pC]
      refine wl_step (st_gives hE3 rfl (run_call rfl Try.call49) (HRw.out _) ?_)
      intro w4 hb4 hE4
      clear hE3
      simp only [Act.put, pA, pB, pC]
      refine wl_step (st_gives hE4 rfl (run_call rfl Try.call50) (HP.out _) ?_)
      intro w5 hb5 hE5
      clear hE4
      simp only [Act.put, pA, pB, pC]
      refine wl_step (st_gives hE5 rfl (run_call rfl Try.call48) (HL.out _) ?_)
      intro w6 hb6 hE6
      clear hE5
      simp only [Act.put, pA, pB, pC]
      refine wv (v_not rfl rfl) ?_
      simp only [Act.put, pA, pB, pC]
      repeat ((fail_if_success with_reducible show wA ..); (fail_if_success with_reducible show wB ..); (fail_if_success (with_reducible show Code.wp _ (Code.cond _ _ _) _ _ _)); go_step)
      refine wp_cond_false (by first | rfl | exact congrArg Value.bool (decide_eq_false (by omega))) ?_
      skip
      repeat ((fail_if_success with_reducible show wA ..); (fail_if_success with_reducible show wB ..); go_step)
      refine wv (v_load (i := 1) hE6 rfl rfl rfl Try.underlying22 rfl (szA (n := 32))) ?_
      simp only [Act.put, pA, pB, pC]
      refine wl_step (st_gives hE6 rfl (run_call rfl Try.call52) (HO.out _) ?_)
      intro w7 hb7 hE7
      clear hE6
      simp only [Act.put, pA, pB, pC]
      refine wl_step (st_alloc (zs := ints .u32 (List.replicate 8 0)) hE7 rfl rfl (fun w => by kernel_rfl) ?_)
      intro g2 w8 hb8 hE8
      clear hE7
      simp only [Act.put, pA, pB, pC]
      refine wl_step (st_store (i := 0) hE8 rfl rfl rfl rfl rfl (szA (n := 8)) (by first | (simp only [ints_size, digs_length, List.length_replicate, List.length_cons, List.length_nil]; done) | (simp only [ints_size, digs_length, List.length_replicate, List.length_cons, List.length_nil, List.length_set, List.length_append]; omega) | rfl) (by first | exact ints_one _ _ | decide | simp [*]) ?_)
      intro w9 hE9
      clear hE8
      simp only [pB, pC] at hE9
      simp only [Act.put, pA, pB, pC]
      repeat ((fail_if_success with_reducible show wA ..); (fail_if_success with_reducible show wB ..); go_step)
      refine wl_step (st_gives hE9 rfl (run_call rfl Try.call53) (H1.out _) ?_)
      intro w10 hb10 hE10
      clear hE9
      simp only [Act.put, pA, pB, pC]
      refine wl_step (st_alloc (zs := ints .u32 (List.replicate 8 0)) hE10 rfl rfl (fun w => by kernel_rfl) ?_)
      intro g3 w11 hb11 hE11
      clear hE10
      simp only [Act.put, pA, pB, pC]
      refine wl_step (st_store (i := 0) hE11 rfl rfl rfl rfl rfl (szA (n := 8)) (by first | (simp only [ints_size, digs_length, List.length_replicate, List.length_cons, List.length_nil]; done) | (simp only [ints_size, digs_length, List.length_replicate, List.length_cons, List.length_nil, List.length_set, List.length_append]; omega) | rfl) (by first | exact ints_one _ _ | decide | simp [*]) ?_)
      intro w12 hE12
      clear hE11
      simp only [pB, pC] at hE12
      simp only [Act.put, pA, pB, pC]
      repeat ((fail_if_success with_reducible show wA ..); (fail_if_success with_reducible show wB ..); go_step)
      refine wv (v_load (i := 1) hE12 rfl rfl rfl Try.underlying43 rfl (szA (n := 8))) ?_
      simp only [Act.put, pA, pB, pC]
      refine wv (v_load (i := 1) hE12 rfl rfl rfl Try.underlying43 rfl (szA (n := 8))) ?_
      simp only [Act.put, pA, pB, pC]
      refine wl_step (st_gives hE12 rfl (run_call rfl Try.call54) (HM.out _) ?_)
      intro w13 hb13 hE13
      clear hE12
      simp only [Act.put, pA, pB, pC]
      refine wl_step (st_alloc (zs := ints .u32 (List.replicate 8 0)) hE13 rfl rfl (fun w => by kernel_rfl) ?_)
      intro g4 w14 hb14 hE14
      clear hE13
      simp only [Act.put, pA, pB, pC]
      refine wl_step (st_store (i := 0) hE14 rfl rfl rfl rfl rfl (szA (n := 8)) (by first | (simp only [ints_size, digs_length, List.length_replicate, List.length_cons, List.length_nil]; done) | (simp only [ints_size, digs_length, List.length_replicate, List.length_cons, List.length_nil, List.length_set, List.length_append]; omega) | rfl) (by first | exact ints_one _ _ | decide | simp [*]) ?_)
      intro w15 hE15
      clear hE14
      simp only [pB, pC] at hE15
      simp only [Act.put, pA, pB, pC]
      repeat ((fail_if_success with_reducible show wA ..); (fail_if_success with_reducible show wB ..); go_step)
      refine wp_region_env 13 (by kernel_rfl) (by kernel_rfl) (fun _ _ d _ _ h => by cases d <;> exact h) hE15 ?_
      refine hv (fun _ hW => (v_load (i := 0) hW rfl rfl rfl Try.underlying43 rfl (szA (n := 8)))) ?_
      simp only [Act.put, pA, pB, pC]
      refine hv (fun _ hW => (v_load (i := 1) hW rfl rfl rfl Try.underlying43 rfl (szA (n := 8)))) ?_
      simp only [Act.put, pA, pB, pC]
      refine headRun_call (fun w1 => run_call rfl Try.call56) (fun w1 hW => HS.out _) ?_
      simp only [Act.put, pA, pB, pC]
      refine headRun_call (fun w1 => run_call rfl Try.call21) (fun w1 hW => HDD.out _) ?_
      simp only [Act.put, pA, pB, pC]
      refine hv (fun _ hW => (v_load (i := 0) hW rfl rfl rfl Try.underlying43 rfl (szA (n := 8)))) ?_
      simp only [Act.put, pA, pB, pC]
      refine headRun_call (fun w1 => run_call rfl Try.call54) (fun w1 hW => HD.out _) ?_
      simp only [Act.put, pA, pB, pC]
      refine hv (fun _ hW => (v_load (i := 1) hW rfl rfl rfl Try.underlying43 rfl (szA (n := 8)))) ?_
      simp only [Act.put, pA, pB, pC]
      refine headRun_call (fun w1 => run_call rfl Try.call57) (fun w1 hW => HA.out _) ?_
      simp only [Act.put, pA, pB, pC]
      refine headRun_call (fun w1 => run_call rfl Try.call55) (fun w1 hW => HR.out _) ?_
      simp only [Act.put, pA, pB, pC]
      refine hv (fun _ hW => (v_moveT (.inl rfl) rfl)) ?_
      simp only [Act.put, pA, pB, pC]
      refine hv (fun _ hW => (v_extract rfl rfl rfl)) ?_
      simp only [Act.put, pA, pB, pC]
      refine hv (fun _ hW => (v_extract rfl rfl rfl)) ?_
      simp only [Act.put, pA, pB, pC]
      refine headRun_alloc (zs := ints .u32 (List.replicate 8 0)) rfl rfl (fun w => by kernel_rfl) ?_
      simp only [Act.put, pA, pB, pC]
      refine headRun_nil (endK1 ?_)
      intro g5 w16 hE16
      clear hE15
      simp only [List.drop_succ_cons, List.drop_zero, Act.put, pA, pB, pC]
      refine wl_step (st_store (i := 0) hE16 rfl rfl rfl rfl rfl (szA (n := 8)) (by first | (simp only [ints_size, digs_length, List.length_replicate, List.length_cons, List.length_nil]; done) | (simp only [ints_size, digs_length, List.length_replicate, List.length_cons, List.length_nil, List.length_set, List.length_append]; omega) | rfl) (by first | exact ints_one _ _ | decide | simp [*]) ?_)
      intro w17 hE17
      clear hE16
      simp only [pB, pC] at hE17
      simp only [Act.put, pA, pB, pC]
      refine wv (v_moveT (.inr rfl) rfl) ?_
      simp only [Act.put, pA, pB, pC]
      repeat ((fail_if_success with_reducible show wA ..); (fail_if_success with_reducible show wB ..); go_step)
      refine wv (v_moveT (.inl rfl) rfl) ?_
      simp only [Act.put, pA, pB, pC]
      refine wv (v_not rfl rfl) ?_
      simp only [Act.put, pA, pB, pC]
      refine wv (v_moveT (.inl rfl) rfl) ?_
      simp only [Act.put, pA, pB, pC]
      refine wl_step (st_skip rfl ?_)
      simp only [Act.put, pA, pB, pC]
      refine wl_step (st_skip rfl ?_)
      simp only [Act.put, pA, pB, pC]
      refine wl_step (st_skip rfl ?_)
      simp only [Act.put, pA, pB, pC]
      refine wl_step (st_skip rfl ?_)
      simp only [Act.put, pA, pB, pC]
      refine wl_step (st_skip rfl ?_)
      simp only [Act.put, pA, pB, pC]
      refine wl_step (st_skip rfl ?_)
      simp only [Act.put, pA, pB, pC]
      refine wv (v_orT rfl rfl) ?_
      simp only [Act.put, pA, pB, pC]
      repeat ((fail_if_success with_reducible show wA ..); (fail_if_success with_reducible show wB ..); (fail_if_success (with_reducible show Code.wp _ (Code.cond _ _ _) _ _ _)); go_step)
      refine wp_cond_true (by first | rfl | exact congrArg Value.bool (decide_eq_true (by omega))) ?_
      skip
      repeat ((fail_if_success with_reducible show wA ..); (fail_if_success with_reducible show wB ..); go_step)
      refine wl_step (st_gives hE17 rfl (run_call rfl Try.call51) (HZ.out _) ?_)
      intro w18 hb18 hE18
      clear hE17
      simp only [Act.put, pA, pB, pC]
      refine wl_step (st_store (i := 4) hE18 rfl rfl rfl rfl rfl (szA (n := 24)) (by first | (simp only [ints_size, digs_length, List.length_replicate, List.length_cons, List.length_nil]; done) | (simp only [ints_size, digs_length, List.length_replicate, List.length_cons, List.length_nil, List.length_set, List.length_append]; omega) | rfl) (by first | exact ints_one _ _ | decide | simp [*]) ?_)
      intro w19 hE19
      clear hE18
      simp only [pB, pC] at hE19
      simp only [Act.put, pA, pB, pC]
      refine wv (v_moveC (.inr rfl)) ?_
      simp only [Act.put, pA, pB, pC]
      repeat ((fail_if_success with_reducible show wA ..); (fail_if_success with_reducible show wB ..); go_step)
      refine bodyPost_ret (results_ct rfl _ _ _ _ _ (0, 0) _ rfl (hE19.get (i := 4) rfl) Try.underlying45 rfl (szA (n := 24)) rfl) rfl ⟨rfl, hE19.below⟩
    | true =>
      by_cases ho1 : o = 1
      · have hod1 := Hod.out
        rw [decide_eq_true ho1] at hod1
        have Hod1 := Lib.hid hod1
        clear hod1
        by_cases hr0 : x = 0
        · refine ⟨fun P hP => absurd ⟨ho1, hr0⟩ (Hyes.out P hP).1.2.2, fun _ w => ?_⟩
          have Hr0 := Lib.hid (decide_eq_true hr0)
          clear Hyes HR3 hY Hod hr0 ho1
          have hE0 := Env.nil w
          go_enter Try.func20, Try.ntmps20
          repeat ((fail_if_success with_reducible show wA ..); (fail_if_success with_reducible show wB ..); go_step)
          refine wl_step (st_boxA hE0 rfl rfl rfl ?_)
          intro g0 w1 hb1 hE1
          clear hE0
          simp only [Act.put, pA, pB, pC]
          refine wl_step (st_alloc (zs := ints .u32 (List.replicate 24 0)) hE1 rfl rfl (fun w => by kernel_rfl) ?_)
          intro g1 w2 hb2 hE2
          clear hE1
          simp only [Act.put, pA, pB, pC]
          refine wv (v_moveC (.inr rfl)) ?_
          simp only [Act.put, pA, pB, pC]
          repeat ((fail_if_success with_reducible show wA ..); (fail_if_success with_reducible show wB ..); go_step)
          refine wv (v_indexA0 (j := 31) rfl rfl rfl Try.underlying22 (by kernel_rfl) (by first | assumption | omega)) ?_
          simp only [Act.put, pA, pB, pC]
          refine wv (v_cell rfl rfl Try.underlying5 rfl (Env.cellv (i := 1) hE2 rfl (ints_get? _ _ _ (by first | assumption | omega | (simp; done) | (simp; omega))))) ?_
          simp only [Act.put, pA, pB, pC]
          rw [Ht.out]
          refine wv (v_geq (n := 128) rfl rfl rfl) ?_
          simp only [Act.put, pA, pB, pC]
          rw [Hod1.out]
          refine wv (v_moveT (.inr rfl) rfl) ?_
          simp only [Act.put, pA, pB, pC]
          repeat ((fail_if_success with_reducible show wA ..); (fail_if_success with_reducible show wB ..); go_step)
          refine wv (v_indexA0 (j := 31) rfl rfl rfl Try.underlying22 (by kernel_rfl) (by first | assumption | omega)) ?_
          simp only [Act.put, pA, pB, pC]
          refine wv (v_cell rfl rfl Try.underlying5 rfl (Env.cellv (i := 1) hE2 rfl (ints_get? _ _ _ (by first | assumption | omega | (simp; done) | (simp; omega))))) ?_
          simp only [Act.put, pA, pB, pC]
          rw [Ht.out]
          refine wv (v_rem (n := 128) rfl rfl rfl (by omega)) ?_
          simp only [Act.put, pA, pB, pC]
          refine wv (v_indexA0 (j := 31) rfl rfl rfl Try.underlying22 (by kernel_rfl) (by first | assumption | omega)) ?_
          simp only [Act.put, pA, pB, pC]
          refine wl_step (st_putN (i := 1) hE2 rfl rfl rfl rfl rfl (by kernel_rfl) (by first | assumption | omega | (simp only [List.length_set, List.length_replicate]; first | assumption | omega)) ?_)
          intro w3 hE3
          clear hE2
          simp only [pB, pC] at hE3
          simp only [Act.put, pA, pB, pC]
          rw [Hbe.out] at hE3
          repeat ((fail_if_success with_reducible show wA ..); (fail_if_success with_reducible show wB ..); go_step)
          refine wv (v_load (i := 1) hE3 rfl rfl rfl Try.underlying22 rfl (szA (n := 32))) ?_
          simp only [Act.put, pA, pB, pC]
          refine wl_step (st_gives hE3 rfl (run_call rfl Try.call49) (HRw.out _) ?_)
          intro w4 hb4 hE4
          clear hE3
          simp only [Act.put, pA, pB, pC]
          refine wl_step (st_gives hE4 rfl (run_call rfl Try.call50) (HP.out _) ?_)
          intro w5 hb5 hE5
          clear hE4
          simp only [Act.put, pA, pB, pC]
          refine wl_step (st_gives hE5 rfl (run_call rfl Try.call48) (HL.out _) ?_)
          intro w6 hb6 hE6
          clear hE5
          simp only [Act.put, pA, pB, pC]
          refine wv (v_not rfl rfl) ?_
          simp only [Act.put, pA, pB, pC]
          repeat ((fail_if_success with_reducible show wA ..); (fail_if_success with_reducible show wB ..); (fail_if_success (with_reducible show Code.wp _ (Code.cond _ _ _) _ _ _)); go_step)
          refine wp_cond_false (by first | rfl | exact congrArg Value.bool (decide_eq_false (by omega))) ?_
          skip
          repeat ((fail_if_success with_reducible show wA ..); (fail_if_success with_reducible show wB ..); go_step)
          refine wv (v_load (i := 1) hE6 rfl rfl rfl Try.underlying22 rfl (szA (n := 32))) ?_
          simp only [Act.put, pA, pB, pC]
          refine wl_step (st_gives hE6 rfl (run_call rfl Try.call52) (HO.out _) ?_)
          intro w7 hb7 hE7
          clear hE6
          simp only [Act.put, pA, pB, pC]
          refine wl_step (st_alloc (zs := ints .u32 (List.replicate 8 0)) hE7 rfl rfl (fun w => by kernel_rfl) ?_)
          intro g2 w8 hb8 hE8
          clear hE7
          simp only [Act.put, pA, pB, pC]
          refine wl_step (st_store (i := 0) hE8 rfl rfl rfl rfl rfl (szA (n := 8)) (by first | (simp only [ints_size, digs_length, List.length_replicate, List.length_cons, List.length_nil]; done) | (simp only [ints_size, digs_length, List.length_replicate, List.length_cons, List.length_nil, List.length_set, List.length_append]; omega) | rfl) (by first | exact ints_one _ _ | decide | simp [*]) ?_)
          intro w9 hE9
          clear hE8
          simp only [pB, pC] at hE9
          simp only [Act.put, pA, pB, pC]
          repeat ((fail_if_success with_reducible show wA ..); (fail_if_success with_reducible show wB ..); go_step)
          refine wl_step (st_gives hE9 rfl (run_call rfl Try.call53) (H1.out _) ?_)
          intro w10 hb10 hE10
          clear hE9
          simp only [Act.put, pA, pB, pC]
          refine wl_step (st_alloc (zs := ints .u32 (List.replicate 8 0)) hE10 rfl rfl (fun w => by kernel_rfl) ?_)
          intro g3 w11 hb11 hE11
          clear hE10
          simp only [Act.put, pA, pB, pC]
          refine wl_step (st_store (i := 0) hE11 rfl rfl rfl rfl rfl (szA (n := 8)) (by first | (simp only [ints_size, digs_length, List.length_replicate, List.length_cons, List.length_nil]; done) | (simp only [ints_size, digs_length, List.length_replicate, List.length_cons, List.length_nil, List.length_set, List.length_append]; omega) | rfl) (by first | exact ints_one _ _ | decide | simp [*]) ?_)
          intro w12 hE12
          clear hE11
          simp only [pB, pC] at hE12
          simp only [Act.put, pA, pB, pC]
          repeat ((fail_if_success with_reducible show wA ..); (fail_if_success with_reducible show wB ..); go_step)
          refine wv (v_load (i := 1) hE12 rfl rfl rfl Try.underlying43 rfl (szA (n := 8))) ?_
          simp only [Act.put, pA, pB, pC]
          refine wv (v_load (i := 1) hE12 rfl rfl rfl Try.underlying43 rfl (szA (n := 8))) ?_
          simp only [Act.put, pA, pB, pC]
          refine wl_step (st_gives hE12 rfl (run_call rfl Try.call54) (HM.out _) ?_)
          intro w13 hb13 hE13
          clear hE12
          simp only [Act.put, pA, pB, pC]
          refine wl_step (st_alloc (zs := ints .u32 (List.replicate 8 0)) hE13 rfl rfl (fun w => by kernel_rfl) ?_)
          intro g4 w14 hb14 hE14
          clear hE13
          simp only [Act.put, pA, pB, pC]
          refine wl_step (st_store (i := 0) hE14 rfl rfl rfl rfl rfl (szA (n := 8)) (by first | (simp only [ints_size, digs_length, List.length_replicate, List.length_cons, List.length_nil]; done) | (simp only [ints_size, digs_length, List.length_replicate, List.length_cons, List.length_nil, List.length_set, List.length_append]; omega) | rfl) (by first | exact ints_one _ _ | decide | simp [*]) ?_)
          intro w15 hE15
          clear hE14
          simp only [pB, pC] at hE15
          simp only [Act.put, pA, pB, pC]
          repeat ((fail_if_success with_reducible show wA ..); (fail_if_success with_reducible show wB ..); go_step)
          refine wp_region_env 13 (by kernel_rfl) (by kernel_rfl) (fun _ _ d _ _ h => by cases d <;> exact h) hE15 ?_
          refine hv (fun _ hW => (v_load (i := 0) hW rfl rfl rfl Try.underlying43 rfl (szA (n := 8)))) ?_
          simp only [Act.put, pA, pB, pC]
          refine hv (fun _ hW => (v_load (i := 1) hW rfl rfl rfl Try.underlying43 rfl (szA (n := 8)))) ?_
          simp only [Act.put, pA, pB, pC]
          refine headRun_call (fun w1 => run_call rfl Try.call56) (fun w1 hW => HS.out _) ?_
          simp only [Act.put, pA, pB, pC]
          refine headRun_call (fun w1 => run_call rfl Try.call21) (fun w1 hW => HDD.out _) ?_
          simp only [Act.put, pA, pB, pC]
          refine hv (fun _ hW => (v_load (i := 0) hW rfl rfl rfl Try.underlying43 rfl (szA (n := 8)))) ?_
          simp only [Act.put, pA, pB, pC]
          refine headRun_call (fun w1 => run_call rfl Try.call54) (fun w1 hW => HD.out _) ?_
          simp only [Act.put, pA, pB, pC]
          refine hv (fun _ hW => (v_load (i := 1) hW rfl rfl rfl Try.underlying43 rfl (szA (n := 8)))) ?_
          simp only [Act.put, pA, pB, pC]
          refine headRun_call (fun w1 => run_call rfl Try.call57) (fun w1 hW => HA.out _) ?_
          simp only [Act.put, pA, pB, pC]
          refine headRun_call (fun w1 => run_call rfl Try.call55) (fun w1 hW => HR.out _) ?_
          simp only [Act.put, pA, pB, pC]
          refine hv (fun _ hW => (v_moveT (.inl rfl) rfl)) ?_
          simp only [Act.put, pA, pB, pC]
          refine hv (fun _ hW => (v_extract rfl rfl rfl)) ?_
          simp only [Act.put, pA, pB, pC]
          refine hv (fun _ hW => (v_extract rfl rfl rfl)) ?_
          simp only [Act.put, pA, pB, pC]
          refine headRun_alloc (zs := ints .u32 (List.replicate 8 0)) rfl rfl (fun w => by kernel_rfl) ?_
          simp only [Act.put, pA, pB, pC]
          refine headRun_nil (endK1 ?_)
          intro g5 w16 hE16
          clear hE15
          simp only [List.drop_succ_cons, List.drop_zero, Act.put, pA, pB, pC]
          refine wl_step (st_store (i := 0) hE16 rfl rfl rfl rfl rfl (szA (n := 8)) (by first | (simp only [ints_size, digs_length, List.length_replicate, List.length_cons, List.length_nil]; done) | (simp only [ints_size, digs_length, List.length_replicate, List.length_cons, List.length_nil, List.length_set, List.length_append]; omega) | rfl) (by first | exact ints_one _ _ | decide | simp [*]) ?_)
          intro w17 hE17
          clear hE16
          simp only [pB, pC] at hE17
          simp only [Act.put, pA, pB, pC]
          refine wv (v_moveT (.inr rfl) rfl) ?_
          simp only [Act.put, pA, pB, pC]
          repeat ((fail_if_success with_reducible show wA ..); (fail_if_success with_reducible show wB ..); go_step)
          refine wv (v_moveT (.inl rfl) rfl) ?_
          simp only [Act.put, pA, pB, pC]
          refine wv (v_not rfl rfl) ?_
          simp only [Act.put, pA, pB, pC]
          refine wv (v_moveT (.inl rfl) rfl) ?_
          simp only [Act.put, pA, pB, pC]
          refine wv (v_moveT (.inl rfl) rfl) ?_
          simp only [Act.put, pA, pB, pC]
          refine wv (v_moveT (.inl rfl) rfl) ?_
          simp only [Act.put, pA, pB, pC]
          refine wv (v_load (i := 0) hE17 rfl rfl rfl Try.underlying43 rfl (szA (n := 8))) ?_
          simp only [Act.put, pA, pB, pC]
          refine wv (v_built (k := .u32) (l := digs 4294967296 8 0) rfl (fun w => by kernel_rfl)) ?_
          simp only [Act.put, pA, pB, pC]
          refine wv (v_eqNum rfl rfl rfl hl8 h08) ?_
          simp only [Act.put, pA, pB, pC]
          rw [Hr0.out]
          refine wv (v_and rfl rfl (fun _ => rfl)) ?_
          simp only [Act.put, pA, pB, pC]
          refine wv (v_or rfl rfl (fun _ => rfl)) ?_
          simp only [Act.put, pA, pB, pC]
          repeat ((fail_if_success with_reducible show wA ..); (fail_if_success with_reducible show wB ..); (fail_if_success (with_reducible show Code.wp _ (Code.cond _ _ _) _ _ _)); go_step)
          refine wp_cond_true (by first | rfl | exact congrArg Value.bool (decide_eq_true (by omega))) ?_
          skip
          repeat ((fail_if_success with_reducible show wA ..); (fail_if_success with_reducible show wB ..); go_step)
          refine wl_step (st_gives hE17 rfl (run_call rfl Try.call51) (HZ.out _) ?_)
          intro w18 hb18 hE18
          clear hE17
          simp only [Act.put, pA, pB, pC]
          refine wl_step (st_store (i := 4) hE18 rfl rfl rfl rfl rfl (szA (n := 24)) (by first | (simp only [ints_size, digs_length, List.length_replicate, List.length_cons, List.length_nil]; done) | (simp only [ints_size, digs_length, List.length_replicate, List.length_cons, List.length_nil, List.length_set, List.length_append]; omega) | rfl) (by first | exact ints_one _ _ | decide | simp [*]) ?_)
          intro w19 hE19
          clear hE18
          simp only [pB, pC] at hE19
          simp only [Act.put, pA, pB, pC]
          refine wv (v_moveC (.inr rfl)) ?_
          simp only [Act.put, pA, pB, pC]
          repeat ((fail_if_success with_reducible show wA ..); (fail_if_success with_reducible show wB ..); go_step)
          refine bodyPost_ret (results_ct rfl _ _ _ _ _ (0, 0) _ rfl (hE19.get (i := 4) rfl) Try.underlying45 rfl (szA (n := 24)) rfl) rfl ⟨rfl, hE19.below⟩
        · refine ⟨fun P hP => ?_, fun h => absurd ⟨hY, rfl, fun h' => hr0 h'.2⟩ h⟩
          obtain ⟨_, hPy, hPx⟩ := Hyes.out P hP
          have hr3 := HR3.out P hPy hPx
          rw [HxO'.out ho1] at hr3
          refine ⟨_, hr3, fun w => ?_⟩
          have Hr0 := Lib.hid (decide_eq_false hr0)
          have h8 := rows8 NX Y 1
          have lL := rpL_len NX Y 1
          have hL : [digs 4294967296 8 NX, digs 4294967296 8 Y, digs 4294967296 8 1].flatten = rpL NX Y 1 := rfl
          show Gives _ _ w (.tuple #[.agg (ints .u32 (rpL NX Y 1)), .bool true])
          obtain ⟨L, hLe⟩ : ∃ L, rpL NX Y 1 = L := ⟨_, rfl⟩
          rw [hLe] at lL hL ⊢
          have H8 := Lib.hid h8
          have HLL := Lib.hid hL
          clear Hyes HR3 hY Hod hr0 ho1 hPy hPx hr3 h8 hL hLe
          have hE0 := Env.nil w
          go_enter Try.func20, Try.ntmps20
          repeat ((fail_if_success with_reducible show wA ..); (fail_if_success with_reducible show wB ..); go_step)
          refine wl_step (st_boxA hE0 rfl rfl rfl ?_)
          intro g0 w1 hb1 hE1
          clear hE0
          simp only [Act.put, pA, pB, pC]
          refine wl_step (st_alloc (zs := ints .u32 (List.replicate 24 0)) hE1 rfl rfl (fun w => by kernel_rfl) ?_)
          intro g1 w2 hb2 hE2
          clear hE1
          simp only [Act.put, pA, pB, pC]
          refine wv (v_moveC (.inr rfl)) ?_
          simp only [Act.put, pA, pB, pC]
          repeat ((fail_if_success with_reducible show wA ..); (fail_if_success with_reducible show wB ..); go_step)
          refine wv (v_indexA0 (j := 31) rfl rfl rfl Try.underlying22 (by kernel_rfl) (by first | assumption | omega)) ?_
          simp only [Act.put, pA, pB, pC]
          refine wv (v_cell rfl rfl Try.underlying5 rfl (Env.cellv (i := 1) hE2 rfl (ints_get? _ _ _ (by first | assumption | omega | (simp; done) | (simp; omega))))) ?_
          simp only [Act.put, pA, pB, pC]
          rw [Ht.out]
          refine wv (v_geq (n := 128) rfl rfl rfl) ?_
          simp only [Act.put, pA, pB, pC]
          rw [Hod1.out]
          refine wv (v_moveT (.inr rfl) rfl) ?_
          simp only [Act.put, pA, pB, pC]
          repeat ((fail_if_success with_reducible show wA ..); (fail_if_success with_reducible show wB ..); go_step)
          refine wv (v_indexA0 (j := 31) rfl rfl rfl Try.underlying22 (by kernel_rfl) (by first | assumption | omega)) ?_
          simp only [Act.put, pA, pB, pC]
          refine wv (v_cell rfl rfl Try.underlying5 rfl (Env.cellv (i := 1) hE2 rfl (ints_get? _ _ _ (by first | assumption | omega | (simp; done) | (simp; omega))))) ?_
          simp only [Act.put, pA, pB, pC]
          rw [Ht.out]
          refine wv (v_rem (n := 128) rfl rfl rfl (by omega)) ?_
          simp only [Act.put, pA, pB, pC]
          refine wv (v_indexA0 (j := 31) rfl rfl rfl Try.underlying22 (by kernel_rfl) (by first | assumption | omega)) ?_
          simp only [Act.put, pA, pB, pC]
          refine wl_step (st_putN (i := 1) hE2 rfl rfl rfl rfl rfl (by kernel_rfl) (by first | assumption | omega | (simp only [List.length_set, List.length_replicate]; first | assumption | omega)) ?_)
          intro w3 hE3
          clear hE2
          simp only [pB, pC] at hE3
          simp only [Act.put, pA, pB, pC]
          rw [Hbe.out] at hE3
          repeat ((fail_if_success with_reducible show wA ..); (fail_if_success with_reducible show wB ..); go_step)
          refine wv (v_load (i := 1) hE3 rfl rfl rfl Try.underlying22 rfl (szA (n := 32))) ?_
          simp only [Act.put, pA, pB, pC]
          refine wl_step (st_gives hE3 rfl (run_call rfl Try.call49) (HRw.out _) ?_)
          intro w4 hb4 hE4
          clear hE3
          simp only [Act.put, pA, pB, pC]
          refine wl_step (st_gives hE4 rfl (run_call rfl Try.call50) (HP.out _) ?_)
          intro w5 hb5 hE5
          clear hE4
          simp only [Act.put, pA, pB, pC]
          refine wl_step (st_gives hE5 rfl (run_call rfl Try.call48) (HL.out _) ?_)
          intro w6 hb6 hE6
          clear hE5
          simp only [Act.put, pA, pB, pC]
          refine wv (v_not rfl rfl) ?_
          simp only [Act.put, pA, pB, pC]
          repeat ((fail_if_success with_reducible show wA ..); (fail_if_success with_reducible show wB ..); (fail_if_success (with_reducible show Code.wp _ (Code.cond _ _ _) _ _ _)); go_step)
          refine wp_cond_false (by first | rfl | exact congrArg Value.bool (decide_eq_false (by omega))) ?_
          skip
          repeat ((fail_if_success with_reducible show wA ..); (fail_if_success with_reducible show wB ..); go_step)
          refine wv (v_load (i := 1) hE6 rfl rfl rfl Try.underlying22 rfl (szA (n := 32))) ?_
          simp only [Act.put, pA, pB, pC]
          refine wl_step (st_gives hE6 rfl (run_call rfl Try.call52) (HO.out _) ?_)
          intro w7 hb7 hE7
          clear hE6
          simp only [Act.put, pA, pB, pC]
          refine wl_step (st_alloc (zs := ints .u32 (List.replicate 8 0)) hE7 rfl rfl (fun w => by kernel_rfl) ?_)
          intro g2 w8 hb8 hE8
          clear hE7
          simp only [Act.put, pA, pB, pC]
          refine wl_step (st_store (i := 0) hE8 rfl rfl rfl rfl rfl (szA (n := 8)) (by first | (simp only [ints_size, digs_length, List.length_replicate, List.length_cons, List.length_nil]; done) | (simp only [ints_size, digs_length, List.length_replicate, List.length_cons, List.length_nil, List.length_set, List.length_append]; omega) | rfl) (by first | exact ints_one _ _ | decide | simp [*]) ?_)
          intro w9 hE9
          clear hE8
          simp only [pB, pC] at hE9
          simp only [Act.put, pA, pB, pC]
          repeat ((fail_if_success with_reducible show wA ..); (fail_if_success with_reducible show wB ..); go_step)
          refine wl_step (st_gives hE9 rfl (run_call rfl Try.call53) (H1.out _) ?_)
          intro w10 hb10 hE10
          clear hE9
          simp only [Act.put, pA, pB, pC]
          refine wl_step (st_alloc (zs := ints .u32 (List.replicate 8 0)) hE10 rfl rfl (fun w => by kernel_rfl) ?_)
          intro g3 w11 hb11 hE11
          clear hE10
          simp only [Act.put, pA, pB, pC]
          refine wl_step (st_store (i := 0) hE11 rfl rfl rfl rfl rfl (szA (n := 8)) (by first | (simp only [ints_size, digs_length, List.length_replicate, List.length_cons, List.length_nil]; done) | (simp only [ints_size, digs_length, List.length_replicate, List.length_cons, List.length_nil, List.length_set, List.length_append]; omega) | rfl) (by first | exact ints_one _ _ | decide | simp [*]) ?_)
          intro w12 hE12
          clear hE11
          simp only [pB, pC] at hE12
          simp only [Act.put, pA, pB, pC]
          repeat ((fail_if_success with_reducible show wA ..); (fail_if_success with_reducible show wB ..); go_step)
          refine wv (v_load (i := 1) hE12 rfl rfl rfl Try.underlying43 rfl (szA (n := 8))) ?_
          simp only [Act.put, pA, pB, pC]
          refine wv (v_load (i := 1) hE12 rfl rfl rfl Try.underlying43 rfl (szA (n := 8))) ?_
          simp only [Act.put, pA, pB, pC]
          refine wl_step (st_gives hE12 rfl (run_call rfl Try.call54) (HM.out _) ?_)
          intro w13 hb13 hE13
          clear hE12
          simp only [Act.put, pA, pB, pC]
          refine wl_step (st_alloc (zs := ints .u32 (List.replicate 8 0)) hE13 rfl rfl (fun w => by kernel_rfl) ?_)
          intro g4 w14 hb14 hE14
          clear hE13
          simp only [Act.put, pA, pB, pC]
          refine wl_step (st_store (i := 0) hE14 rfl rfl rfl rfl rfl (szA (n := 8)) (by first | (simp only [ints_size, digs_length, List.length_replicate, List.length_cons, List.length_nil]; done) | (simp only [ints_size, digs_length, List.length_replicate, List.length_cons, List.length_nil, List.length_set, List.length_append]; omega) | rfl) (by first | exact ints_one _ _ | decide | simp [*]) ?_)
          intro w15 hE15
          clear hE14
          simp only [pB, pC] at hE15
          simp only [Act.put, pA, pB, pC]
          repeat ((fail_if_success with_reducible show wA ..); (fail_if_success with_reducible show wB ..); go_step)
          refine wp_region_env 13 (by kernel_rfl) (by kernel_rfl) (fun _ _ d _ _ h => by cases d <;> exact h) hE15 ?_
          refine hv (fun _ hW => (v_load (i := 0) hW rfl rfl rfl Try.underlying43 rfl (szA (n := 8)))) ?_
          simp only [Act.put, pA, pB, pC]
          refine hv (fun _ hW => (v_load (i := 1) hW rfl rfl rfl Try.underlying43 rfl (szA (n := 8)))) ?_
          simp only [Act.put, pA, pB, pC]
          refine headRun_call (fun w1 => run_call rfl Try.call56) (fun w1 hW => HS.out _) ?_
          simp only [Act.put, pA, pB, pC]
          refine headRun_call (fun w1 => run_call rfl Try.call21) (fun w1 hW => HDD.out _) ?_
          simp only [Act.put, pA, pB, pC]
          refine hv (fun _ hW => (v_load (i := 0) hW rfl rfl rfl Try.underlying43 rfl (szA (n := 8)))) ?_
          simp only [Act.put, pA, pB, pC]
          refine headRun_call (fun w1 => run_call rfl Try.call54) (fun w1 hW => HD.out _) ?_
          simp only [Act.put, pA, pB, pC]
          refine hv (fun _ hW => (v_load (i := 1) hW rfl rfl rfl Try.underlying43 rfl (szA (n := 8)))) ?_
          simp only [Act.put, pA, pB, pC]
          refine headRun_call (fun w1 => run_call rfl Try.call57) (fun w1 hW => HA.out _) ?_
          simp only [Act.put, pA, pB, pC]
          refine headRun_call (fun w1 => run_call rfl Try.call55) (fun w1 hW => HR.out _) ?_
          simp only [Act.put, pA, pB, pC]
          refine hv (fun _ hW => (v_moveT (.inl rfl) rfl)) ?_
          simp only [Act.put, pA, pB, pC]
          refine hv (fun _ hW => (v_extract rfl rfl rfl)) ?_
          simp only [Act.put, pA, pB, pC]
          refine hv (fun _ hW => (v_extract rfl rfl rfl)) ?_
          simp only [Act.put, pA, pB, pC]
          refine headRun_alloc (zs := ints .u32 (List.replicate 8 0)) rfl rfl (fun w => by kernel_rfl) ?_
          simp only [Act.put, pA, pB, pC]
          refine headRun_nil (endK1 ?_)
          intro g5 w16 hE16
          clear hE15
          simp only [List.drop_succ_cons, List.drop_zero, Act.put, pA, pB, pC]
          refine wl_step (st_store (i := 0) hE16 rfl rfl rfl rfl rfl (szA (n := 8)) (by first | (simp only [ints_size, digs_length, List.length_replicate, List.length_cons, List.length_nil]; done) | (simp only [ints_size, digs_length, List.length_replicate, List.length_cons, List.length_nil, List.length_set, List.length_append]; omega) | rfl) (by first | exact ints_one _ _ | decide | simp [*]) ?_)
          intro w17 hE17
          clear hE16
          simp only [pB, pC] at hE17
          simp only [Act.put, pA, pB, pC]
          refine wv (v_moveT (.inr rfl) rfl) ?_
          simp only [Act.put, pA, pB, pC]
          repeat ((fail_if_success with_reducible show wA ..); (fail_if_success with_reducible show wB ..); go_step)
          refine wv (v_moveT (.inl rfl) rfl) ?_
          simp only [Act.put, pA, pB, pC]
          refine wv (v_not rfl rfl) ?_
          simp only [Act.put, pA, pB, pC]
          refine wv (v_moveT (.inl rfl) rfl) ?_
          simp only [Act.put, pA, pB, pC]
          refine wv (v_moveT (.inl rfl) rfl) ?_
          simp only [Act.put, pA, pB, pC]
          refine wv (v_moveT (.inl rfl) rfl) ?_
          simp only [Act.put, pA, pB, pC]
          refine wv (v_load (i := 0) hE17 rfl rfl rfl Try.underlying43 rfl (szA (n := 8))) ?_
          simp only [Act.put, pA, pB, pC]
          refine wv (v_built (k := .u32) (l := digs 4294967296 8 0) rfl (fun w => by kernel_rfl)) ?_
          simp only [Act.put, pA, pB, pC]
          refine wv (v_eqNum rfl rfl rfl hl8 h08) ?_
          simp only [Act.put, pA, pB, pC]
          rw [Hr0.out]
          refine wv (v_and rfl rfl (fun _ => rfl)) ?_
          simp only [Act.put, pA, pB, pC]
          refine wv (v_or rfl rfl (fun _ => rfl)) ?_
          simp only [Act.put, pA, pB, pC]
          repeat ((fail_if_success with_reducible show wA ..); (fail_if_success with_reducible show wB ..); (fail_if_success (with_reducible show Code.wp _ (Code.cond _ _ _) _ _ _)); go_step)
          refine wp_cond_false (by first | rfl | exact congrArg Value.bool (decide_eq_false (by omega))) ?_
          skip
          repeat ((fail_if_success with_reducible show wA ..); (fail_if_success with_reducible show wB ..); go_step)
          refine wv (v_moveT (.inl rfl) rfl) ?_
          simp only [Act.put, pA, pB, pC]
          repeat ((fail_if_success with_reducible show wA ..); (fail_if_success with_reducible show wB ..); (fail_if_success (with_reducible show Code.wp _ (Code.cond _ _ _) _ _ _)); go_step)
          refine wp_cond_true (by first | rfl | exact congrArg Value.bool (decide_eq_true (by omega))) ?_
          skip
          repeat ((fail_if_success with_reducible show wA ..); (fail_if_success with_reducible show wB ..); go_step)
          refine wv (v_built (k := .u32) (l := digs 4294967296 8 0) rfl (fun w => by kernel_rfl)) ?_
          simp only [Act.put, pA, pB, pC]
          refine wv (v_load (i := 0) hE17 rfl rfl rfl Try.underlying43 rfl (szA (n := 8))) ?_
          simp only [Act.put, pA, pB, pC]
          refine wl_step (st_gives hE17 rfl (run_call rfl Try.call56) (HN.out _) ?_)
          intro w18 hb18 hE18
          clear hE17
          simp only [Act.put, pA, pB, pC]
          refine wl_step (st_store (i := 0) hE18 rfl rfl rfl rfl rfl (szA (n := 8)) (by first | (simp only [ints_size, digs_length, List.length_replicate, List.length_cons, List.length_nil]; done) | (simp only [ints_size, digs_length, List.length_replicate, List.length_cons, List.length_nil, List.length_set, List.length_append]; omega) | rfl) (by first | exact ints_one _ _ | decide | simp [*]) ?_)
          intro w19 hE19
          clear hE18
          simp only [pB, pC] at hE19
          simp only [Act.put, pA, pB, pC]
          repeat ((fail_if_success with_reducible show wA ..); (fail_if_success with_reducible show wB ..); go_step)
          refine wv (v_load (i := 0) hE19 rfl rfl rfl Try.underlying43 rfl (szA (n := 8))) ?_
          simp only [Act.put, pA, pB, pC]
          refine wv (v_load (i := 3) hE19 rfl rfl rfl Try.underlying43 rfl (szA (n := 8))) ?_
          simp only [Act.put, pA, pB, pC]
          refine wv (v_load (i := 2) hE19 rfl rfl rfl Try.underlying43 rfl (szA (n := 8))) ?_
          simp only [Act.put, pA, pB, pC]
          refine wv (v_rpoint [digs 4294967296 8 NX, digs 4294967296 8 Y, digs 4294967296 8 1] HLL.out rfl (by simp only [List.map_cons, List.map_nil, List.zipIdx_cons, List.zipIdx_nil]; rfl) rfl H8.out) ?_
          simp only [Act.put, pA, pB, pC]
          refine wl_step (st_store (i := 4) hE19 rfl rfl rfl rfl rfl (szA (n := 24)) (by first | (simp only [ints_size, digs_length, List.length_replicate, List.length_cons, List.length_nil]; done) | (simp only [ints_size, digs_length, List.length_replicate, List.length_cons, List.length_nil, List.length_set, List.length_append]; omega) | rfl) (by first | exact ints_one _ _ | decide | simp [*]) ?_)
          intro w20 hE20
          clear hE19
          simp only [pB, pC] at hE20
          simp only [Act.put, pA, pB, pC]
          refine wv (v_moveC (.inr rfl)) ?_
          simp only [Act.put, pA, pB, pC]
          repeat ((fail_if_success with_reducible show wA ..); (fail_if_success with_reducible show wB ..); go_step)
          refine bodyPost_ret (results_ct rfl _ _ _ _ _ (0, 0) _ rfl (hE20.get (i := 4) rfl) Try.underlying45 rfl (szA (n := 24)) rfl) rfl ⟨rfl, hE20.below⟩
      · have hod1 := Hod.out
        rw [decide_eq_false ho1] at hod1
        have Hod1 := Lib.hid hod1
        clear hod1
        refine ⟨fun P hP => ?_, fun h => absurd ⟨hY, rfl, fun h' => ho1 h'.1⟩ h⟩
        obtain ⟨_, hPy, hPx⟩ := Hyes.out P hP
        have hr3 := HR3.out P hPy hPx
        rw [HxE'.out ho1] at hr3
        refine ⟨_, hr3, fun w => ?_⟩
        have h8 := rows8 x Y 1
        have lL := rpL_len x Y 1
        have hL : [digs 4294967296 8 x, digs 4294967296 8 Y, digs 4294967296 8 1].flatten = rpL x Y 1 := rfl
        show Gives _ _ w (.tuple #[.agg (ints .u32 (rpL x Y 1)), .bool true])
        obtain ⟨L, hLe⟩ : ∃ L, rpL x Y 1 = L := ⟨_, rfl⟩
        rw [hLe] at lL hL ⊢
        have H8 := Lib.hid h8
        have HLL := Lib.hid hL
        clear Hyes HR3 hY Hod ho1 hPy hPx hr3 h8 hL hLe
        have hE0 := Env.nil w
        go_enter Try.func20, Try.ntmps20
        repeat ((fail_if_success with_reducible show wA ..); (fail_if_success with_reducible show wB ..); go_step)
        refine wl_step (st_boxA hE0 rfl rfl rfl ?_)
        intro g0 w1 hb1 hE1
        clear hE0
        simp only [Act.put, pA, pB, pC]
        refine wl_step (st_alloc (zs := ints .u32 (List.replicate 24 0)) hE1 rfl rfl (fun w => by kernel_rfl) ?_)
        intro g1 w2 hb2 hE2
        clear hE1
        simp only [Act.put, pA, pB, pC]
        refine wv (v_moveC (.inr rfl)) ?_
        simp only [Act.put, pA, pB, pC]
        repeat ((fail_if_success with_reducible show wA ..); (fail_if_success with_reducible show wB ..); go_step)
        refine wv (v_indexA0 (j := 31) rfl rfl rfl Try.underlying22 (by kernel_rfl) (by first | assumption | omega)) ?_
        simp only [Act.put, pA, pB, pC]
        refine wv (v_cell rfl rfl Try.underlying5 rfl (Env.cellv (i := 1) hE2 rfl (ints_get? _ _ _ (by first | assumption | omega | (simp; done) | (simp; omega))))) ?_
        simp only [Act.put, pA, pB, pC]
        rw [Ht.out]
        refine wv (v_geq (n := 128) rfl rfl rfl) ?_
        simp only [Act.put, pA, pB, pC]
        rw [Hod1.out]
        refine wv (v_moveT (.inr rfl) rfl) ?_
        simp only [Act.put, pA, pB, pC]
        repeat ((fail_if_success with_reducible show wA ..); (fail_if_success with_reducible show wB ..); go_step)
        refine wv (v_indexA0 (j := 31) rfl rfl rfl Try.underlying22 (by kernel_rfl) (by first | assumption | omega)) ?_
        simp only [Act.put, pA, pB, pC]
        refine wv (v_cell rfl rfl Try.underlying5 rfl (Env.cellv (i := 1) hE2 rfl (ints_get? _ _ _ (by first | assumption | omega | (simp; done) | (simp; omega))))) ?_
        simp only [Act.put, pA, pB, pC]
        rw [Ht.out]
        refine wv (v_rem (n := 128) rfl rfl rfl (by omega)) ?_
        simp only [Act.put, pA, pB, pC]
        refine wv (v_indexA0 (j := 31) rfl rfl rfl Try.underlying22 (by kernel_rfl) (by first | assumption | omega)) ?_
        simp only [Act.put, pA, pB, pC]
        refine wl_step (st_putN (i := 1) hE2 rfl rfl rfl rfl rfl (by kernel_rfl) (by first | assumption | omega | (simp only [List.length_set, List.length_replicate]; first | assumption | omega)) ?_)
        intro w3 hE3
        clear hE2
        simp only [pB, pC] at hE3
        simp only [Act.put, pA, pB, pC]
        rw [Hbe.out] at hE3
        repeat ((fail_if_success with_reducible show wA ..); (fail_if_success with_reducible show wB ..); go_step)
        refine wv (v_load (i := 1) hE3 rfl rfl rfl Try.underlying22 rfl (szA (n := 32))) ?_
        simp only [Act.put, pA, pB, pC]
        refine wl_step (st_gives hE3 rfl (run_call rfl Try.call49) (HRw.out _) ?_)
        intro w4 hb4 hE4
        clear hE3
        simp only [Act.put, pA, pB, pC]
        refine wl_step (st_gives hE4 rfl (run_call rfl Try.call50) (HP.out _) ?_)
        intro w5 hb5 hE5
        clear hE4
        simp only [Act.put, pA, pB, pC]
        refine wl_step (st_gives hE5 rfl (run_call rfl Try.call48) (HL.out _) ?_)
        intro w6 hb6 hE6
        clear hE5
        simp only [Act.put, pA, pB, pC]
        refine wv (v_not rfl rfl) ?_
        simp only [Act.put, pA, pB, pC]
        repeat ((fail_if_success with_reducible show wA ..); (fail_if_success with_reducible show wB ..); (fail_if_success (with_reducible show Code.wp _ (Code.cond _ _ _) _ _ _)); go_step)
        refine wp_cond_false (by first | rfl | exact congrArg Value.bool (decide_eq_false (by omega))) ?_
        skip
        repeat ((fail_if_success with_reducible show wA ..); (fail_if_success with_reducible show wB ..); go_step)
        refine wv (v_load (i := 1) hE6 rfl rfl rfl Try.underlying22 rfl (szA (n := 32))) ?_
        simp only [Act.put, pA, pB, pC]
        refine wl_step (st_gives hE6 rfl (run_call rfl Try.call52) (HO.out _) ?_)
        intro w7 hb7 hE7
        clear hE6
        simp only [Act.put, pA, pB, pC]
        refine wl_step (st_alloc (zs := ints .u32 (List.replicate 8 0)) hE7 rfl rfl (fun w => by kernel_rfl) ?_)
        intro g2 w8 hb8 hE8
        clear hE7
        simp only [Act.put, pA, pB, pC]
        refine wl_step (st_store (i := 0) hE8 rfl rfl rfl rfl rfl (szA (n := 8)) (by first | (simp only [ints_size, digs_length, List.length_replicate, List.length_cons, List.length_nil]; done) | (simp only [ints_size, digs_length, List.length_replicate, List.length_cons, List.length_nil, List.length_set, List.length_append]; omega) | rfl) (by first | exact ints_one _ _ | decide | simp [*]) ?_)
        intro w9 hE9
        clear hE8
        simp only [pB, pC] at hE9
        simp only [Act.put, pA, pB, pC]
        repeat ((fail_if_success with_reducible show wA ..); (fail_if_success with_reducible show wB ..); go_step)
        refine wl_step (st_gives hE9 rfl (run_call rfl Try.call53) (H1.out _) ?_)
        intro w10 hb10 hE10
        clear hE9
        simp only [Act.put, pA, pB, pC]
        refine wl_step (st_alloc (zs := ints .u32 (List.replicate 8 0)) hE10 rfl rfl (fun w => by kernel_rfl) ?_)
        intro g3 w11 hb11 hE11
        clear hE10
        simp only [Act.put, pA, pB, pC]
        refine wl_step (st_store (i := 0) hE11 rfl rfl rfl rfl rfl (szA (n := 8)) (by first | (simp only [ints_size, digs_length, List.length_replicate, List.length_cons, List.length_nil]; done) | (simp only [ints_size, digs_length, List.length_replicate, List.length_cons, List.length_nil, List.length_set, List.length_append]; omega) | rfl) (by first | exact ints_one _ _ | decide | simp [*]) ?_)
        intro w12 hE12
        clear hE11
        simp only [pB, pC] at hE12
        simp only [Act.put, pA, pB, pC]
        repeat ((fail_if_success with_reducible show wA ..); (fail_if_success with_reducible show wB ..); go_step)
        refine wv (v_load (i := 1) hE12 rfl rfl rfl Try.underlying43 rfl (szA (n := 8))) ?_
        simp only [Act.put, pA, pB, pC]
        refine wv (v_load (i := 1) hE12 rfl rfl rfl Try.underlying43 rfl (szA (n := 8))) ?_
        simp only [Act.put, pA, pB, pC]
        refine wl_step (st_gives hE12 rfl (run_call rfl Try.call54) (HM.out _) ?_)
        intro w13 hb13 hE13
        clear hE12
        simp only [Act.put, pA, pB, pC]
        refine wl_step (st_alloc (zs := ints .u32 (List.replicate 8 0)) hE13 rfl rfl (fun w => by kernel_rfl) ?_)
        intro g4 w14 hb14 hE14
        clear hE13
        simp only [Act.put, pA, pB, pC]
        refine wl_step (st_store (i := 0) hE14 rfl rfl rfl rfl rfl (szA (n := 8)) (by first | (simp only [ints_size, digs_length, List.length_replicate, List.length_cons, List.length_nil]; done) | (simp only [ints_size, digs_length, List.length_replicate, List.length_cons, List.length_nil, List.length_set, List.length_append]; omega) | rfl) (by first | exact ints_one _ _ | decide | simp [*]) ?_)
        intro w15 hE15
        clear hE14
        simp only [pB, pC] at hE15
        simp only [Act.put, pA, pB, pC]
        repeat ((fail_if_success with_reducible show wA ..); (fail_if_success with_reducible show wB ..); go_step)
        refine wp_region_env 13 (by kernel_rfl) (by kernel_rfl) (fun _ _ d _ _ h => by cases d <;> exact h) hE15 ?_
        refine hv (fun _ hW => (v_load (i := 0) hW rfl rfl rfl Try.underlying43 rfl (szA (n := 8)))) ?_
        simp only [Act.put, pA, pB, pC]
        refine hv (fun _ hW => (v_load (i := 1) hW rfl rfl rfl Try.underlying43 rfl (szA (n := 8)))) ?_
        simp only [Act.put, pA, pB, pC]
        refine headRun_call (fun w1 => run_call rfl Try.call56) (fun w1 hW => HS.out _) ?_
        simp only [Act.put, pA, pB, pC]
        refine headRun_call (fun w1 => run_call rfl Try.call21) (fun w1 hW => HDD.out _) ?_
        simp only [Act.put, pA, pB, pC]
        refine hv (fun _ hW => (v_load (i := 0) hW rfl rfl rfl Try.underlying43 rfl (szA (n := 8)))) ?_
        simp only [Act.put, pA, pB, pC]
        refine headRun_call (fun w1 => run_call rfl Try.call54) (fun w1 hW => HD.out _) ?_
        simp only [Act.put, pA, pB, pC]
        refine hv (fun _ hW => (v_load (i := 1) hW rfl rfl rfl Try.underlying43 rfl (szA (n := 8)))) ?_
        simp only [Act.put, pA, pB, pC]
        refine headRun_call (fun w1 => run_call rfl Try.call57) (fun w1 hW => HA.out _) ?_
        simp only [Act.put, pA, pB, pC]
        refine headRun_call (fun w1 => run_call rfl Try.call55) (fun w1 hW => HR.out _) ?_
        simp only [Act.put, pA, pB, pC]
        refine hv (fun _ hW => (v_moveT (.inl rfl) rfl)) ?_
        simp only [Act.put, pA, pB, pC]
        refine hv (fun _ hW => (v_extract rfl rfl rfl)) ?_
        simp only [Act.put, pA, pB, pC]
        refine hv (fun _ hW => (v_extract rfl rfl rfl)) ?_
        simp only [Act.put, pA, pB, pC]
        refine headRun_alloc (zs := ints .u32 (List.replicate 8 0)) rfl rfl (fun w => by kernel_rfl) ?_
        simp only [Act.put, pA, pB, pC]
        refine headRun_nil (endK1 ?_)
        intro g5 w16 hE16
        clear hE15
        simp only [List.drop_succ_cons, List.drop_zero, Act.put, pA, pB, pC]
        refine wl_step (st_store (i := 0) hE16 rfl rfl rfl rfl rfl (szA (n := 8)) (by first | (simp only [ints_size, digs_length, List.length_replicate, List.length_cons, List.length_nil]; done) | (simp only [ints_size, digs_length, List.length_replicate, List.length_cons, List.length_nil, List.length_set, List.length_append]; omega) | rfl) (by first | exact ints_one _ _ | decide | simp [*]) ?_)
        intro w17 hE17
        clear hE16
        simp only [pB, pC] at hE17
        simp only [Act.put, pA, pB, pC]
        refine wv (v_moveT (.inr rfl) rfl) ?_
        simp only [Act.put, pA, pB, pC]
        repeat ((fail_if_success with_reducible show wA ..); (fail_if_success with_reducible show wB ..); go_step)
        refine wv (v_moveT (.inl rfl) rfl) ?_
        simp only [Act.put, pA, pB, pC]
        refine wv (v_not rfl rfl) ?_
        simp only [Act.put, pA, pB, pC]
        refine wv (v_moveT (.inl rfl) rfl) ?_
        simp only [Act.put, pA, pB, pC]
        refine wv (v_moveT (.inl rfl) rfl) ?_
        simp only [Act.put, pA, pB, pC]
        refine wv (v_moveT (.inl rfl) rfl) ?_
        simp only [Act.put, pA, pB, pC]
        refine wl_step (st_skip rfl ?_)
        simp only [Act.put, pA, pB, pC]
        refine wl_step (st_skip rfl ?_)
        simp only [Act.put, pA, pB, pC]
        refine wl_step (st_skip rfl ?_)
        simp only [Act.put, pA, pB, pC]
        refine wv (v_andF rfl rfl) ?_
        simp only [Act.put, pA, pB, pC]
        refine wv (v_or rfl rfl (fun _ => rfl)) ?_
        simp only [Act.put, pA, pB, pC]
        repeat ((fail_if_success with_reducible show wA ..); (fail_if_success with_reducible show wB ..); (fail_if_success (with_reducible show Code.wp _ (Code.cond _ _ _) _ _ _)); go_step)
        refine wp_cond_false (by first | rfl | exact congrArg Value.bool (decide_eq_false (by omega))) ?_
        skip
        repeat ((fail_if_success with_reducible show wA ..); (fail_if_success with_reducible show wB ..); go_step)
        refine wv (v_moveT (.inl rfl) rfl) ?_
        simp only [Act.put, pA, pB, pC]
        repeat ((fail_if_success with_reducible show wA ..); (fail_if_success with_reducible show wB ..); (fail_if_success (with_reducible show Code.wp _ (Code.cond _ _ _) _ _ _)); go_step)
        refine wp_cond_false (by first | rfl | exact congrArg Value.bool (decide_eq_false (by omega))) ?_
        skip
        repeat ((fail_if_success with_reducible show wA ..); (fail_if_success with_reducible show wB ..); go_step)
        refine wv (v_load (i := 0) hE17 rfl rfl rfl Try.underlying43 rfl (szA (n := 8))) ?_
        simp only [Act.put, pA, pB, pC]
        refine wv (v_load (i := 3) hE17 rfl rfl rfl Try.underlying43 rfl (szA (n := 8))) ?_
        simp only [Act.put, pA, pB, pC]
        refine wv (v_load (i := 2) hE17 rfl rfl rfl Try.underlying43 rfl (szA (n := 8))) ?_
        simp only [Act.put, pA, pB, pC]
        refine wv (v_rpoint [digs 4294967296 8 x, digs 4294967296 8 Y, digs 4294967296 8 1] HLL.out rfl (by simp only [List.map_cons, List.map_nil, List.zipIdx_cons, List.zipIdx_nil]; rfl) rfl H8.out) ?_
        simp only [Act.put, pA, pB, pC]
        refine wl_step (st_store (i := 4) hE17 rfl rfl rfl rfl rfl (szA (n := 24)) (by first | (simp only [ints_size, digs_length, List.length_replicate, List.length_cons, List.length_nil]; done) | (simp only [ints_size, digs_length, List.length_replicate, List.length_cons, List.length_nil, List.length_set, List.length_append]; omega) | rfl) (by first | exact ints_one _ _ | decide | simp [*]) ?_)
        intro w18 hE18
        clear hE17
        simp only [pB, pC] at hE18
        simp only [Act.put, pA, pB, pC]
        refine wv (v_moveC (.inr rfl)) ?_
        simp only [Act.put, pA, pB, pC]
        repeat ((fail_if_success with_reducible show wA ..); (fail_if_success with_reducible show wB ..); go_step)
        refine bodyPost_ret (results_ct rfl _ _ _ _ _ (0, 0) _ rfl (hE18.get (i := 4) rfl) Try.underlying45 rfl (szA (n := 24)) rfl) rfl ⟨rfl, hE18.below⟩
  · refine ⟨fun P hP => absurd (Hyes.out P hP).1.1 hY, fun _ w => ?_⟩
    rw [decide_eq_false hY] at hL
    have HL := Lib.hid hL
    clear hL hOf Hyes hY
    have hE0 := Env.nil w
    go_enter Try.func20, Try.ntmps20
    repeat ((fail_if_success with_reducible show wA ..); (fail_if_success with_reducible show wB ..); go_step)
    refine wl_step (st_boxA hE0 rfl rfl rfl ?_)
    intro g0 w1 hb1 hE1
    clear hE0
    simp only [Act.put, pA, pB, pC]
    refine wl_step (st_alloc (zs := ints .u32 (List.replicate 24 0)) hE1 rfl rfl (fun w => by kernel_rfl) ?_)
    intro g1 w2 hb2 hE2
    clear hE1
    simp only [Act.put, pA, pB, pC]
    refine wv (v_moveC (.inr rfl)) ?_
    simp only [Act.put, pA, pB, pC]
    repeat ((fail_if_success with_reducible show wA ..); (fail_if_success with_reducible show wB ..); go_step)
    refine wv (v_indexA0 (j := 31) rfl rfl rfl Try.underlying22 (by kernel_rfl) (by first | assumption | omega)) ?_
    simp only [Act.put, pA, pB, pC]
    refine wv (v_cell rfl rfl Try.underlying5 rfl (Env.cellv (i := 1) hE2 rfl (ints_get? _ _ _ (by first | assumption | omega | (simp; done) | (simp; omega))))) ?_
    simp only [Act.put, pA, pB, pC]
    rw [Ht.out]
    refine wv (v_geq (n := 128) rfl rfl rfl) ?_
    simp only [Act.put, pA, pB, pC]
    rw [Hod.out]
    refine wv (v_moveT (.inr rfl) rfl) ?_
    simp only [Act.put, pA, pB, pC]
    repeat ((fail_if_success with_reducible show wA ..); (fail_if_success with_reducible show wB ..); go_step)
    refine wv (v_indexA0 (j := 31) rfl rfl rfl Try.underlying22 (by kernel_rfl) (by first | assumption | omega)) ?_
    simp only [Act.put, pA, pB, pC]
    refine wv (v_cell rfl rfl Try.underlying5 rfl (Env.cellv (i := 1) hE2 rfl (ints_get? _ _ _ (by first | assumption | omega | (simp; done) | (simp; omega))))) ?_
    simp only [Act.put, pA, pB, pC]
    rw [Ht.out]
    refine wv (v_rem (n := 128) rfl rfl rfl (by omega)) ?_
    simp only [Act.put, pA, pB, pC]
    refine wv (v_indexA0 (j := 31) rfl rfl rfl Try.underlying22 (by kernel_rfl) (by first | assumption | omega)) ?_
    simp only [Act.put, pA, pB, pC]
    refine wl_step (st_putN (i := 1) hE2 rfl rfl rfl rfl rfl (by kernel_rfl) (by first | assumption | omega | (simp only [List.length_set, List.length_replicate]; first | assumption | omega)) ?_)
    intro w3 hE3
    clear hE2
    simp only [pB, pC] at hE3
    simp only [Act.put, pA, pB, pC]
    rw [Hbe.out] at hE3
    repeat ((fail_if_success with_reducible show wA ..); (fail_if_success with_reducible show wB ..); go_step)
    refine wv (v_load (i := 1) hE3 rfl rfl rfl Try.underlying22 rfl (szA (n := 32))) ?_
    simp only [Act.put, pA, pB, pC]
    refine wl_step (st_gives hE3 rfl (run_call rfl Try.call49) (HRw.out _) ?_)
    intro w4 hb4 hE4
    clear hE3
    simp only [Act.put, pA, pB, pC]
    refine wl_step (st_gives hE4 rfl (run_call rfl Try.call50) (HP.out _) ?_)
    intro w5 hb5 hE5
    clear hE4
    simp only [Act.put, pA, pB, pC]
    refine wl_step (st_gives hE5 rfl (run_call rfl Try.call48) (HL.out _) ?_)
    intro w6 hb6 hE6
    clear hE5
    simp only [Act.put, pA, pB, pC]
    refine wv (v_not rfl rfl) ?_
    simp only [Act.put, pA, pB, pC]
    repeat ((fail_if_success with_reducible show wA ..); (fail_if_success with_reducible show wB ..); (fail_if_success (with_reducible show Code.wp _ (Code.cond _ _ _) _ _ _)); go_step)
    refine wp_cond_true (by first | rfl | exact congrArg Value.bool (decide_eq_true (by omega))) ?_
    skip
    repeat ((fail_if_success with_reducible show wA ..); (fail_if_success with_reducible show wB ..); go_step)
    refine wl_step (st_gives hE6 rfl (run_call rfl Try.call51) (HZ.out _) ?_)
    intro w7 hb7 hE7
    clear hE6
    simp only [Act.put, pA, pB, pC]
    refine wl_step (st_store (i := 0) hE7 rfl rfl rfl rfl rfl (szA (n := 24)) (by first | (simp only [ints_size, digs_length, List.length_replicate, List.length_cons, List.length_nil]; done) | (simp only [ints_size, digs_length, List.length_replicate, List.length_cons, List.length_nil, List.length_set, List.length_append]; omega) | rfl) (by first | exact ints_one _ _ | decide | simp [*]) ?_)
    intro w8 hE8
    clear hE7
    simp only [pB, pC] at hE8
    simp only [Act.put, pA, pB, pC]
    refine wv (v_moveC (.inr rfl)) ?_
    simp only [Act.put, pA, pB, pC]
    repeat ((fail_if_success with_reducible show wA ..); (fail_if_success with_reducible show wB ..); go_step)
    refine bodyPost_ret (results_ct rfl _ _ _ _ _ (0, 0) _ rfl (hE8.get (i := 0) rfl) Try.underlying45 rfl (szA (n := 24)) rfl) rfl ⟨rfl, hE8.below⟩
theorem rPDecode_yes {b : List Nat} {P : Pt} (hb : b.length = 32) (db : Digs 256 b) (hP : encN P = val 256 b) : ∃ r, R3 r P ∧ ∀ w, Gives 20 #[.agg (ints .u8 b)] w (.tuple #[rv r, .bool true]) := (rPDecode_walk hb db _ rfl).1 P hP
theorem rPDecode_no {b : List Nat} (hb : b.length = 32) (db : Digs 256 b) (h : ¬ isPt (val 256 b)) (w : World) : Gives 20 #[.agg (ints .u8 b)] w (.tuple #[rv (0, 1, 1), .bool false]) := (rPDecode_walk hb db _ rfl).2 h w

theorem base_run : 4 * (5 ^ (pN - 2) % pN) % pN = bY := by
  rw [← powM_eq pN 255 5 (pN - 2) (of_decide_eq_true (by kernel_rfl))]
  kernel_rfl
set_option maxHeartbeats 4000000 in
theorem rPBase_any : ∃ r, R3 r baseP ∧ ∀ w, Gives 27 #[] w (rv r) := by
  have hbv : val 256 (digs 256 32 bY) = bY := by
    rw [val_digs]
    exact Nat.mod_eq_of_lt (of_decide_eq_true (by kernel_rfl))
  obtain ⟨r, hr, Gr⟩ := rPDecode_yes (b := digs 256 32 bY) (P := baseP) (digs_length _ _ _) (digs_Digs (by decide) _ _) (by rw [hbv, encN_base])
  refine ⟨r, hr, fun w => ?_⟩
  have c1 := fun w => rSmall_any (n := 4) (by decide) w
  have c2 := fun w => rSmall_any (n := 5) (by decide) w
  have c3 := fun w => rInvert_any (x := 5) (by decide) w
  have c4 := fun w => rMul_any (m := 4) (n := 5 ^ (pN - 2) % pN) (by decide) (mod_big _) w
  rw [base_run] at c4
  have c5 := fun w => rBytes_any (lt_big' bY_lt) w
  obtain ⟨A, hA⟩ : ∃ A, 5 ^ (pN - 2) % pN = A := ⟨_, rfl⟩
  rw [hA] at c3 c4
  obtain ⟨r1, r2, r3⟩ := r
  have lr := rpL_len r1 r2 r3
  have c6 : ∀ w, Gives 20 #[.agg (ints .u8 (digs 256 32 bY))] w (.tuple #[.agg (ints .u32 (rpL r1 r2 r3)), .bool true]) := Gr
  show Gives _ _ w (.agg (ints .u32 (rpL r1 r2 r3)))
  obtain ⟨L, hL⟩ : ∃ L, rpL r1 r2 r3 = L := ⟨_, rfl⟩
  rw [hL] at lr c6 ⊢
  have n1 := nm_len bY
  have C1 := Lib.hid c1
  clear c1
  have C2 := Lib.hid c2
  clear c2
  have C3 := Lib.hid c3
  clear c3
  have C4 := Lib.hid c4
  clear c4
  have C5 := Lib.hid c5
  clear c5
  have C6 := Lib.hid c6
  clear c6
  clear hA hr Gr hL hbv
  have hE0 := Env.nil w
  go_enter Try.func27, Try.ntmps27
  repeat ((fail_if_success with_reducible show wA ..); (fail_if_success with_reducible show wB ..); go_step)
  refine wl_step (st_alloc (zs := ints .u32 (List.replicate 24 0)) hE0 rfl rfl (fun w => by kernel_rfl) ?_)
  intro g0 w1 hb1 hE1
  clear hE0
  simp only [Act.put, pA, pB, pC]
  repeat ((fail_if_success with_reducible show wA ..); (fail_if_success with_reducible show wB ..); go_step)
  refine wl_step (st_gives hE1 rfl (run_call rfl Try.call53) (C1.out _) ?_)
  intro w2 hb2 hE2
  clear hE1
  simp only [Act.put, pA, pB, pC]
  refine wl_step (st_gives hE2 rfl (run_call rfl Try.call53) (C2.out _) ?_)
  intro w3 hb3 hE3
  clear hE2
  simp only [Act.put, pA, pB, pC]
  refine wl_step (st_gives hE3 rfl (run_call rfl Try.call58) (C3.out _) ?_)
  intro w4 hb4 hE4
  clear hE3
  simp only [Act.put, pA, pB, pC]
  refine wl_step (st_gives hE4 rfl (run_call rfl Try.call54) (C4.out _) ?_)
  intro w5 hb5 hE5
  clear hE4
  simp only [Act.put, pA, pB, pC]
  refine wl_step (st_alloc (zs := ints .u32 (List.replicate 8 0)) hE5 rfl rfl (fun w => by kernel_rfl) ?_)
  intro g1 w6 hb6 hE6
  clear hE5
  simp only [Act.put, pA, pB, pC]
  refine wl_step (st_store (i := 0) hE6 rfl rfl rfl rfl rfl (szA (n := 8)) (by first | (simp only [ints_size, digs_length, List.length_replicate, List.length_cons, List.length_nil]; done) | (simp only [ints_size, digs_length, List.length_replicate, List.length_cons, List.length_nil, List.length_set, List.length_append]; omega) | rfl) (by first | exact ints_one _ _ | decide | simp [*]) ?_)
  intro w7 hE7
  clear hE6
  simp only [pB, pC] at hE7
  simp only [Act.put, pA, pB, pC]
  repeat ((fail_if_success with_reducible show wA ..); (fail_if_success with_reducible show wB ..); go_step)
  refine wv (v_load (i := 0) hE7 rfl rfl rfl Try.underlying43 rfl (szA (n := 8))) ?_
  simp only [Act.put, pA, pB, pC]
  refine wl_step (st_gives hE7 rfl (run_call rfl Try.call59) (C5.out _) ?_)
  intro w8 hb8 hE8
  clear hE7
  simp only [Act.put, pA, pB, pC]
  refine wl_step (st_gives hE8 rfl (run_call rfl Try.call20) (C6.out _) ?_)
  intro w9 hb9 hE9
  clear hE8
  simp only [Act.put, pA, pB, pC]
  refine wv (v_moveT (.inl rfl) rfl) ?_
  simp only [Act.put, pA, pB, pC]
  refine wv (v_extract rfl rfl rfl) ?_
  simp only [Act.put, pA, pB, pC]
  refine wv (v_extract rfl rfl rfl) ?_
  simp only [Act.put, pA, pB, pC]
  refine wl_step (st_alloc (zs := ints .u32 (List.replicate 24 0)) hE9 rfl rfl (fun w => by kernel_rfl) ?_)
  intro g2 w10 hb10 hE10
  clear hE9
  simp only [Act.put, pA, pB, pC]
  refine wl_step (st_store (i := 0) hE10 rfl rfl rfl rfl rfl (szA (n := 24)) (by first | (simp only [ints_size, digs_length, List.length_replicate, List.length_cons, List.length_nil]; done) | (simp only [ints_size, digs_length, List.length_replicate, List.length_cons, List.length_nil, List.length_set, List.length_append]; omega) | rfl) (by first | exact ints_one _ _ | decide | simp [*]) ?_)
  intro w11 hE11
  clear hE10
  simp only [pB, pC] at hE11
  simp only [Act.put, pA, pB, pC]
  refine wv (v_moveT (.inr rfl) rfl) ?_
  simp only [Act.put, pA, pB, pC]
  repeat ((fail_if_success with_reducible show wA ..); (fail_if_success with_reducible show wB ..); go_step)
  refine wv (v_load (i := 0) hE11 rfl rfl rfl Try.underlying45 rfl (szA (n := 24))) ?_
  simp only [Act.put, pA, pB, pC]
  refine wl_step (st_store (i := 2) hE11 rfl rfl rfl rfl rfl (szA (n := 24)) (by first | (simp only [ints_size, digs_length, List.length_replicate, List.length_cons, List.length_nil]; done) | (simp only [ints_size, digs_length, List.length_replicate, List.length_cons, List.length_nil, List.length_set, List.length_append]; omega) | rfl) (by first | exact ints_one _ _ | decide | simp [*]) ?_)
  intro w12 hE12
  clear hE11
  simp only [pB, pC] at hE12
  simp only [Act.put, pA, pB, pC]
  repeat ((fail_if_success with_reducible show wA ..); (fail_if_success with_reducible show wB ..); go_step)
  refine bodyPost_ret (results_cell_row rfl _ _ _ _ _ (0, 0) _ rfl (hE12.get (i := 2) rfl) Try.underlying45 rfl (szA (n := 24))) rfl ⟨rfl, hE12.below⟩
end Go.Proofs.Ytmebjoehmheknaa
namespace Go.Proofs.Ytmebjoehmheknaa
open Go.RowKit
set_option linter.unusedVariables false
set_option linter.unusedSimpArgs false

theorem results_cc {P : Program} {fn : Func} {p s : Tmp} {ty ty' : TypeId} (h : fn.results = #[.cell p ty, .cell s ty']) (tmps : Array Value) (w : World) (g g' : Nat) (t t' : TypeId) (cs cs' : Array Value) (fr fr' : Nat × Nat) (d d' : TypeDesc)
    (hp : tmps.getD p undef = .pointer (some ⟨g, 0, none⟩)) (hg : w.heap[g]? = some (.cells cs t fr))
    (hu : P.underlying ty = some d) (hd : (match d with | .struct _ | .array _ _ => true | _ => false) = true) (hi : (P.info? ty).map (·.size) = some cs.size)
    (hp' : tmps.getD s undef = .pointer (some ⟨g', 0, none⟩)) (hg' : w.heap[g']? = some (.cells cs' t' fr'))
    (hu' : P.underlying ty' = some d') (hd' : (match d' with | .struct _ | .array _ _ => true | _ => false) = true) (hi' : (P.info? ty').map (·.size) = some cs'.size) :
    (results fn tmps).run P w = .ok (.tuple #[.agg cs, .agg cs']) w := by
  have h1 : tmps[p]?.getD undef = .pointer (some ⟨g, 0, none⟩) := by simpa using hp
  have h2 : tmps[s]?.getD undef = .pointer (some ⟨g', 0, none⟩) := by simpa using hp'
  simp [results, h, h1, h2, asAddr, run_loadVar_row w g t ty cs fr d hg hu hd hi, run_loadVar_row w g' t' ty' cs' fr' d' hg' hu' hd' hi']
end Go.Proofs.Ytmebjoehmheknaa
