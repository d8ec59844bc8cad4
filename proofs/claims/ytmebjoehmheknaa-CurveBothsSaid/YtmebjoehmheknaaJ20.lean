/-
  Layer 6: the point of bytes.
  Layer 4, the document's answer: a number halved k times.
  Layer 4, the document's answer: a number halved k times, the walk.
-/
import Derived.Test.YtmebjoehmheknaaJ16
import Derived.Test.YtmebjoehmheknaaJ19
namespace Go.Proofs.Ytmebjoehmheknaa
open Go.RowKit
set_option linter.unusedVariables false
set_option linter.unusedSimpArgs false

/-- Bytes of which the highest bit is struck. -/
theorem strike {b : List Nat} (hb : b.length = 32) (db : Digs 256 b) : ∃ T, b.getD 31 0 = T ∧ T < 256 ∧ (b.set 31 (T % 128)).length = 32 ∧ Digs 256 (b.set 31 (T % 128)) ∧
    val 256 (b.set 31 (T % 128)) = val 256 b % 57896044618658097711785492504343953926634992332820282019728792003956564819968 ∧ T / 128 = val 256 b / 57896044618658097711785492504343953926634992332820282019728792003956564819968 := by
  have h1 := val_div_mod db (by decide) 31
  have hV := val_lt db
  rw [hb] at hV
  have hlt : val 256 b / 256 ^ 31 < 256 := Nat.div_lt_of_lt_mul (by rw [← Nat.pow_succ]; exact hV)
  rw [Nat.mod_eq_of_lt hlt] at h1
  have hset := val_set (B := 256) b 31 (val 256 b / 256 ^ 31 % 128) (by omega)
  have hg : b[31]'(by omega) = val 256 b / 256 ^ 31 := by
    rw [h1, List.getD_eq_getElem?_getD, List.getElem?_eq_getElem (by omega)]
    rfl
  rw [hg] at hset
  refine ⟨_, h1.symm, hlt, by rw [List.length_set]; exact hb, db.set _ (by omega), ?_, ?_⟩
  · rw [half_pow, Nat.mod_mul]
    have h2 := Nat.div_add_mod (val 256 b) (256 ^ 31)
    generalize val 256 b / 256 ^ 31 = T at *
    generalize val 256 b % 256 ^ 31 = R at *
    generalize val 256 (b.set 31 (T % 128)) = W at *
    generalize (256 : Nat) ^ 31 = M at *
    omega
  · rw [half_pow, ← Nat.div_div_eq_div_mul]

theorem fk_of {c : List Nat} {n : Nat} (h : fk c = kk pN n) : fval c % pN = n % pN := kk_iff.1 h
set_option maxRecDepth 100000 in
set_option maxHeartbeats 16000000 in
theorem PDecode_walk {b : List Nat} (hb : b.length = 32) (db : Digs 256 b) (V : Nat) (hV : val 256 b = V) :
    (∀ P, encN P = V → ∃ c, PRep c P ∧ ∀ w, Gives 19 #[.agg (ints .u8 b)] w (.tuple #[pt c, .bool true])) ∧
    (¬ isPt V → ∀ w, Gives 19 #[.agg (ints .u8 b)] w (.tuple #[pt zeroL, .bool false])) := by
  obtain ⟨T, ht, hT, lb', db', hv, ho⟩ := strike hb db
  rw [hV] at hv ho
  have hVl : V < 115792089237316195423570985008687907853269984665640564039457584007913129639936 := by
    have := val_lt db
    rw [hb, hV] at this
    exact this
  obtain ⟨b', hbe⟩ : ∃ b', b.set 31 (T % 128) = b' := ⟨_, rfl⟩
  rw [hbe] at lb' db' hv
  have hC := fun w => Canonical_any lb' db' w
  have hO := fun w => Of_any b' lb' db' w
  rw [hv] at hC hO
  obtain ⟨Y, hYe⟩ : ∃ Y, V % 57896044618658097711785492504343953926634992332820282019728792003956564819968 = Y := ⟨_, rfl⟩
  obtain ⟨o, hoe⟩ : ∃ o, V / 57896044618658097711785492504343953926634992332820282019728792003956564819968 = o := ⟨_, rfl⟩
  have hpt : isPt V ↔ Y < pN ∧ (rootN (uN Y) (vN Y)).2 = true ∧ ¬ (o = 1 ∧ (rootN (uN Y) (vN Y)).1 = 0) := by
    unfold isPt
    rw [hYe, hoe]
  have hyes : ∀ P, encN P = V → isPt V ∧ P.y = kk pN Y ∧ P.x = kk pN (xOf Y o) := fun P hP => by
    have hi : isPt V := hP ▸ of_pt P
    obtain ⟨P', h1, h2, h3⟩ := pt_of hVl hi
    obtain rfl : P' = P := encN_inj (h1.trans hP.symm)
    rw [hYe] at h2 h3
    rw [hoe] at h3
    exact ⟨hi, by rw [← h2]; exact kk_all _, by rw [← h3]; exact kk_all _⟩
  rw [hpt] at hyes ⊢
  rw [hYe] at hC hO
  rw [hoe] at ho
  have fy := digs_Fe Y
  have ey : Y < pN → fk (digs 2251799813685248 5 Y) = kk pN Y := fun h => of_fk h
  obtain ⟨y, hye⟩ : ∃ y, digs 2251799813685248 5 Y = y := ⟨_, rfl⟩
  rw [hye] at fy ey hO
  obtain ⟨f1, e1, G1⟩ := Small_K (n := 1) (by decide)
  rw [kk_one] at e1
  obtain ⟨sq, fsq, esq, Gsq⟩ := Mul_K fy fy
  obtain ⟨u, fu, eu, Gu⟩ := Sub_K fsq f1
  obtain ⟨d, fd, ed, Gd⟩ := once_any
  obtain ⟨sd, fsd, esd, Gsd⟩ := Mul_K fsq fd
  obtain ⟨v, fv, ev, Gv⟩ := Add_K fsd f1
  obtain ⟨x, fx, ex, Gx⟩ := Root_any fu fv
  obtain ⟨nx, fnx, enx, Gnx⟩ := Neg_K fx
  have hZ := fun w => Zero_any fx w
  have hroot : Y < pN → rootN (fval u) (fval v) = rootN (uN Y) (vN Y) := fun h => by
    have hy := ey h
    refine rootN_congr (fk_of ?_) (fk_of ?_)
    · rw [eu, esq, hy, e1, kk_uN]
    · rw [ev, esd, esq, hy, ed, e1, kk_vN]
      grobner
  have hrl := rootN_lt (fval u) (fval v)
  rw [ex] at hZ
  have exk : fk x = kk pN (rootN (fval u) (fval v)).1 := by
    unfold fk
    exact kk_of (by rw [ex, Nat.mod_eq_of_lt hrl])
  have l1 := fsq.1
  have l2 := fu.1
  have l3 := fv.1
  have l4 := fx.1
  have l5 := fnx.1
  have l6 := fy.1
  have l7 := f1.1
  have lz : zeroL.length = 20 := rfl
  have Ht := Lib.hid ht
  have Hbe := Lib.hid hbe
  have HC := Lib.hid hC
  have HO := Lib.hid hO
  have H1 := Lib.hid G1
  have Hsq := Lib.hid Gsq
  have Hu := Lib.hid Gu
  have Hd := Lib.hid Gd
  have Hsd := Lib.hid Gsd
  have Hv := Lib.hid Gv
  have Hnx := Lib.hid Gnx
  have HR := Lib.hid hroot
  have Hyes := Lib.hid hyes
  have Ey := Lib.hid ey
  have Fy := Lib.hid fy
  have Fx := Lib.hid fx
  have Fnx := Lib.hid fnx
  have Enx := Lib.hid enx
  have Exk := Lib.hid exk
  have hord : decide (T / 128 = 1) = decide (o = 1) := by rw [ho]
  have Hod := Lib.hid hord
  clear ht hbe hC hO G1 Gsq Gu Gd Gsd Gv Gnx hroot hyes ey fy fx fnx enx exk hord ho hv hpt hYe hoe hye db db' hV hVl e1 f1 esq fsq eu fu ed fd esd fsd ev fv ex hrl
  obtain ⟨r, hr⟩ : ∃ r, rootN (fval u) (fval v) = r := ⟨_, rfl⟩
  rw [hr] at HR Exk Gx hZ
  have HX := Lib.hid Gx
  have HZ := Lib.hid hZ
  clear Gx hZ hr
  by_cases hY : Y < pN
  · have hR := HR.out hY
    rw [← hR] at Hyes ⊢
    have hCw := HC.out
    rw [decide_eq_true hY] at hCw
    have HC1 := Lib.hid hCw
    clear hCw HC
    cases hok : r.2 with
    | false =>
      refine ⟨fun P hP => ?_, fun _ w => ?_⟩
      · have := (Hyes.out P hP).1.2.1
        rw [hok] at this
        cases this
      · have hXw := HX.out
        rw [hok] at hXw
        have HX1 := Lib.hid hXw
        clear hXw HX Hyes hR hok hY
        have hE0 := Env.nil w
        go_enter Try.func19, Try.ntmps19
        repeat ((fail_if_success with_reducible show wA ..); (fail_if_success with_reducible show wB ..); go_step)
        refine wl_step (st_boxA hE0 rfl rfl rfl ?_)
        intro g0 w1 hb1 hE1
        clear hE0
        simp only [Act.put, pA, pB, pC]
        refine wl_step (st_alloc (zs := ints .u64 (List.replicate 20 0)) hE1 rfl rfl (fun w => by kernel_rfl) ?_)
        intro g1 w2 hb2 hE2
        clear hE1
        simp only [Act.put, pA, pB, pC]
        refine wv (v_moveC (.inr rfl)) ?_
        simp only [Act.put, pA, pB, pC]
        repeat ((fail_if_success with_reducible show wA ..); (fail_if_success with_reducible show wB ..); go_step)
        refine wv (v_indexA0 (j := 31) rfl rfl rfl Try.underlying22 (by kernel_rfl) (by first | assumption | omega)) ?_
        simp only [Act.put, pA, pB, pC]
        refine wv (v_cell rfl rfl Try.underlying5 rfl (Env.cellv (i := 1) hE2 rfl (ints_get? _ _ _ (by first | assumption | omega | (simp; done) | (simp; omega))))) ?_
        simp only [Act.put, pA, pB, pC]
        rw [Ht.out]
        refine wv (v_shrC (s := 7) (d := 128) rfl rfl rfl (by decide) (by decide)) ?_
        simp only [Act.put, pA, pB, pC]
        refine wv (v_eql (n := 1) rfl rfl rfl) ?_
        simp only [Act.put, pA, pB, pC]
        rw [Hod.out]
        refine wv (v_moveT (.inr rfl) rfl) ?_
        simp only [Act.put, pA, pB, pC]
        repeat ((fail_if_success with_reducible show wA ..); (fail_if_success with_reducible show wB ..); go_step)
        refine wv (v_indexA0 (j := 31) rfl rfl rfl Try.underlying22 (by kernel_rfl) (by first | assumption | omega)) ?_
        simp only [Act.put, pA, pB, pC]
        refine wv (v_cell rfl rfl Try.underlying5 rfl (Env.cellv (i := 1) hE2 rfl (ints_get? _ _ _ (by first | assumption | omega | (simp; done) | (simp; omega))))) ?_
        simp only [Act.put, pA, pB, pC]
        rw [Ht.out]
        refine wv (v_mask (c := 127) (s := 7) (d := 128) rfl rfl rfl (by decide) (by decide) rfl (by simp only [IntKind.bits]; omega) (by decide)) ?_
        simp only [Act.put, pA, pB, pC]
        refine wv (v_indexA0 (j := 31) rfl rfl rfl Try.underlying22 (by kernel_rfl) (by first | assumption | omega)) ?_
        simp only [Act.put, pA, pB, pC]
        refine wl_step (st_putN (i := 1) hE2 rfl rfl rfl rfl rfl (by kernel_rfl) (by first | assumption | omega | (simp only [List.length_set, List.length_replicate]; first | assumption | omega)) ?_)
        intro w3 hE3
        clear hE2
        simp only [pB, pC] at hE3
        simp only [Act.put, pA, pB, pC]
        rw [Hbe.out] at hE3
        repeat ((fail_if_success with_reducible show wA ..); (fail_if_success with_reducible show wB ..); go_step)
        refine wv (v_load (i := 1) hE3 rfl rfl rfl Try.underlying22 rfl (szA (n := 32))) ?_
        simp only [Act.put, pA, pB, pC]
        refine wl_step (st_gives hE3 rfl (run_call rfl Try.call44) (HC1.out _) ?_)
        intro w4 hb4 hE4
        clear hE3
        simp only [Act.put, pA, pB, pC]
        refine wv (v_not rfl rfl) ?_
        simp only [Act.put, pA, pB, pC]
        repeat ((fail_if_success with_reducible show wA ..); (fail_if_success with_reducible show wB ..); (fail_if_success (with_reducible show Code.wp _ (Code.cond _ _ _) _ _ _)); go_step)
        refine wp_cond_false (by first | rfl | exact congrArg Value.bool (decide_eq_false (by omega))) ?_
        skip
        repeat ((fail_if_success with_reducible show wA ..); (fail_if_success with_reducible show wB ..); go_step)
        refine wl_step (st_gives hE4 rfl (run_call rfl Try.call38) (H1.out _) ?_)
        intro w5 hb5 hE5
        clear hE4
        simp only [Act.put, pA, pB, pC]
        refine wl_step (st_alloc (zs := ints .u64 (List.replicate 5 0)) hE5 rfl rfl (fun w => by kernel_rfl) ?_)
        intro g2 w6 hb6 hE6
        clear hE5
        simp only [Act.put, pA, pB, pC]
        refine wl_step (st_store (i := 0) hE6 rfl rfl rfl rfl rfl (szA (n := 5)) (by first | (simp only [ints_size, digs_length, List.length_replicate, List.length_cons, List.length_nil]; done) | (simp only [ints_size, digs_length, List.length_replicate, List.length_cons, List.length_nil, List.length_set, List.length_append]; omega) | rfl) (by first | exact ints_one _ _ | decide | simp [*]) ?_)
        intro w7 hE7
        clear hE6
        simp only [pB, pC] at hE7
        simp only [Act.put, pA, pB, pC]
        repeat ((fail_if_success with_reducible show wA ..); (fail_if_success with_reducible show wB ..); go_step)
        refine wv (v_load (i := 2) hE7 rfl rfl rfl Try.underlying22 rfl (szA (n := 32))) ?_
        simp only [Act.put, pA, pB, pC]
        refine wl_step (st_gives hE7 rfl (run_call rfl Try.call31) (HO.out _) ?_)
        intro w8 hb8 hE8
        clear hE7
        simp only [Act.put, pA, pB, pC]
        refine wl_step (st_alloc (zs := ints .u64 (List.replicate 5 0)) hE8 rfl rfl (fun w => by kernel_rfl) ?_)
        intro g3 w9 hb9 hE9
        clear hE8
        simp only [Act.put, pA, pB, pC]
        refine wl_step (st_store (i := 0) hE9 rfl rfl rfl rfl rfl (szA (n := 5)) (by first | (simp only [ints_size, digs_length, List.length_replicate, List.length_cons, List.length_nil]; done) | (simp only [ints_size, digs_length, List.length_replicate, List.length_cons, List.length_nil, List.length_set, List.length_append]; omega) | rfl) (by first | exact ints_one _ _ | decide | simp [*]) ?_)
        intro w10 hE10
        clear hE9
        simp only [pB, pC] at hE10
        simp only [Act.put, pA, pB, pC]
        repeat ((fail_if_success with_reducible show wA ..); (fail_if_success with_reducible show wB ..); go_step)
        refine wv (v_load (i := 0) hE10 rfl rfl rfl Try.underlying26 rfl (szA (n := 5))) ?_
        simp only [Act.put, pA, pB, pC]
        refine wv (v_load (i := 0) hE10 rfl rfl rfl Try.underlying26 rfl (szA (n := 5))) ?_
        simp only [Act.put, pA, pB, pC]
        refine wl_step (st_gives hE10 rfl (run_call rfl Try.call34) (Hsq.out _) ?_)
        intro w11 hb11 hE11
        clear hE10
        simp only [Act.put, pA, pB, pC]
        refine wl_step (st_alloc (zs := ints .u64 (List.replicate 5 0)) hE11 rfl rfl (fun w => by kernel_rfl) ?_)
        intro g4 w12 hb12 hE12
        clear hE11
        simp only [Act.put, pA, pB, pC]
        refine wl_step (st_store (i := 0) hE12 rfl rfl rfl rfl rfl (szA (n := 5)) (by first | (simp only [ints_size, digs_length, List.length_replicate, List.length_cons, List.length_nil]; done) | (simp only [ints_size, digs_length, List.length_replicate, List.length_cons, List.length_nil, List.length_set, List.length_append]; omega) | rfl) (by first | exact ints_one _ _ | decide | simp [*]) ?_)
        intro w13 hE13
        clear hE12
        simp only [pB, pC] at hE13
        simp only [Act.put, pA, pB, pC]
        repeat ((fail_if_success with_reducible show wA ..); (fail_if_success with_reducible show wB ..); go_step)
        refine wp_region_env 13 (by kernel_rfl) (by kernel_rfl) (fun _ _ d _ _ h => by cases d <;> exact h) hE13 ?_
        refine hv (fun _ hW => (v_load (i := 0) hW rfl rfl rfl Try.underlying26 rfl (szA (n := 5)))) ?_
        simp only [Act.put, pA, pB, pC]
        refine hv (fun _ hW => (v_load (i := 2) hW rfl rfl rfl Try.underlying26 rfl (szA (n := 5)))) ?_
        simp only [Act.put, pA, pB, pC]
        refine headRun_call (fun w1 => run_call rfl Try.call33) (fun w1 hW => Hu.out _) ?_
        simp only [Act.put, pA, pB, pC]
        refine hv (fun _ hW => (v_load (i := 0) hW rfl rfl rfl Try.underlying26 rfl (szA (n := 5)))) ?_
        simp only [Act.put, pA, pB, pC]
        refine headRun_call (fun w1 => run_call rfl Try.call46) (fun w1 hW => Hd.out _) ?_
        simp only [Act.put, pA, pB, pC]
        refine headRun_call (fun w1 => run_call rfl Try.call34) (fun w1 hW => Hsd.out _) ?_
        simp only [Act.put, pA, pB, pC]
        refine hv (fun _ hW => (v_load (i := 2) hW rfl rfl rfl Try.underlying26 rfl (szA (n := 5)))) ?_
        simp only [Act.put, pA, pB, pC]
        refine headRun_call (fun w1 => run_call rfl Try.call35) (fun w1 hW => Hv.out _) ?_
        simp only [Act.put, pA, pB, pC]
        refine headRun_call (fun w1 => run_call rfl Try.call45) (fun w1 hW => HX1.out _) ?_
        simp only [Act.put, pA, pB, pC]
        refine hv (fun _ hW => (v_moveT (.inl rfl) rfl)) ?_
        simp only [Act.put, pA, pB, pC]
        refine hv (fun _ hW => (v_extract rfl rfl rfl)) ?_
        simp only [Act.put, pA, pB, pC]
        refine hv (fun _ hW => (v_extract rfl rfl rfl)) ?_
        simp only [Act.put, pA, pB, pC]
        refine headRun_alloc (zs := ints .u64 (List.replicate 5 0)) rfl rfl (fun w => by kernel_rfl) ?_
        simp only [Act.put, pA, pB, pC]
        refine headRun_nil (endK1 ?_)
        intro g5 w14 hE14
        clear hE13
        simp only [List.drop_succ_cons, List.drop_zero, Act.put, pA, pB, pC]
        refine wl_step (st_store (i := 0) hE14 rfl rfl rfl rfl rfl (szA (n := 5)) (by first | (simp only [ints_size, digs_length, List.length_replicate, List.length_cons, List.length_nil]; done) | (simp only [ints_size, digs_length, List.length_replicate, List.length_cons, List.length_nil, List.length_set, List.length_append]; omega) | rfl) (by first | exact ints_one _ _ | decide | simp [*]) ?_)
        intro w15 hE15
        clear hE14
        simp only [pB, pC] at hE15
        simp only [Act.put, pA, pB, pC]
        refine wv (v_moveT (.inr rfl) rfl) ?_
        simp only [Act.put, pA, pB, pC]
        repeat ((fail_if_success with_reducible show wA ..); (fail_if_success with_reducible show wB ..); go_step)
        refine wv (v_moveT (.inl rfl) rfl) ?_
        simp only [Act.put, pA, pB, pC]
        refine wv (v_not rfl rfl) ?_
        simp only [Act.put, pA, pB, pC]
        refine wv (v_moveT (.inl rfl) rfl) ?_
        simp only [Act.put, pA, pB, pC]
        refine wl_step (st_skip rfl ?_)
        simp only [Act.put, pA, pB, pC]
        refine wl_step (st_skip rfl ?_)
        simp only [Act.put, pA, pB, pC]
        refine wl_step (st_skip rfl ?_)
        simp only [Act.put, pA, pB, pC]
        refine wl_step (st_skip rfl ?_)
        simp only [Act.put, pA, pB, pC]
        refine wl_step (st_skip rfl ?_)
        simp only [Act.put, pA, pB, pC]
        refine wv (v_orT rfl rfl) ?_
        simp only [Act.put, pA, pB, pC]
        repeat ((fail_if_success with_reducible show wA ..); (fail_if_success with_reducible show wB ..); (fail_if_success (with_reducible show Code.wp _ (Code.cond _ _ _) _ _ _)); go_step)
        refine wp_cond_true (by first | rfl | exact congrArg Value.bool (decide_eq_true (by omega))) ?_
        skip
        repeat ((fail_if_success with_reducible show wA ..); (fail_if_success with_reducible show wB ..); go_step)
        refine wl_step (st_gives hE15 rfl (run_call rfl Try.call12) (PZero_any _) ?_)
        intro w16 hb16 hE16
        clear hE15
        simp only [Act.put, pA, pB, pC]
        refine wl_step (st_store (i := 4) hE16 rfl rfl rfl rfl rfl (szA (n := 20)) (by first | (simp only [ints_size, digs_length, List.length_replicate, List.length_cons, List.length_nil]; done) | (simp only [ints_size, digs_length, List.length_replicate, List.length_cons, List.length_nil, List.length_set, List.length_append]; omega) | rfl) (by first | exact ints_one _ _ | decide | simp [*]) ?_)
        intro w17 hE17
        clear hE16
        simp only [pB, pC] at hE17
        simp only [Act.put, pA, pB, pC]
        refine wv (v_moveC (.inr rfl)) ?_
        simp only [Act.put, pA, pB, pC]
        repeat ((fail_if_success with_reducible show wA ..); (fail_if_success with_reducible show wB ..); go_step)
        refine bodyPost_ret (results_ct rfl _ _ _ _ _ (0, 0) _ rfl (hE17.get (i := 4) rfl) Try.underlying28 rfl (szA (n := 20)) rfl) rfl ⟨rfl, hE17.below⟩
    | true =>
      have hXw := HX.out
      rw [hok] at hXw
      have HX1 := Lib.hid hXw
      clear hXw HX
      by_cases ho1 : o = 1
      · have hxo : xOf Y o = (pN - r.1) % pN := by unfold xOf; rw [if_pos ho1, hR]
        rw [decide_eq_true ho1] at Hod
        by_cases hr0 : r.1 = 0
        · refine ⟨fun P hP => absurd ⟨ho1, hr0⟩ (Hyes.out P hP).1.2.2, fun _ w => ?_⟩
          have hZw := HZ.out
          rw [decide_eq_true hr0] at hZw
          have HZ1 := Lib.hid hZw
          clear hZw HZ Hyes hR hok hY hxo hr0 ho1
          have hE0 := Env.nil w
          go_enter Try.func19, Try.ntmps19
          repeat ((fail_if_success with_reducible show wA ..); (fail_if_success with_reducible show wB ..); go_step)
          refine wl_step (st_boxA hE0 rfl rfl rfl ?_)
          intro g0 w1 hb1 hE1
          clear hE0
          simp only [Act.put, pA, pB, pC]
          refine wl_step (st_alloc (zs := ints .u64 (List.replicate 20 0)) hE1 rfl rfl (fun w => by kernel_rfl) ?_)
          intro g1 w2 hb2 hE2
          clear hE1
          simp only [Act.put, pA, pB, pC]
          refine wv (v_moveC (.inr rfl)) ?_
          simp only [Act.put, pA, pB, pC]
          repeat ((fail_if_success with_reducible show wA ..); (fail_if_success with_reducible show wB ..); go_step)
          refine wv (v_indexA0 (j := 31) rfl rfl rfl Try.underlying22 (by kernel_rfl) (by first | assumption | omega)) ?_
          simp only [Act.put, pA, pB, pC]
          refine wv (v_cell rfl rfl Try.underlying5 rfl (Env.cellv (i := 1) hE2 rfl (ints_get? _ _ _ (by first | assumption | omega | (simp; done) | (simp; omega))))) ?_
          simp only [Act.put, pA, pB, pC]
          rw [Ht.out]
          refine wv (v_shrC (s := 7) (d := 128) rfl rfl rfl (by decide) (by decide)) ?_
          simp only [Act.put, pA, pB, pC]
          refine wv (v_eql (n := 1) rfl rfl rfl) ?_
          simp only [Act.put, pA, pB, pC]
          rw [Hod.out]
          refine wv (v_moveT (.inr rfl) rfl) ?_
          simp only [Act.put, pA, pB, pC]
          repeat ((fail_if_success with_reducible show wA ..); (fail_if_success with_reducible show wB ..); go_step)
          refine wv (v_indexA0 (j := 31) rfl rfl rfl Try.underlying22 (by kernel_rfl) (by first | assumption | omega)) ?_
          simp only [Act.put, pA, pB, pC]
          refine wv (v_cell rfl rfl Try.underlying5 rfl (Env.cellv (i := 1) hE2 rfl (ints_get? _ _ _ (by first | assumption | omega | (simp; done) | (simp; omega))))) ?_
          simp only [Act.put, pA, pB, pC]
          rw [Ht.out]
          refine wv (v_mask (c := 127) (s := 7) (d := 128) rfl rfl rfl (by decide) (by decide) rfl (by simp only [IntKind.bits]; omega) (by decide)) ?_
          simp only [Act.put, pA, pB, pC]
          refine wv (v_indexA0 (j := 31) rfl rfl rfl Try.underlying22 (by kernel_rfl) (by first | assumption | omega)) ?_
          simp only [Act.put, pA, pB, pC]
          refine wl_step (st_putN (i := 1) hE2 rfl rfl rfl rfl rfl (by kernel_rfl) (by first | assumption | omega | (simp only [List.length_set, List.length_replicate]; first | assumption | omega)) ?_)
          intro w3 hE3
          clear hE2
          simp only [pB, pC] at hE3
          simp only [Act.put, pA, pB, pC]
          rw [Hbe.out] at hE3
          repeat ((fail_if_success with_reducible show wA ..); (fail_if_success with_reducible show wB ..); go_step)
          refine wv (v_load (i := 1) hE3 rfl rfl rfl Try.underlying22 rfl (szA (n := 32))) ?_
          simp only [Act.put, pA, pB, pC]
          refine wl_step (st_gives hE3 rfl (run_call rfl Try.call44) (HC1.out _) ?_)
          intro w4 hb4 hE4
          clear hE3
          simp only [Act.put, pA, pB, pC]
          refine wv (v_not rfl rfl) ?_
          simp only [Act.put, pA, pB, pC]
          repeat ((fail_if_success with_reducible show wA ..); (fail_if_success with_reducible show wB ..); (fail_if_success (with_reducible show Code.wp _ (Code.cond _ _ _) _ _ _)); go_step)
          refine wp_cond_false (by first | rfl | exact congrArg Value.bool (decide_eq_false (by omega))) ?_
          skip
          repeat ((fail_if_success with_reducible show wA ..); (fail_if_success with_reducible show wB ..); go_step)
          refine wl_step (st_gives hE4 rfl (run_call rfl Try.call38) (H1.out _) ?_)
          intro w5 hb5 hE5
          clear hE4
          simp only [Act.put, pA, pB, pC]
          refine wl_step (st_alloc (zs := ints .u64 (List.replicate 5 0)) hE5 rfl rfl (fun w => by kernel_rfl) ?_)
          intro g2 w6 hb6 hE6
          clear hE5
          simp only [Act.put, pA, pB, pC]
          refine wl_step (st_store (i := 0) hE6 rfl rfl rfl rfl rfl (szA (n := 5)) (by first | (simp only [ints_size, digs_length, List.length_replicate, List.length_cons, List.length_nil]; done) | (simp only [ints_size, digs_length, List.length_replicate, List.length_cons, List.length_nil, List.length_set, List.length_append]; omega) | rfl) (by first | exact ints_one _ _ | decide | simp [*]) ?_)
          intro w7 hE7
          clear hE6
          simp only [pB, pC] at hE7
          simp only [Act.put, pA, pB, pC]
          repeat ((fail_if_success with_reducible show wA ..); (fail_if_success with_reducible show wB ..); go_step)
          refine wv (v_load (i := 2) hE7 rfl rfl rfl Try.underlying22 rfl (szA (n := 32))) ?_
          simp only [Act.put, pA, pB, pC]
          refine wl_step (st_gives hE7 rfl (run_call rfl Try.call31) (HO.out _) ?_)
          intro w8 hb8 hE8
          clear hE7
          simp only [Act.put, pA, pB, pC]
          refine wl_step (st_alloc (zs := ints .u64 (List.replicate 5 0)) hE8 rfl rfl (fun w => by kernel_rfl) ?_)
          intro g3 w9 hb9 hE9
          clear hE8
          simp only [Act.put, pA, pB, pC]
          refine wl_step (st_store (i := 0) hE9 rfl rfl rfl rfl rfl (szA (n := 5)) (by first | (simp only [ints_size, digs_length, List.length_replicate, List.length_cons, List.length_nil]; done) | (simp only [ints_size, digs_length, List.length_replicate, List.length_cons, List.length_nil, List.length_set, List.length_append]; omega) | rfl) (by first | exact ints_one _ _ | decide | simp [*]) ?_)
          intro w10 hE10
          clear hE9
          simp only [pB, pC] at hE10
          simp only [Act.put, pA, pB, pC]
          repeat ((fail_if_success with_reducible show wA ..); (fail_if_success with_reducible show wB ..); go_step)
          refine wv (v_load (i := 0) hE10 rfl rfl rfl Try.underlying26 rfl (szA (n := 5))) ?_
          simp only [Act.put, pA, pB, pC]
          refine wv (v_load (i := 0) hE10 rfl rfl rfl Try.underlying26 rfl (szA (n := 5))) ?_
          simp only [Act.put, pA, pB, pC]
          refine wl_step (st_gives hE10 rfl (run_call rfl Try.call34) (Hsq.out _) ?_)
          intro w11 hb11 hE11
          clear hE10
          simp only [Act.put, pA, pB, pC]
          refine wl_step (st_alloc (zs := ints .u64 (List.replicate 5 0)) hE11 rfl rfl (fun w => by kernel_rfl) ?_)
          intro g4 w12 hb12 hE12
          clear hE11
          simp only [Act.put, pA, pB, pC]
          refine wl_step (st_store (i := 0) hE12 rfl rfl rfl rfl rfl (szA (n := 5)) (by first | (simp only [ints_size, digs_length, List.length_replicate, List.length_cons, List.length_nil]; done) | (simp only [ints_size, digs_length, List.length_replicate, List.length_cons, List.length_nil, List.length_set, List.length_append]; omega) | rfl) (by first | exact ints_one _ _ | decide | simp [*]) ?_)
          intro w13 hE13
          clear hE12
          simp only [pB, pC] at hE13
          simp only [Act.put, pA, pB, pC]
          repeat ((fail_if_success with_reducible show wA ..); (fail_if_success with_reducible show wB ..); go_step)
          refine wp_region_env 13 (by kernel_rfl) (by kernel_rfl) (fun _ _ d _ _ h => by cases d <;> exact h) hE13 ?_
          refine hv (fun _ hW => (v_load (i := 0) hW rfl rfl rfl Try.underlying26 rfl (szA (n := 5)))) ?_
          simp only [Act.put, pA, pB, pC]
          refine hv (fun _ hW => (v_load (i := 2) hW rfl rfl rfl Try.underlying26 rfl (szA (n := 5)))) ?_
          simp only [Act.put, pA, pB, pC]
          refine headRun_call (fun w1 => run_call rfl Try.call33) (fun w1 hW => Hu.out _) ?_
          simp only [Act.put, pA, pB, pC]
          refine hv (fun _ hW => (v_load (i := 0) hW rfl rfl rfl Try.underlying26 rfl (szA (n := 5)))) ?_
          simp only [Act.put, pA, pB, pC]
          refine headRun_call (fun w1 => run_call rfl Try.call46) (fun w1 hW => Hd.out _) ?_
          simp only [Act.put, pA, pB, pC]
          refine headRun_call (fun w1 => run_call rfl Try.call34) (fun w1 hW => Hsd.out _) ?_
          simp only [Act.put, pA, pB, pC]
          refine hv (fun _ hW => (v_load (i := 2) hW rfl rfl rfl Try.underlying26 rfl (szA (n := 5)))) ?_
          simp only [Act.put, pA, pB, pC]
          refine headRun_call (fun w1 => run_call rfl Try.call35) (fun w1 hW => Hv.out _) ?_
          simp only [Act.put, pA, pB, pC]
          refine headRun_call (fun w1 => run_call rfl Try.call45) (fun w1 hW => HX1.out _) ?_
          simp only [Act.put, pA, pB, pC]
          refine hv (fun _ hW => (v_moveT (.inl rfl) rfl)) ?_
          simp only [Act.put, pA, pB, pC]
          refine hv (fun _ hW => (v_extract rfl rfl rfl)) ?_
          simp only [Act.put, pA, pB, pC]
          refine hv (fun _ hW => (v_extract rfl rfl rfl)) ?_
          simp only [Act.put, pA, pB, pC]
          refine headRun_alloc (zs := ints .u64 (List.replicate 5 0)) rfl rfl (fun w => by kernel_rfl) ?_
          simp only [Act.put, pA, pB, pC]
          refine headRun_nil (endK1 ?_)
          intro g5 w14 hE14
          clear hE13
          simp only [List.drop_succ_cons, List.drop_zero, Act.put, pA, pB, pC]
          refine wl_step (st_store (i := 0) hE14 rfl rfl rfl rfl rfl (szA (n := 5)) (by first | (simp only [ints_size, digs_length, List.length_replicate, List.length_cons, List.length_nil]; done) | (simp only [ints_size, digs_length, List.length_replicate, List.length_cons, List.length_nil, List.length_set, List.length_append]; omega) | rfl) (by first | exact ints_one _ _ | decide | simp [*]) ?_)
          intro w15 hE15
          clear hE14
          simp only [pB, pC] at hE15
          simp only [Act.put, pA, pB, pC]
          refine wv (v_moveT (.inr rfl) rfl) ?_
          simp only [Act.put, pA, pB, pC]
          repeat ((fail_if_success with_reducible show wA ..); (fail_if_success with_reducible show wB ..); go_step)
          refine wv (v_moveT (.inl rfl) rfl) ?_
          simp only [Act.put, pA, pB, pC]
          refine wv (v_not rfl rfl) ?_
          simp only [Act.put, pA, pB, pC]
          refine wv (v_moveT (.inl rfl) rfl) ?_
          simp only [Act.put, pA, pB, pC]
          refine wv (v_moveT (.inl rfl) rfl) ?_
          simp only [Act.put, pA, pB, pC]
          refine wv (v_moveT (.inl rfl) rfl) ?_
          simp only [Act.put, pA, pB, pC]
          refine wv (v_load (i := 0) hE15 rfl rfl rfl Try.underlying26 rfl (szA (n := 5))) ?_
          simp only [Act.put, pA, pB, pC]
          refine wl_step (st_gives hE15 rfl (run_call rfl Try.call47) (HZ1.out _) ?_)
          intro w16 hb16 hE16
          clear hE15
          simp only [Act.put, pA, pB, pC]
          refine wv (v_and rfl rfl (fun _ => rfl)) ?_
          simp only [Act.put, pA, pB, pC]
          refine wv (v_or rfl rfl (fun _ => rfl)) ?_
          simp only [Act.put, pA, pB, pC]
          repeat ((fail_if_success with_reducible show wA ..); (fail_if_success with_reducible show wB ..); (fail_if_success (with_reducible show Code.wp _ (Code.cond _ _ _) _ _ _)); go_step)
          refine wp_cond_true (by first | rfl | exact congrArg Value.bool (decide_eq_true (by omega))) ?_
          skip
          repeat ((fail_if_success with_reducible show wA ..); (fail_if_success with_reducible show wB ..); go_step)
          refine wl_step (st_gives hE16 rfl (run_call rfl Try.call12) (PZero_any _) ?_)
          intro w17 hb17 hE17
          clear hE16
          simp only [Act.put, pA, pB, pC]
          refine wl_step (st_store (i := 4) hE17 rfl rfl rfl rfl rfl (szA (n := 20)) (by first | (simp only [ints_size, digs_length, List.length_replicate, List.length_cons, List.length_nil]; done) | (simp only [ints_size, digs_length, List.length_replicate, List.length_cons, List.length_nil, List.length_set, List.length_append]; omega) | rfl) (by first | exact ints_one _ _ | decide | simp [*]) ?_)
          intro w18 hE18
          clear hE17
          simp only [pB, pC] at hE18
          simp only [Act.put, pA, pB, pC]
          refine wv (v_moveC (.inr rfl)) ?_
          simp only [Act.put, pA, pB, pC]
          repeat ((fail_if_success with_reducible show wA ..); (fail_if_success with_reducible show wB ..); go_step)
          refine bodyPost_ret (results_ct rfl _ _ _ _ _ (0, 0) _ rfl (hE18.get (i := 4) rfl) Try.underlying28 rfl (szA (n := 20)) rfl) rfl ⟨rfl, hE18.below⟩
        · refine ⟨fun P hP => ?_, fun h => absurd ⟨hY, rfl, fun h' => hr0 h'.2⟩ h⟩
          obtain ⟨_, hPy, hPx⟩ := Hyes.out P hP
          obtain ⟨c, hc, Gc⟩ := affine_any (P := P) Fnx.out Fy.out (by
            have hl : r.1 < pN := hR ▸ rootN_lt _ _
            rw [Enx.out, Exk.out, hPx, hxo, kk_mod, kk_neg (Nat.le_of_lt hl)]) (by rw [Ey.out hY, hPy])
          refine ⟨c, hc, fun w => ?_⟩
          have lc := hc.len
          have Hc := Lib.hid Gc
          have hZw := HZ.out
          rw [decide_eq_false hr0] at hZw
          have HZ1 := Lib.hid hZw
          clear hZw HZ Hyes hR hok hY hxo hr0 ho1 Gc hc hPy hPx
          have hE0 := Env.nil w
          go_enter Try.func19, Try.ntmps19
          repeat ((fail_if_success with_reducible show wA ..); (fail_if_success with_reducible show wB ..); go_step)
          refine wl_step (st_boxA hE0 rfl rfl rfl ?_)
          intro g0 w1 hb1 hE1
          clear hE0
          simp only [Act.put, pA, pB, pC]
          refine wl_step (st_alloc (zs := ints .u64 (List.replicate 20 0)) hE1 rfl rfl (fun w => by kernel_rfl) ?_)
          intro g1 w2 hb2 hE2
          clear hE1
          simp only [Act.put, pA, pB, pC]
          refine wv (v_moveC (.inr rfl)) ?_
          simp only [Act.put, pA, pB, pC]
          repeat ((fail_if_success with_reducible show wA ..); (fail_if_success with_reducible show wB ..); go_step)
          refine wv (v_indexA0 (j := 31) rfl rfl rfl Try.underlying22 (by kernel_rfl) (by first | assumption | omega)) ?_
          simp only [Act.put, pA, pB, pC]
          refine wv (v_cell rfl rfl Try.underlying5 rfl (Env.cellv (i := 1) hE2 rfl (ints_get? _ _ _ (by first | assumption | omega | (simp; done) | (simp; omega))))) ?_
          simp only [Act.put, pA, pB, pC]
          rw [Ht.out]
          refine wv (v_shrC (s := 7) (d := 128) rfl rfl rfl (by decide) (by decide)) ?_
          simp only [Act.put, pA, pB, pC]
          refine wv (v_eql (n := 1) rfl rfl rfl) ?_
          simp only [Act.put, pA, pB, pC]
          rw [Hod.out]
          refine wv (v_moveT (.inr rfl) rfl) ?_
          simp only [Act.put, pA, pB, pC]
          repeat ((fail_if_success with_reducible show wA ..); (fail_if_success with_reducible show wB ..); go_step)
          refine wv (v_indexA0 (j := 31) rfl rfl rfl Try.underlying22 (by kernel_rfl) (by first | assumption | omega)) ?_
          simp only [Act.put, pA, pB, pC]
          refine wv (v_cell rfl rfl Try.underlying5 rfl (Env.cellv (i := 1) hE2 rfl (ints_get? _ _ _ (by first | assumption | omega | (simp; done) | (simp; omega))))) ?_
          simp only [Act.put, pA, pB, pC]
          rw [Ht.out]
          refine wv (v_mask (c := 127) (s := 7) (d := 128) rfl rfl rfl (by decide) (by decide) rfl (by simp only [IntKind.bits]; omega) (by decide)) ?_
          simp only [Act.put, pA, pB, pC]
          refine wv (v_indexA0 (j := 31) rfl rfl rfl Try.underlying22 (by kernel_rfl) (by first | assumption | omega)) ?_
          simp only [Act.put, pA, pB, pC]
          refine wl_step (st_putN (i := 1) hE2 rfl rfl rfl rfl rfl (by kernel_rfl) (by first | assumption | omega | (simp only [List.length_set, List.length_replicate]; first | assumption | omega)) ?_)
          intro w3 hE3
          clear hE2
          simp only [pB, pC] at hE3
          simp only [Act.put, pA, pB, pC]
          rw [Hbe.out] at hE3
          repeat ((fail_if_success with_reducible show wA ..); (fail_if_success with_reducible show wB ..); go_step)
          refine wv (v_load (i := 1) hE3 rfl rfl rfl Try.underlying22 rfl (szA (n := 32))) ?_
          simp only [Act.put, pA, pB, pC]
          refine wl_step (st_gives hE3 rfl (run_call rfl Try.call44) (HC1.out _) ?_)
          intro w4 hb4 hE4
          clear hE3
          simp only [Act.put, pA, pB, pC]
          refine wv (v_not rfl rfl) ?_
          simp only [Act.put, pA, pB, pC]
          repeat ((fail_if_success with_reducible show wA ..); (fail_if_success with_reducible show wB ..); (fail_if_success (with_reducible show Code.wp _ (Code.cond _ _ _) _ _ _)); go_step)
          refine wp_cond_false (by first | rfl | exact congrArg Value.bool (decide_eq_false (by omega))) ?_
          skip
          repeat ((fail_if_success with_reducible show wA ..); (fail_if_success with_reducible show wB ..); go_step)
          refine wl_step (st_gives hE4 rfl (run_call rfl Try.call38) (H1.out _) ?_)
          intro w5 hb5 hE5
          clear hE4
          simp only [Act.put, pA, pB, pC]
          refine wl_step (st_alloc (zs := ints .u64 (List.replicate 5 0)) hE5 rfl rfl (fun w => by kernel_rfl) ?_)
          intro g2 w6 hb6 hE6
          clear hE5
          simp only [Act.put, pA, pB, pC]
          refine wl_step (st_store (i := 0) hE6 rfl rfl rfl rfl rfl (szA (n := 5)) (by first | (simp only [ints_size, digs_length, List.length_replicate, List.length_cons, List.length_nil]; done) | (simp only [ints_size, digs_length, List.length_replicate, List.length_cons, List.length_nil, List.length_set, List.length_append]; omega) | rfl) (by first | exact ints_one _ _ | decide | simp [*]) ?_)
          intro w7 hE7
          clear hE6
          simp only [pB, pC] at hE7
          simp only [Act.put, pA, pB, pC]
          repeat ((fail_if_success with_reducible show wA ..); (fail_if_success with_reducible show wB ..); go_step)
          refine wv (v_load (i := 2) hE7 rfl rfl rfl Try.underlying22 rfl (szA (n := 32))) ?_
          simp only [Act.put, pA, pB, pC]
          refine wl_step (st_gives hE7 rfl (run_call rfl Try.call31) (HO.out _) ?_)
          intro w8 hb8 hE8
          clear hE7
          simp only [Act.put, pA, pB, pC]
          refine wl_step (st_alloc (zs := ints .u64 (List.replicate 5 0)) hE8 rfl rfl (fun w => by kernel_rfl) ?_)
          intro g3 w9 hb9 hE9
          clear hE8
          simp only [Act.put, pA, pB, pC]
          refine wl_step (st_store (i := 0) hE9 rfl rfl rfl rfl rfl (szA (n := 5)) (by first | (simp only [ints_size, digs_length, List.length_replicate, List.length_cons, List.length_nil]; done) | (simp only [ints_size, digs_length, List.length_replicate, List.length_cons, List.length_nil, List.length_set, List.length_append]; omega) | rfl) (by first | exact ints_one _ _ | decide | simp [*]) ?_)
          intro w10 hE10
          clear hE9
          simp only [pB, pC] at hE10
          simp only [Act.put, pA, pB, pC]
          repeat ((fail_if_success with_reducible show wA ..); (fail_if_success with_reducible show wB ..); go_step)
          refine wv (v_load (i := 0) hE10 rfl rfl rfl Try.underlying26 rfl (szA (n := 5))) ?_
          simp only [Act.put, pA, pB, pC]
          refine wv (v_load (i := 0) hE10 rfl rfl rfl Try.underlying26 rfl (szA (n := 5))) ?_
          simp only [Act.put, pA, pB, pC]
          refine wl_step (st_gives hE10 rfl (run_call rfl Try.call34) (Hsq.out _) ?_)
          intro w11 hb11 hE11
          clear hE10
          simp only [Act.put, pA, pB, pC]
          refine wl_step (st_alloc (zs := ints .u64 (List.replicate 5 0)) hE11 rfl rfl (fun w => by kernel_rfl) ?_)
          intro g4 w12 hb12 hE12
          clear hE11
          simp only [Act.put, pA, pB, pC]
          refine wl_step (st_store (i := 0) hE12 rfl rfl rfl rfl rfl (szA (n := 5)) (by first | (simp only [ints_size, digs_length, List.length_replicate, List.length_cons, List.length_nil]; done) | (simp only [ints_size, digs_length, List.length_replicate, List.length_cons, List.length_nil, List.length_set, List.length_append]; omega) | rfl) (by first | exact ints_one _ _ | decide | simp [*]) ?_)
          intro w13 hE13
          clear hE12
          simp only [pB, pC] at hE13
          simp only [Act.put, pA, pB, pC]
          repeat ((fail_if_success with_reducible show wA ..); (fail_if_success with_reducible show wB ..); go_step)
          refine wp_region_env 13 (by kernel_rfl) (by kernel_rfl) (fun _ _ d _ _ h => by cases d <;> exact h) hE13 ?_
          refine hv (fun _ hW => (v_load (i := 0) hW rfl rfl rfl Try.underlying26 rfl (szA (n := 5)))) ?_
          simp only [Act.put, pA, pB, pC]
          refine hv (fun _ hW => (v_load (i := 2) hW rfl rfl rfl Try.underlying26 rfl (szA (n := 5)))) ?_
          simp only [Act.put, pA, pB, pC]
          refine headRun_call (fun w1 => run_call rfl Try.call33) (fun w1 hW => Hu.out _) ?_
          simp only [Act.put, pA, pB, pC]
          refine hv (fun _ hW => (v_load (i := 0) hW rfl rfl rfl Try.underlying26 rfl (szA (n := 5)))) ?_
          simp only [Act.put, pA, pB, pC]
          refine headRun_call (fun w1 => run_call rfl Try.call46) (fun w1 hW => Hd.out _) ?_
          simp only [Act.put, pA, pB, pC]
          refine headRun_call (fun w1 => run_call rfl Try.call34) (fun w1 hW => Hsd.out _) ?_
          simp only [Act.put, pA, pB, pC]
          refine hv (fun _ hW => (v_load (i := 2) hW rfl rfl rfl Try.underlying26 rfl (szA (n := 5)))) ?_
          simp only [Act.put, pA, pB, pC]
          refine headRun_call (fun w1 => run_call rfl Try.call35) (fun w1 hW => Hv.out _) ?_
          simp only [Act.put, pA, pB, pC]
          refine headRun_call (fun w1 => run_call rfl Try.call45) (fun w1 hW => HX1.out _) ?_
          simp only [Act.put, pA, pB, pC]
          refine hv (fun _ hW => (v_moveT (.inl rfl) rfl)) ?_
          simp only [Act.put, pA, pB, pC]
          refine hv (fun _ hW => (v_extract rfl rfl rfl)) ?_
          simp only [Act.put, pA, pB, pC]
          refine hv (fun _ hW => (v_extract rfl rfl rfl)) ?_
          simp only [Act.put, pA, pB, pC]
          refine headRun_alloc (zs := ints .u64 (List.replicate 5 0)) rfl rfl (fun w => by kernel_rfl) ?_
          simp only [Act.put, pA, pB, pC]
          refine headRun_nil (endK1 ?_)
          intro g5 w14 hE14
          clear hE13
          simp only [List.drop_succ_cons, List.drop_zero, Act.put, pA, pB, pC]
          refine wl_step (st_store (i := 0) hE14 rfl rfl rfl rfl rfl (szA (n := 5)) (by first | (simp only [ints_size, digs_length, List.length_replicate, List.length_cons, List.length_nil]; done) | (simp only [ints_size, digs_length, List.length_replicate, List.length_cons, List.length_nil, List.length_set, List.length_append]; omega) | rfl) (by first | exact ints_one _ _ | decide | simp [*]) ?_)
          intro w15 hE15
          clear hE14
          simp only [pB, pC] at hE15
          simp only [Act.put, pA, pB, pC]
          refine wv (v_moveT (.inr rfl) rfl) ?_
          simp only [Act.put, pA, pB, pC]
          repeat ((fail_if_success with_reducible show wA ..); (fail_if_success with_reducible show wB ..); go_step)
          refine wv (v_moveT (.inl rfl) rfl) ?_
          simp only [Act.put, pA, pB, pC]
          refine wv (v_not rfl rfl) ?_
          simp only [Act.put, pA, pB, pC]
          refine wv (v_moveT (.inl rfl) rfl) ?_
          simp only [Act.put, pA, pB, pC]
          refine wv (v_moveT (.inl rfl) rfl) ?_
          simp only [Act.put, pA, pB, pC]
          refine wv (v_moveT (.inl rfl) rfl) ?_
          simp only [Act.put, pA, pB, pC]
          refine wv (v_load (i := 0) hE15 rfl rfl rfl Try.underlying26 rfl (szA (n := 5))) ?_
          simp only [Act.put, pA, pB, pC]
          refine wl_step (st_gives hE15 rfl (run_call rfl Try.call47) (HZ1.out _) ?_)
          intro w16 hb16 hE16
          clear hE15
          simp only [Act.put, pA, pB, pC]
          refine wv (v_and rfl rfl (fun _ => rfl)) ?_
          simp only [Act.put, pA, pB, pC]
          refine wv (v_or rfl rfl (fun _ => rfl)) ?_
          simp only [Act.put, pA, pB, pC]
          repeat ((fail_if_success with_reducible show wA ..); (fail_if_success with_reducible show wB ..); (fail_if_success (with_reducible show Code.wp _ (Code.cond _ _ _) _ _ _)); go_step)
          refine wp_cond_false (by first | rfl | exact congrArg Value.bool (decide_eq_false (by omega))) ?_
          skip
          repeat ((fail_if_success with_reducible show wA ..); (fail_if_success with_reducible show wB ..); go_step)
          refine wv (v_moveT (.inl rfl) rfl) ?_
          simp only [Act.put, pA, pB, pC]
          repeat ((fail_if_success with_reducible show wA ..); (fail_if_success with_reducible show wB ..); (fail_if_success (with_reducible show Code.wp _ (Code.cond _ _ _) _ _ _)); go_step)
          refine wp_cond_true (by first | rfl | exact congrArg Value.bool (decide_eq_true (by omega))) ?_
          skip
          repeat ((fail_if_success with_reducible show wA ..); (fail_if_success with_reducible show wB ..); go_step)
          refine wv (v_load (i := 0) hE16 rfl rfl rfl Try.underlying26 rfl (szA (n := 5))) ?_
          simp only [Act.put, pA, pB, pC]
          refine wl_step (st_gives hE16 rfl (run_call rfl Try.call39) (Hnx.out _) ?_)
          intro w17 hb17 hE17
          clear hE16
          simp only [Act.put, pA, pB, pC]
          refine wl_step (st_store (i := 0) hE17 rfl rfl rfl rfl rfl (szA (n := 5)) (by first | (simp only [ints_size, digs_length, List.length_replicate, List.length_cons, List.length_nil]; done) | (simp only [ints_size, digs_length, List.length_replicate, List.length_cons, List.length_nil, List.length_set, List.length_append]; omega) | rfl) (by first | exact ints_one _ _ | decide | simp [*]) ?_)
          intro w18 hE18
          clear hE17
          simp only [pB, pC] at hE18
          simp only [Act.put, pA, pB, pC]
          repeat ((fail_if_success with_reducible show wA ..); (fail_if_success with_reducible show wB ..); go_step)
          refine wv (v_load (i := 0) hE18 rfl rfl rfl Try.underlying26 rfl (szA (n := 5))) ?_
          simp only [Act.put, pA, pB, pC]
          refine wv (v_load (i := 2) hE18 rfl rfl rfl Try.underlying26 rfl (szA (n := 5))) ?_
          simp only [Act.put, pA, pB, pC]
          refine wl_step (st_gives hE18 rfl (run_call rfl Try.call30) (Hc.out _) ?_)
          intro w19 hb19 hE19
          clear hE18
          simp only [Act.put, pA, pB, pC]
          refine wl_step (st_store (i := 4) hE19 rfl rfl rfl rfl rfl (szA (n := 20)) (by first | (simp only [ints_size, digs_length, List.length_replicate, List.length_cons, List.length_nil]; done) | (simp only [ints_size, digs_length, List.length_replicate, List.length_cons, List.length_nil, List.length_set, List.length_append]; omega) | rfl) (by first | exact ints_one _ _ | decide | simp [*]) ?_)
          intro w20 hE20
          clear hE19
          simp only [pB, pC] at hE20
          simp only [Act.put, pA, pB, pC]
          refine wv (v_moveC (.inr rfl)) ?_
          simp only [Act.put, pA, pB, pC]
          repeat ((fail_if_success with_reducible show wA ..); (fail_if_success with_reducible show wB ..); go_step)
          refine bodyPost_ret (results_ct rfl _ _ _ _ _ (0, 0) _ rfl (hE20.get (i := 4) rfl) Try.underlying28 rfl (szA (n := 20)) rfl) rfl ⟨rfl, hE20.below⟩
      · have hxo : xOf Y o = r.1 := by unfold xOf; rw [if_neg ho1, hR]
        rw [decide_eq_false ho1] at Hod
        refine ⟨fun P hP => ?_, fun h => absurd ⟨hY, rfl, fun h' => ho1 h'.1⟩ h⟩
        obtain ⟨_, hPy, hPx⟩ := Hyes.out P hP
        obtain ⟨c, hc, Gc⟩ := affine_any (P := P) Fx.out Fy.out (by rw [Exk.out, hPx, hxo]) (by rw [Ey.out hY, hPy])
        refine ⟨c, hc, fun w => ?_⟩
        have lc := hc.len
        have Hc := Lib.hid Gc
        clear HZ Hyes hR hok hY hxo ho1 Gc hc hPy hPx
        have hE0 := Env.nil w
        go_enter Try.func19, Try.ntmps19
        repeat ((fail_if_success with_reducible show wA ..); (fail_if_success with_reducible show wB ..); go_step)
        refine wl_step (st_boxA hE0 rfl rfl rfl ?_)
        intro g0 w1 hb1 hE1
        clear hE0
        simp only [Act.put, pA, pB, pC]
        refine wl_step (st_alloc (zs := ints .u64 (List.replicate 20 0)) hE1 rfl rfl (fun w => by kernel_rfl) ?_)
        intro g1 w2 hb2 hE2
        clear hE1
        simp only [Act.put, pA, pB, pC]
        refine wv (v_moveC (.inr rfl)) ?_
        simp only [Act.put, pA, pB, pC]
        repeat ((fail_if_success with_reducible show wA ..); (fail_if_success with_reducible show wB ..); go_step)
        refine wv (v_indexA0 (j := 31) rfl rfl rfl Try.underlying22 (by kernel_rfl) (by first | assumption | omega)) ?_
        simp only [Act.put, pA, pB, pC]
        refine wv (v_cell rfl rfl Try.underlying5 rfl (Env.cellv (i := 1) hE2 rfl (ints_get? _ _ _ (by first | assumption | omega | (simp; done) | (simp; omega))))) ?_
        simp only [Act.put, pA, pB, pC]
        rw [Ht.out]
        refine wv (v_shrC (s := 7) (d := 128) rfl rfl rfl (by decide) (by decide)) ?_
        simp only [Act.put, pA, pB, pC]
        refine wv (v_eql (n := 1) rfl rfl rfl) ?_
        simp only [Act.put, pA, pB, pC]
        rw [Hod.out]
        refine wv (v_moveT (.inr rfl) rfl) ?_
        simp only [Act.put, pA, pB, pC]
        repeat ((fail_if_success with_reducible show wA ..); (fail_if_success with_reducible show wB ..); go_step)
        refine wv (v_indexA0 (j := 31) rfl rfl rfl Try.underlying22 (by kernel_rfl) (by first | assumption | omega)) ?_
        simp only [Act.put, pA, pB, pC]
        refine wv (v_cell rfl rfl Try.underlying5 rfl (Env.cellv (i := 1) hE2 rfl (ints_get? _ _ _ (by first | assumption | omega | (simp; done) | (simp; omega))))) ?_
        simp only [Act.put, pA, pB, pC]
        rw [Ht.out]
        refine wv (v_mask (c := 127) (s := 7) (d := 128) rfl rfl rfl (by decide) (by decide) rfl (by simp only [IntKind.bits]; omega) (by decide)) ?_
        simp only [Act.put, pA, pB, pC]
        refine wv (v_indexA0 (j := 31) rfl rfl rfl Try.underlying22 (by kernel_rfl) (by first | assumption | omega)) ?_
        simp only [Act.put, pA, pB, pC]
        refine wl_step (st_putN (i := 1) hE2 rfl rfl rfl rfl rfl (by kernel_rfl) (by first | assumption | omega | (simp only [List.length_set, List.length_replicate]; first | assumption | omega)) ?_)
        intro w3 hE3
        clear hE2
        simp only [pB, pC] at hE3
        simp only [Act.put, pA, pB, pC]
        rw [Hbe.out] at hE3
        repeat ((fail_if_success with_reducible show wA ..); (fail_if_success with_reducible show wB ..); go_step)
        refine wv (v_load (i := 1) hE3 rfl rfl rfl Try.underlying22 rfl (szA (n := 32))) ?_
        simp only [Act.put, pA, pB, pC]
        refine wl_step (st_gives hE3 rfl (run_call rfl Try.call44) (HC1.out _) ?_)
        intro w4 hb4 hE4
        clear hE3
        simp only [Act.put, pA, pB, pC]
        refine wv (v_not rfl rfl) ?_
        simp only [Act.put, pA, pB, pC]
        repeat ((fail_if_success with_reducible show wA ..); (fail_if_success with_reducible show wB ..); (fail_if_success (with_reducible show Code.wp _ (Code.cond _ _ _) _ _ _)); go_step)
        refine wp_cond_false (by first | rfl | exact congrArg Value.bool (decide_eq_false (by omega))) ?_
        skip
        repeat ((fail_if_success with_reducible show wA ..); (fail_if_success with_reducible show wB ..); go_step)
        refine wl_step (st_gives hE4 rfl (run_call rfl Try.call38) (H1.out _) ?_)
        intro w5 hb5 hE5
        clear hE4
        simp only [Act.put, pA, pB, pC]
        refine wl_step (st_alloc (zs := ints .u64 (List.replicate 5 0)) hE5 rfl rfl (fun w => by kernel_rfl) ?_)
        intro g2 w6 hb6 hE6
        clear hE5
        simp only [Act.put, pA, pB, pC]
        refine wl_step (st_store (i := 0) hE6 rfl rfl rfl rfl rfl (szA (n := 5)) (by first | (simp only [ints_size, digs_length, List.length_replicate, List.length_cons, List.length_nil]; done) | (simp only [ints_size, digs_length, List.length_replicate, List.length_cons, List.length_nil, List.length_set, List.length_append]; omega) | rfl) (by first | exact ints_one _ _ | decide | simp [*]) ?_)
        intro w7 hE7
        clear hE6
        simp only [pB, pC] at hE7
        simp only [Act.put, pA, pB, pC]
        repeat ((fail_if_success with_reducible show wA ..); (fail_if_success with_reducible show wB ..); go_step)
        refine wv (v_load (i := 2) hE7 rfl rfl rfl Try.underlying22 rfl (szA (n := 32))) ?_
        simp only [Act.put, pA, pB, pC]
        refine wl_step (st_gives hE7 rfl (run_call rfl Try.call31) (HO.out _) ?_)
        intro w8 hb8 hE8
        clear hE7
        simp only [Act.put, pA, pB, pC]
        refine wl_step (st_alloc (zs := ints .u64 (List.replicate 5 0)) hE8 rfl rfl (fun w => by kernel_rfl) ?_)
        intro g3 w9 hb9 hE9
        clear hE8
        simp only [Act.put, pA, pB, pC]
        refine wl_step (st_store (i := 0) hE9 rfl rfl rfl rfl rfl (szA (n := 5)) (by first | (simp only [ints_size, digs_length, List.length_replicate, List.length_cons, List.length_nil]; done) | (simp only [ints_size, digs_length, List.length_replicate, List.length_cons, List.length_nil, List.length_set, List.length_append]; omega) | rfl) (by first | exact ints_one _ _ | decide | simp [*]) ?_)
        intro w10 hE10
        clear hE9
        simp only [pB, pC] at hE10
        simp only [Act.put, pA, pB, pC]
        repeat ((fail_if_success with_reducible show wA ..); (fail_if_success with_reducible show wB ..); go_step)
        refine wv (v_load (i := 0) hE10 rfl rfl rfl Try.underlying26 rfl (szA (n := 5))) ?_
        simp only [Act.put, pA, pB, pC]
        refine wv (v_load (i := 0) hE10 rfl rfl rfl Try.underlying26 rfl (szA (n := 5))) ?_
        simp only [Act.put, pA, pB, pC]
        refine wl_step (st_gives hE10 rfl (run_call rfl Try.call34) (Hsq.out _) ?_)
        intro w11 hb11 hE11
        clear hE10
        simp only [Act.put, pA, pB, pC]
        refine wl_step (st_alloc (zs := ints .u64 (List.replicate 5 0)) hE11 rfl rfl (fun w => by kernel_rfl) ?_)
        intro g4 w12 hb12 hE12
        clear hE11
        simp only [Act.put, pA, pB, pC]
        refine wl_step (st_store (i := 0) hE12 rfl rfl rfl rfl rfl (szA (n := 5)) (by first | (simp only [ints_size, digs_length, List.length_replicate, List.length_cons, List.length_nil]; done) | (simp only [ints_size, digs_length, List.length_replicate, List.length_cons, List.length_nil, List.length_set, List.length_append]; omega) | rfl) (by first | exact ints_one _ _ | decide | simp [*]) ?_)
        intro w13 hE13
        clear hE12
        simp only [pB, pC] at hE13
        simp only [Act.put, pA, pB, pC]
        repeat ((fail_if_success with_reducible show wA ..); (fail_if_success with_reducible show wB ..); go_step)
        refine wp_region_env 13 (by kernel_rfl) (by kernel_rfl) (fun _ _ d _ _ h => by cases d <;> exact h) hE13 ?_
        refine hv (fun _ hW => (v_load (i := 0) hW rfl rfl rfl Try.underlying26 rfl (szA (n := 5)))) ?_
        simp only [Act.put, pA, pB, pC]
        refine hv (fun _ hW => (v_load (i := 2) hW rfl rfl rfl Try.underlying26 rfl (szA (n := 5)))) ?_
        simp only [Act.put, pA, pB, pC]
        refine headRun_call (fun w1 => run_call rfl Try.call33) (fun w1 hW => Hu.out _) ?_
        simp only [Act.put, pA, pB, pC]
        refine hv (fun _ hW => (v_load (i := 0) hW rfl rfl rfl Try.underlying26 rfl (szA (n := 5)))) ?_
        simp only [Act.put, pA, pB, pC]
        refine headRun_call (fun w1 => run_call rfl Try.call46) (fun w1 hW => Hd.out _) ?_
        simp only [Act.put, pA, pB, pC]
        refine headRun_call (fun w1 => run_call rfl Try.call34) (fun w1 hW => Hsd.out _) ?_
        simp only [Act.put, pA, pB, pC]
        refine hv (fun _ hW => (v_load (i := 2) hW rfl rfl rfl Try.underlying26 rfl (szA (n := 5)))) ?_
        simp only [Act.put, pA, pB, pC]
        refine headRun_call (fun w1 => run_call rfl Try.call35) (fun w1 hW => Hv.out _) ?_
        simp only [Act.put, pA, pB, pC]
        refine headRun_call (fun w1 => run_call rfl Try.call45) (fun w1 hW => HX1.out _) ?_
        simp only [Act.put, pA, pB, pC]
        refine hv (fun _ hW => (v_moveT (.inl rfl) rfl)) ?_
        simp only [Act.put, pA, pB, pC]
        refine hv (fun _ hW => (v_extract rfl rfl rfl)) ?_
        simp only [Act.put, pA, pB, pC]
        refine hv (fun _ hW => (v_extract rfl rfl rfl)) ?_
        simp only [Act.put, pA, pB, pC]
        refine headRun_alloc (zs := ints .u64 (List.replicate 5 0)) rfl rfl (fun w => by kernel_rfl) ?_
        simp only [Act.put, pA, pB, pC]
        refine headRun_nil (endK1 ?_)
        intro g5 w14 hE14
        clear hE13
        simp only [List.drop_succ_cons, List.drop_zero, Act.put, pA, pB, pC]
        refine wl_step (st_store (i := 0) hE14 rfl rfl rfl rfl rfl (szA (n := 5)) (by first | (simp only [ints_size, digs_length, List.length_replicate, List.length_cons, List.length_nil]; done) | (simp only [ints_size, digs_length, List.length_replicate, List.length_cons, List.length_nil, List.length_set, List.length_append]; omega) | rfl) (by first | exact ints_one _ _ | decide | simp [*]) ?_)
        intro w15 hE15
        clear hE14
        simp only [pB, pC] at hE15
        simp only [Act.put, pA, pB, pC]
        refine wv (v_moveT (.inr rfl) rfl) ?_
        simp only [Act.put, pA, pB, pC]
        repeat ((fail_if_success with_reducible show wA ..); (fail_if_success with_reducible show wB ..); go_step)
        refine wv (v_moveT (.inl rfl) rfl) ?_
        simp only [Act.put, pA, pB, pC]
        refine wv (v_not rfl rfl) ?_
        simp only [Act.put, pA, pB, pC]
        refine wv (v_moveT (.inl rfl) rfl) ?_
        simp only [Act.put, pA, pB, pC]
        refine wv (v_moveT (.inl rfl) rfl) ?_
        simp only [Act.put, pA, pB, pC]
        refine wv (v_moveT (.inl rfl) rfl) ?_
        simp only [Act.put, pA, pB, pC]
        refine wl_step (st_skip rfl ?_)
        simp only [Act.put, pA, pB, pC]
        refine wl_step (st_skip rfl ?_)
        simp only [Act.put, pA, pB, pC]
        refine wv (v_andF rfl rfl) ?_
        simp only [Act.put, pA, pB, pC]
        refine wv (v_or rfl rfl (fun _ => rfl)) ?_
        simp only [Act.put, pA, pB, pC]
        repeat ((fail_if_success with_reducible show wA ..); (fail_if_success with_reducible show wB ..); (fail_if_success (with_reducible show Code.wp _ (Code.cond _ _ _) _ _ _)); go_step)
        refine wp_cond_false (by first | rfl | exact congrArg Value.bool (decide_eq_false (by omega))) ?_
        skip
        repeat ((fail_if_success with_reducible show wA ..); (fail_if_success with_reducible show wB ..); go_step)
        refine wv (v_moveT (.inl rfl) rfl) ?_
        simp only [Act.put, pA, pB, pC]
        repeat ((fail_if_success with_reducible show wA ..); (fail_if_success with_reducible show wB ..); (fail_if_success (with_reducible show Code.wp _ (Code.cond _ _ _) _ _ _)); go_step)
        refine wp_cond_false (by first | rfl | exact congrArg Value.bool (decide_eq_false (by omega))) ?_
        skip
        repeat ((fail_if_success with_reducible show wA ..); (fail_if_success with_reducible show wB ..); go_step)
        refine wv (v_load (i := 0) hE15 rfl rfl rfl Try.underlying26 rfl (szA (n := 5))) ?_
        simp only [Act.put, pA, pB, pC]
        refine wv (v_load (i := 2) hE15 rfl rfl rfl Try.underlying26 rfl (szA (n := 5))) ?_
        simp only [Act.put, pA, pB, pC]
        refine wl_step (st_gives hE15 rfl (run_call rfl Try.call30) (Hc.out _) ?_)
        intro w16 hb16 hE16
        clear hE15
        simp only [Act.put, pA, pB, pC]
        refine wl_step (st_store (i := 4) hE16 rfl rfl rfl rfl rfl (szA (n := 20)) (by first | (simp only [ints_size, digs_length, List.length_replicate, List.length_cons, List.length_nil]; done) | (simp only [ints_size, digs_length, List.length_replicate, List.length_cons, List.length_nil, List.length_set, List.length_append]; omega) | rfl) (by first | exact ints_one _ _ | decide | simp [*]) ?_)
        intro w17 hE17
        clear hE16
        simp only [pB, pC] at hE17
        simp only [Act.put, pA, pB, pC]
        refine wv (v_moveC (.inr rfl)) ?_
        simp only [Act.put, pA, pB, pC]
        repeat ((fail_if_success with_reducible show wA ..); (fail_if_success with_reducible show wB ..); go_step)
        refine bodyPost_ret (results_ct rfl _ _ _ _ _ (0, 0) _ rfl (hE17.get (i := 4) rfl) Try.underlying28 rfl (szA (n := 20)) rfl) rfl ⟨rfl, hE17.below⟩
  · refine ⟨fun P hP => absurd (Hyes.out P hP).1.1 hY, fun _ w => ?_⟩
    have hCw := HC.out
    rw [decide_eq_false hY] at hCw
    have HC1 := Lib.hid hCw
    clear hCw HC Hyes hY
    have hE0 := Env.nil w
    go_enter Try.func19, Try.ntmps19
    repeat ((fail_if_success with_reducible show wA ..); (fail_if_success with_reducible show wB ..); go_step)
    refine wl_step (st_boxA hE0 rfl rfl rfl ?_)
    intro g0 w1 hb1 hE1
    clear hE0
    simp only [Act.put, pA, pB, pC]
    refine wl_step (st_alloc (zs := ints .u64 (List.replicate 20 0)) hE1 rfl rfl (fun w => by kernel_rfl) ?_)
    intro g1 w2 hb2 hE2
    clear hE1
    simp only [Act.put, pA, pB, pC]
    refine wv (v_moveC (.inr rfl)) ?_
    simp only [Act.put, pA, pB, pC]
    repeat ((fail_if_success with_reducible show wA ..); (fail_if_success with_reducible show wB ..); go_step)
    refine wv (v_indexA0 (j := 31) rfl rfl rfl Try.underlying22 (by kernel_rfl) (by first | assumption | omega)) ?_
    simp only [Act.put, pA, pB, pC]
    refine wv (v_cell rfl rfl Try.underlying5 rfl (Env.cellv (i := 1) hE2 rfl (ints_get? _ _ _ (by first | assumption | omega | (simp; done) | (simp; omega))))) ?_
    simp only [Act.put, pA, pB, pC]
    rw [Ht.out]
    refine wv (v_shrC (s := 7) (d := 128) rfl rfl rfl (by decide) (by decide)) ?_
    simp only [Act.put, pA, pB, pC]
    refine wv (v_eql (n := 1) rfl rfl rfl) ?_
    simp only [Act.put, pA, pB, pC]
    rw [Hod.out]
    refine wv (v_moveT (.inr rfl) rfl) ?_
    simp only [Act.put, pA, pB, pC]
    repeat ((fail_if_success with_reducible show wA ..); (fail_if_success with_reducible show wB ..); go_step)
    refine wv (v_indexA0 (j := 31) rfl rfl rfl Try.underlying22 (by kernel_rfl) (by first | assumption | omega)) ?_
    simp only [Act.put, pA, pB, pC]
    refine wv (v_cell rfl rfl Try.underlying5 rfl (Env.cellv (i := 1) hE2 rfl (ints_get? _ _ _ (by first | assumption | omega | (simp; done) | (simp; omega))))) ?_
    simp only [Act.put, pA, pB, pC]
    rw [Ht.out]
    refine wv (v_mask (c := 127) (s := 7) (d := 128) rfl rfl rfl (by decide) (by decide) rfl (by simp only [IntKind.bits]; omega) (by decide)) ?_
    simp only [Act.put, pA, pB, pC]
    refine wv (v_indexA0 (j := 31) rfl rfl rfl Try.underlying22 (by kernel_rfl) (by first | assumption | omega)) ?_
    simp only [Act.put, pA, pB, pC]
    refine wl_step (st_putN (i := 1) hE2 rfl rfl rfl rfl rfl (by kernel_rfl) (by first | assumption | omega | (simp only [List.length_set, List.length_replicate]; first | assumption | omega)) ?_)
    intro w3 hE3
    clear hE2
    simp only [pB, pC] at hE3
    simp only [Act.put, pA, pB, pC]
    rw [Hbe.out] at hE3
    repeat ((fail_if_success with_reducible show wA ..); (fail_if_success with_reducible show wB ..); go_step)
    refine wv (v_load (i := 1) hE3 rfl rfl rfl Try.underlying22 rfl (szA (n := 32))) ?_
    simp only [Act.put, pA, pB, pC]
    refine wl_step (st_gives hE3 rfl (run_call rfl Try.call44) (HC1.out _) ?_)
    intro w4 hb4 hE4
    clear hE3
    simp only [Act.put, pA, pB, pC]
    refine wv (v_not rfl rfl) ?_
    simp only [Act.put, pA, pB, pC]
    repeat ((fail_if_success with_reducible show wA ..); (fail_if_success with_reducible show wB ..); (fail_if_success (with_reducible show Code.wp _ (Code.cond _ _ _) _ _ _)); go_step)
    refine wp_cond_true (by first | rfl | exact congrArg Value.bool (decide_eq_true (by omega))) ?_
    skip
    repeat ((fail_if_success with_reducible show wA ..); (fail_if_success with_reducible show wB ..); go_step)
    refine wl_step (st_gives hE4 rfl (run_call rfl Try.call12) (PZero_any _) ?_)
    intro w5 hb5 hE5
    clear hE4
    simp only [Act.put, pA, pB, pC]
    refine wl_step (st_store (i := 0) hE5 rfl rfl rfl rfl rfl (szA (n := 20)) (by first | (simp only [ints_size, digs_length, List.length_replicate, List.length_cons, List.length_nil]; done) | (simp only [ints_size, digs_length, List.length_replicate, List.length_cons, List.length_nil, List.length_set, List.length_append]; omega) | rfl) (by first | exact ints_one _ _ | decide | simp [*]) ?_)
    intro w6 hE6
    clear hE5
    simp only [pB, pC] at hE6
    simp only [Act.put, pA, pB, pC]
    refine wv (v_moveC (.inr rfl)) ?_
    simp only [Act.put, pA, pB, pC]
    repeat ((fail_if_success with_reducible show wA ..); (fail_if_success with_reducible show wB ..); go_step)
    refine bodyPost_ret (results_ct rfl _ _ _ _ _ (0, 0) _ rfl (hE6.get (i := 0) rfl) Try.underlying28 rfl (szA (n := 20)) rfl) rfl ⟨rfl, hE6.below⟩
theorem PDecode_yes {b : List Nat} {P : Pt} (hb : b.length = 32) (db : Digs 256 b) (hP : encN P = val 256 b) : ∃ c, PRep c P ∧ ∀ w, Gives 19 #[.agg (ints .u8 b)] w (.tuple #[pt c, .bool true]) := (PDecode_walk hb db _ rfl).1 P hP
theorem PDecode_no {b : List Nat} (hb : b.length = 32) (db : Digs 256 b) (h : ¬ isPt (val 256 b)) (w : World) : Gives 19 #[.agg (ints .u8 b)] w (.tuple #[pt zeroL, .bool false]) := (PDecode_walk hb db _ rfl).2 h w
end Go.Proofs.Ytmebjoehmheknaa
namespace Go.Proofs.Ytmebjoehmheknaa
open Go.RowKit
set_option linter.unusedVariables false
set_option linter.unusedSimpArgs false

/-- The number of which the digits from K on have been halved. -/
def halfAt (A K : Nat) : Nat := A % 4294967296 ^ K + 4294967296 ^ K * (A / 4294967296 ^ K / 2)
theorem halfAt_start {A : Nat} (hA : A < big8) : halfAt A 8 = A := by
  unfold halfAt
  rw [← big8_eq, Nat.mod_eq_of_lt hA, Nat.div_eq_of_lt hA]
  omega
theorem halfAt_end (A : Nat) : halfAt A 0 = A / 2 := by
  unfold halfAt
  rw [Nat.pow_zero, Nat.mod_one, Nat.div_one, Nat.zero_add, Nat.one_mul]
theorem halfAt_le (A K : Nat) : halfAt A K ≤ A := by
  unfold halfAt
  have h := Nat.div_add_mod A (4294967296 ^ K)
  have h2 : 4294967296 ^ K * (A / 4294967296 ^ K / 2) ≤ 4294967296 ^ K * (A / 4294967296 ^ K) := Nat.mul_le_mul_left _ (Nat.div_le_self _ _)
  omega
theorem halfAt_digit (A K : Nat) : halfAt A (K + 1) / 4294967296 ^ K % 4294967296 = A / 4294967296 ^ K % 4294967296 := by
  unfold halfAt
  have hP : 0 < 4294967296 ^ K := Nat.pow_pos (by decide)
  rw [mod_digit, Nat.pow_succ, Nat.add_assoc, Nat.mul_assoc (4294967296 ^ K), ← Nat.mul_add, Nat.add_mul_div_left _ _ hP, Nat.div_eq_of_lt (Nat.mod_lt _ hP), Nat.zero_add, Nat.add_mul_mod_self_left, Nat.mod_mod]
theorem halfAt_step {A K a u : Nat} (hA : A < big8) (hK : K < 8) (ha : A / 4294967296 ^ K % 4294967296 = a) (hu : A / 4294967296 ^ (K + 1) % 2 = u) :
    (digs 4294967296 8 (halfAt A (K + 1))).set K (a / 2 + u * 2147483648) = digs 4294967296 8 (halfAt A K) ∧ a / 2 + u * 2147483648 < 4294967296 ∧ A / 4294967296 ^ K % 2 = a % 2 := by
  have ha2 : a < 4294967296 := ha ▸ Nat.mod_lt _ (by decide)
  have hu2 : u < 2 := hu ▸ Nat.mod_lt _ (by decide)
  have hq : A / 4294967296 ^ K = a + 4294967296 * (A / 4294967296 ^ (K + 1)) := by
    rw [← ha, Nat.pow_succ, ← Nat.div_div_eq_div_mul]
    omega
  refine ⟨?_, by omega, by rw [hq]; clear hq; omega⟩
  have hb := big8_eq
  refine digs_set (by decide) hK (hb ▸ Nat.lt_of_le_of_lt (halfAt_le _ _) hA) (hb ▸ Nat.lt_of_le_of_lt (halfAt_le _ _) hA) (by omega) ?_
  rw [halfAt_digit, ha]
  unfold halfAt
  rw [Nat.pow_succ] at hu hq
  rw [mod_digit, ha, Nat.pow_succ, hq]
  generalize A / (4294967296 ^ K * 4294967296) = Q at *
  generalize 4294967296 ^ K = P at *
  have e : (a + 4294967296 * Q) / 2 = a / 2 + 4294967296 * (Q / 2) + 2147483648 * u := by omega
  rw [e]
  simp only [Nat.mul_add, Nat.mul_assoc]
  have e2 : P * (u * 2147483648) = P * (2147483648 * u) := by rw [Nat.mul_comm u]
  omega
end Go.Proofs.Ytmebjoehmheknaa
namespace Go.Proofs.Ytmebjoehmheknaa
open Go.RowKit
set_option linter.unusedVariables false
set_option linter.unusedSimpArgs false

set_option maxHeartbeats 4000000 in
theorem shift_any {n k : Nat} (hn : n < big8) (hk : k < 4611686018427387904) (w : World) : Gives 73 #[nm n, .int .i64 (k : Int)] w (nm (n / 2 ^ k)) := by
  have hn8 := nm_len n
  have Hn := Lib.hid hn
  clear hn
  have hE0 := Env.nil w
  go_enter Try.func73, Try.ntmps73
  repeat ((fail_if_success with_reducible show wA ..); (fail_if_success with_reducible show wB ..); go_step)
  refine wl_step (st_boxA hE0 rfl rfl rfl ?_)
  intro g0 w1 hb1 hE1
  clear hE0
  simp only [Act.put, pA, pB, pC]
  refine wl_step (st_alloc (zs := ints .u32 (List.replicate 8 0)) hE1 rfl rfl (fun w => by kernel_rfl) ?_)
  intro g1 w2 hb2 hE2
  clear hE1
  simp only [Act.put, pA, pB, pC]
  repeat ((fail_if_success with_reducible show wA ..); (fail_if_success with_reducible show wB ..); go_step)
  refine wv (v_moveC (.inr rfl)) ?_
  simp only [Act.put, pA, pB, pC]
  go_wp2
  go_loopw [5] (fun i wr => ∃ (J : Nat), J ≤ k ∧ i = .int .i64 J ∧ Env w [⟨g1, 43, ints .u32 (List.replicate 8 0)⟩, ⟨g0, 43, ints .u32 (digs 4294967296 8 (n / 2 ^ J))⟩] wr) (fun i _ => k - (intOf i).toNat)
  case atStart => exact ⟨0, Nat.zero_le _, rfl, by rw [Nat.pow_zero, Nat.div_one]; exact hE2⟩
  case round =>
    clear hE2
    obtain ⟨J, hJ, rfl, hE0⟩ := hrel
    by_cases hJk : J < k
    · have hA : n / 2 ^ J < big8 := Nat.lt_of_le_of_lt (Nat.div_le_self _ _) Hn.out
      have hnext : n / 2 ^ (J + 1) = n / 2 ^ J / 2 := by rw [Nat.pow_succ, ← Nat.div_div_eq_div_mul]
      obtain ⟨A, hAe⟩ : ∃ A, n / 2 ^ J = A := ⟨_, rfl⟩
      rw [hAe] at hA hnext hE0
      have Hnext := Lib.hid hnext
      have HA := Lib.hid hA
      have hA8 := nm_len A
      have hst : Env w [⟨g1, 43, ints .u32 (List.replicate 8 0)⟩, ⟨g0, 43, ints .u32 (digs 4294967296 8 (halfAt A 8))⟩] wr := by rw [halfAt_start hA]; exact hE0
      have h0 : 0 = A / 4294967296 ^ 8 % 2 := by rw [← big8_eq, Nat.div_eq_of_lt hA]
      have H0 := Lib.hid h0
      clear hnext hAe hA hE0 h0
      have hE0 := hst
      clear hst
      repeat ((fail_if_success with_reducible show wA ..); (fail_if_success with_reducible show wB ..); go_step)
      refine wv (v_moveT (.inl rfl) rfl) ?_
      simp only [Act.put, pA, pB, pC]
      refine wv (v_moveT (.inl rfl) rfl) ?_
      simp only [Act.put, pA, pB, pC]
      refine wv (v_lss rfl rfl rfl) ?_
      simp only [Act.put, pA, pB, pC]
      repeat ((fail_if_success with_reducible show wA ..); (fail_if_success with_reducible show wB ..); go_step)
      refine wv (v_moveC (.inr rfl)) ?_
      simp only [Act.put, pA, pB, pC]
      repeat ((fail_if_success with_reducible show wA ..); (fail_if_success with_reducible show wB ..); go_step)
      refine wv (v_moveC (.inr rfl)) ?_
      simp only [Act.put, pA, pB, pC]
      go_wp2
      go_loopw [6, 7] (fun uv i wr => ∃ (K u : Nat), K ≤ 8 ∧ i = .int .i64 ((K : Int) - 1) ∧ uv = .int .u32 u ∧ Hid (u = A / 4294967296 ^ K % 2) ∧ Env w [⟨g1, 43, ints .u32 (List.replicate 8 0)⟩, ⟨g0, 43, ints .u32 (digs 4294967296 8 (halfAt A K))⟩] wr) (fun _ i _ => (intOf i + 1).toNat)
      case atStart => exact ⟨8, 0, Nat.le_refl _, rfl, rfl, H0, hE0⟩
      case round =>
        clear hE0
        obtain ⟨K, u, hK, rfl, rfl, hu, hE0⟩ := hrel
        cases K with
        | zero =>
          rw [halfAt_end, ← Hnext.out] at hE0
          repeat ((fail_if_success with_reducible show wA ..); (fail_if_success with_reducible show wB ..); go_step)
          refine wv (v_moveT (.inl rfl) rfl) ?_
          simp only [Act.put, pA, pB, pC]
          refine wv (v_geqI rfl rfl rfl) ?_
          simp only [Act.put, pA, pB, pC]
          repeat ((fail_if_success with_reducible show wA ..); (fail_if_success with_reducible show wB ..); go_step)
          refine wv (v_moveT (.inl rfl) rfl) ?_
          simp only [Act.put, pA, pB, pC]
          refine wv (v_add (n := 1) rfl rfl rfl (w_i64 (by omega))) ?_
          simp only [Act.put, pA, pB, pC]
          refine wv (v_moveT (.inr rfl) rfl) ?_
          simp only [Act.put, pA, pB, pC]
          go_wp2
          go_roundw
          case rel => exact ⟨J + 1, by omega, rfl, hE0⟩
          case measure => simp [intOf]; omega
        | succ j =>
          have hj : ((j + 1 : Nat) : Int) - 1 = (j : Int) := by omega
          rw [hj]
          clear hj
          have hj8 : j < 8 := by omega
          have hg := nm_get (halfAt A (j + 1)) j hj8
          rw [halfAt_digit] at hg
          have ha : A / 4294967296 ^ j % 4294967296 < 4294967296 := Nat.mod_lt _ (by decide)
          obtain ⟨a, hae⟩ : ∃ a, A / 4294967296 ^ j % 4294967296 = a := ⟨_, rfl⟩
          have hs := halfAt_step HA.out hj8 hae hu.out.symm
          rw [hae] at hg ha
          have Hg := Lib.hid hg
          have hu2 : u < 2 := hu.out ▸ Nat.mod_lt _ (by decide)
          have hd := hs.2.1
          have Hs := Lib.hid hs
          have hh8 := nm_len (halfAt A (j + 1))
          obtain ⟨X, hXe⟩ : ∃ X, digs 4294967296 8 (halfAt A (j + 1)) = X := ⟨_, rfl⟩
          rw [hXe] at hE0 Hs hh8 Hg
          clear hg hae hs hu hXe
          repeat ((fail_if_success with_reducible show wA ..); (fail_if_success with_reducible show wB ..); go_step)
          refine wv (v_moveT (.inl rfl) rfl) ?_
          simp only [Act.put, pA, pB, pC]
          refine wv (v_geqI rfl rfl rfl) ?_
          simp only [Act.put, pA, pB, pC]
          repeat ((fail_if_success with_reducible show wA ..); (fail_if_success with_reducible show wB ..); go_step)
          refine wv (v_moveT (.inl rfl) rfl) ?_
          simp only [Act.put, pA, pB, pC]
          refine wv (v_indexA0 rfl rfl rfl Try.underlying43 (by kernel_rfl) (by first | assumption | omega)) ?_
          simp only [Act.put, pA, pB, pC]
          refine wv (v_cell rfl rfl Try.underlying41 rfl (Env.cellv (i := 1) hE0 rfl (ints_get? _ _ _ (by first | assumption | omega | (simp; done) | (simp; omega))))) ?_
          simp only [Act.put, pA, pB, pC]
          rw [Hg.out]
          refine wv (v_rem (n := 2) rfl rfl rfl (by omega)) ?_
          simp only [Act.put, pA, pB, pC]
          refine wv (v_moveT (.inr rfl) rfl) ?_
          simp only [Act.put, pA, pB, pC]
          repeat ((fail_if_success with_reducible show wA ..); (fail_if_success with_reducible show wB ..); go_step)
          refine wv (v_moveT (.inl rfl) rfl) ?_
          simp only [Act.put, pA, pB, pC]
          refine wv (v_moveT (.inl rfl) rfl) ?_
          simp only [Act.put, pA, pB, pC]
          refine wv (v_indexA0 rfl rfl rfl Try.underlying43 (by kernel_rfl) (by first | assumption | omega)) ?_
          simp only [Act.put, pA, pB, pC]
          refine wv (v_cell rfl rfl Try.underlying41 rfl (Env.cellv (i := 1) hE0 rfl (ints_get? _ _ _ (by first | assumption | omega | (simp; done) | (simp; omega))))) ?_
          simp only [Act.put, pA, pB, pC]
          rw [Hg.out]
          refine wv (v_quo (n := 2) rfl rfl rfl (by omega) (by first | exact w_uns rfl (by simp only [IntKind.bits]; omega) | rfl)) ?_
          simp only [Act.put, pA, pB, pC]
          refine wv (v_moveT (.inl rfl) rfl) ?_
          simp only [Act.put, pA, pB, pC]
          refine wv (v_shlC (s := 31) (d := 2147483648) rfl rfl rfl (by decide) (by decide) (by first | exact w_uns rfl (by simp only [IntKind.bits]; omega) | rfl)) ?_
          simp only [Act.put, pA, pB, pC]
          refine wv (v_add rfl rfl rfl (by first | exact w_uns rfl (by simp only [IntKind.bits]; omega) | rfl)) ?_
          simp only [Act.put, pA, pB, pC]
          refine wv (v_indexA0 rfl rfl rfl Try.underlying43 (by kernel_rfl) (by first | assumption | omega)) ?_
          simp only [Act.put, pA, pB, pC]
          refine wl_step (st_putN (i := 1) hE0 rfl rfl rfl rfl rfl (by kernel_rfl) (by first | assumption | omega | (simp only [List.length_set, List.length_replicate]; first | assumption | omega)) ?_)
          intro w1 hE1
          clear hE0
          simp only [pB, pC] at hE1
          simp only [Act.put, pA, pB, pC]
          repeat ((fail_if_success with_reducible show wA ..); (fail_if_success with_reducible show wB ..); go_step)
          refine wv (v_moveT (.inl rfl) rfl) ?_
          simp only [Act.put, pA, pB, pC]
          refine wv (v_moveT (.inr rfl) rfl) ?_
          simp only [Act.put, pA, pB, pC]
          repeat ((fail_if_success with_reducible show wA ..); (fail_if_success with_reducible show wB ..); go_step)
          refine wv (v_moveT (.inl rfl) rfl) ?_
          simp only [Act.put, pA, pB, pC]
          refine wv (v_sub (n := 1) rfl rfl rfl (by first | exact w_i64s (by omega) (by omega) | exact w_i64I (by omega) (by omega))) ?_
          simp only [Act.put, pA, pB, pC]
          refine wv (v_moveT (.inr rfl) rfl) ?_
          simp only [Act.put, pA, pB, pC]
          go_wp2
          go_roundw
          case rel => exact ⟨j, _, by omega, rfl, rfl, Lib.hid Hs.out.2.2.symm, by rw [← Hs.out.1]; exact hE1⟩
          case measure => simp [intOf]
    · have hJ' : J = k := by omega
      subst hJ'
      have hl8 := nm_len (n / 2 ^ J)
      repeat ((fail_if_success with_reducible show wA ..); (fail_if_success with_reducible show wB ..); go_step)
      refine wv (v_moveT (.inl rfl) rfl) ?_
      simp only [Act.put, pA, pB, pC]
      refine wv (v_moveT (.inl rfl) rfl) ?_
      simp only [Act.put, pA, pB, pC]
      refine wv (v_lss rfl rfl rfl) ?_
      simp only [Act.put, pA, pB, pC]
      repeat ((fail_if_success with_reducible show wA ..); (fail_if_success with_reducible show wB ..); go_step)
      refine wv (v_load (i := 1) hE0 rfl rfl rfl Try.underlying43 rfl (szA (n := 8))) ?_
      simp only [Act.put, pA, pB, pC]
      refine wl_step (st_store (i := 0) hE0 rfl rfl rfl rfl rfl (szA (n := 8)) (by first | (simp only [ints_size, digs_length, List.length_replicate, List.length_cons, List.length_nil]; done) | (simp only [ints_size, digs_length, List.length_replicate, List.length_cons, List.length_nil, List.length_set, List.length_append]; omega) | rfl) (by first | exact ints_one _ _ | decide | simp [*]) ?_)
      intro w1 hE1
      clear hE0
      simp only [pB, pC] at hE1
      simp only [Act.put, pA, pB, pC]
      repeat ((fail_if_success with_reducible show wA ..); (fail_if_success with_reducible show wB ..); go_step)
      refine bodyPost_ret (results_cell_row rfl _ _ _ _ _ (0, 0) _ rfl (hE1.get (i := 0) rfl) Try.underlying43 rfl (szA (n := 8))) rfl ⟨rfl, hE1.below⟩
end Go.Proofs.Ytmebjoehmheknaa
