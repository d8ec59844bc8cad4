/-
  Layer 6, the document's answer: the point of bytes, the base.
  Two results that lie in memory.
  Layer 6: the document's points by their digits; both multiples of the base; the sum of points.
  Layer 5: whether bytes are below the order.
  Layer 5, the document's answer: digits of bytes; a digit, 0 beyond the last one.
  Layer 5, the document's answer: a digit of a number, 0 beyond the last one; which of two numbers is less.
  Layer 5, the document's answer: the digits of the order.
  Layer 5, the document's answer: the bytes of digits.
-/
import Derived.Test.YthddoelflmoedaaGreatJ06
import Derived.Test.YthddoelflmoedaaGreatJ11
import Derived.Test.YthddoelflmoedaaGreatJ12
import Derived.Test.YthddoelflmoedaaGreatJ16
import Derived.Test.YthddoelflmoedaaGreatJ18
import Derived.Test.YthddoelflmoedaaGreatJ20
import Derived.Test.YthddoelflmoedaaGreatJ32
set_option linter.unusedVariables false
set_option linter.unusedSimpArgs false
namespace Go.Proofs.YthddoelflmoedaaGreat
open Go.RowKit
set_option maxRecDepth 100000

theorem one_pN : 1 < pN := by decide
theorem one_big (m : Nat) : m % pN + 1 < big8 := by
 have h1 := Nat.mod_lt m pos_pN
 have h2 : pN + 1 < big8 := by decide
 omega
theorem xOf_R {V Y o : Nat} {P : Pt} (hY : Y < pN) (hPy : P.y = kk pN Y) (hPx : P.x = kk pN (xOf Y o)) : R3 (xOf Y o, Y, 1) P :=
 ⟨xOf_lt Y o, hY, one_pN, by show kk pN 1 ≠ 0; rw [kk_one]; exact one_ne, by show kk pN (xOf Y o) = P.x * kk pN 1; rw [hPx, kk_one]; exact (f_mul_one _).symm, by show kk pN Y = P.y * kk pN 1; rw [hPy, kk_one]; exact (f_mul_one _).symm⟩

set_option maxRecDepth 100000 in
set_option maxHeartbeats 16000000 in
theorem rPDecode_walk {b : List Nat} (hb : b.length = 32) (db : Digs 256 b) (V : Nat) (hV : val 256 b = V) :
  (∀ P, encN P = V → ∃ r, R3 r P ∧ ∀ w, Gives 14 #[.agg (ints .u8 b)] w (.tuple #[rv r, .bool true])) ∧
  (¬ isPt V → ∀ w, Gives 14 #[.agg (ints .u8 b)] w (.tuple #[rv (0, 1, 1), .bool false])) := by
 obtain ⟨T, ht, hT, lb', db', hv, ho⟩ := strike hb db
 rw [hV] at hv ho
 have hVl : V < 115792089237316195423570985008687907853269984665640564039457584007913129639936 := by
  have := val_lt db
  rw [hb, hV] at this
  exact this
 obtain ⟨b', hbe⟩ : ∃ b', b.set 31 (T % 128) = b' := ⟨_, rfl⟩
 rw [hbe] at lb' db' hv
 have hRw := fun w => Raw_any db' lb' w
 have hOf := fun w => rOf_any db' lb' w
 rw [hv] at hRw hOf
 rw [Nat.mod_mod] at hOf
 obtain ⟨Y, hYe⟩ : ∃ Y, V % 57896044618658097711785492504343953926634992332820282019728792003956564819968 = Y := ⟨_, rfl⟩
 obtain ⟨o, hoe⟩ : ∃ o, V / 57896044618658097711785492504343953926634992332820282019728792003956564819968 = o := ⟨_, rfl⟩
 have hpt : isPt V ↔ Y < pN ∧ (rootN (uN Y) (vN Y)).2 = true ∧ ¬ (o = 1 ∧ (rootN (uN Y) (vN Y)).1 = 0) := by
  unfold isPt
  rw [hYe, hoe]
 have hyes : ∀ P, encN P = V → isPt V ∧ P.y = kk pN Y ∧ P.x = kk pN (xOf Y o) := fun P hP => by
  have hi : isPt V := hP ▸ of_pt P
  obtain ⟨P', h1, h2, h3⟩ := pt_of hVl hi
  obtain rfl : P' = P := encN_inj (h1.trans hP.symm)
  rw [hYe] at h2 h3
  rw [hoe] at h3
  exact ⟨hi, by rw [← h2]; exact kk_all _, by rw [← h3]; exact kk_all _⟩
 rw [hpt] at hyes ⊢
 rw [hYe] at hRw hOf
 rw [hoe] at ho
 have hY8 : Y < big8 := hYe ▸ Nat.lt_trans (Nat.mod_lt _ (by decide)) (by decide)
 have hL := fun w => Less_any hY8 pN_lt w
 have hord : decide (128 ≤ T) = decide (o = 1) := decide_eq_decide.2 (by omega)
 have Ht := Lib.hid ht
 have Hbe := Lib.hid hbe
 have HRw := Lib.hid hRw
 have HP := Lib.hid (fun w => P_any w)
 have HZ := Lib.hid (fun w => rZero_any w)
 have H1 := Lib.hid (fun w => rSmall_any (n := 1) (by decide) w)
 have Hyes := Lib.hid hyes
 have Hod := Lib.hid hord
 have nY := nm_len Y
 have n1 := nm_len 1
 have lz := rpL_len 0 1 1
 clear ht hbe hRw hyes hord ho hv hpt hYe hoe db db' hV hVl
 by_cases hY : Y < pN
 ·have hOw := hOf
  rw [Nat.mod_eq_of_lt hY] at hOw
  have HO := Lib.hid hOw
  have hLw := hL
  rw [decide_eq_true hY] at hLw
  have HL := Lib.hid hLw
  have cM := fun w => rMul_any hY8 hY8 w
  have cS := fun w => rSub_any (m := Y * Y % pN) (n := 1) (Nat.mod_lt _ pos_pN) (by decide) w
  have eU : (Y * Y % pN + (pN - 1)) % pN = uN Y := rfl
  rw [eU] at cS
  have cD := fun w => rMul_any (m := dN) (n := Y * Y % pN) (by decide) (mod_big _) w
  have cA := fun w => rAdd_any (m := dN * (Y * Y % pN) % pN) (n := 1) (mod_big _) (by decide) (one_big _) w
  have eV : (dN * (Y * Y % pN) % pN + 1) % pN = vN Y := by
   unfold vN
   rw [Nat.mul_comm dN, Nat.mod_add_mod]
  rw [eV] at cA
  have lu : uN Y < pN := Nat.mod_lt _ pos_pN
  have lv : vN Y < pN := Nat.mod_lt _ pos_pN
  have cR := fun w => rRoot_any lu lv w
  have hl : (rootN (uN Y) (vN Y)).1 < pN := rootN_lt _ _
  have hxo : ∀ {o' : Nat}, xOf Y o' = if o' = 1 then (pN - (rootN (uN Y) (vN Y)).1) % pN else (rootN (uN Y) (vN Y)).1 := rfl
  have cN := fun w => rSub_any (m := 0) (by decide) hl w
  rw [Nat.zero_add] at cN
  have nu := nm_len (uN Y)
  have nv := nm_len (vN Y)
  have hR3 : ∀ P : Pt, P.y = kk pN Y → P.x = kk pN (xOf Y o) → R3 (xOf Y o, Y, 1) P := fun P h1 h2 => xOf_R (V := V) hY h1 h2
  have hl8 := lt_big' hl
  have h08 : 0 < big8 := by decide
  clear hOw hLw eU eV
  obtain ⟨r, hr⟩ : ∃ r, rootN (uN Y) (vN Y) = r := ⟨_, rfl⟩
  rw [hr] at cR Hyes cN hl hl8 ⊢
  obtain ⟨x, ok⟩ := r
  obtain ⟨yy, hyy⟩ : ∃ r, Y * Y % pN = r := ⟨_, rfl⟩
  rw [hyy] at cM cS cD cA
  obtain ⟨dy, hdy⟩ : ∃ r, dN * yy % pN = r := ⟨_, rfl⟩
  rw [hdy] at cD cA
  obtain ⟨u, hu⟩ : ∃ r, uN Y = r := ⟨_, rfl⟩
  obtain ⟨v, hv⟩ : ∃ r, vN Y = r := ⟨_, rfl⟩
  rw [hu] at cS cR nu
  rw [hv] at cA cR nv
  simp only at cR cN hl hl8
  have nyy := nm_len yy
  have nx := nm_len x
  have HxO : o = 1 → xOf Y o = (pN - x) % pN := fun h => by rw [hxo, if_pos h, hr]
  have HxE : ¬ o = 1 → xOf Y o = x := fun h => by rw [hxo, if_neg h, hr]
  have HR3 := Lib.hid hR3
  have HM := Lib.hid cM
  clear cM
  have HS := Lib.hid cS
  clear cS
  have HD := Lib.hid cD
  clear cD
  have HA := Lib.hid cA
  clear cA
  have HR := Lib.hid cR
  clear cR
  have HN := Lib.hid cN
  clear cN
  have HxO' := Lib.hid HxO
  have HxE' := Lib.hid HxE
  clear hxo hyy hdy hu hv HxO HxE hR3 lu lv hr hL hOf
  obtain ⟨NX, hNX⟩ : ∃ r, (pN - x) % pN = r := ⟨_, rfl⟩
  rw [hNX] at HN HxO'
  have nNX := nm_len NX
  have HDD := Lib.hid (fun w => rD_any w)
  clear hNX
  cases ok with
  | false =>
   refine ⟨fun P hP => absurd (show false = true from (Hyes.out P hP).1.2.1) (by decide), fun _ w => ?_⟩
   clear Hyes HR3 hY
   have hE0 := Env.nil w
   go_enter Tryz.func14, Tryz.ntmps14
   repeat ((fail_if_success refine sqx ?_); go_step)
   refine wl_step (st_boxA hE0 rfl rfl rfl ?_)
   intro g0 w1 hb1 hE1
   clear hE0
   simp only [qZ]
   refine wl_step (sqA (ints .u32 (List.replicate 24 0)) hE1 ?_)
   intro g1 w2 hb2 hE2
   clear hE1
   simp only [qZ]
   refine mqC ?_
   repeat ((fail_if_success refine sqx ?_); go_step)
   refine wqv (vqI (j := 31) Tryz.underlying22) ?_
   refine wqv (vqC 1 hE2 Tryz.underlying5) ?_
   rw [Ht.out]
   refine wqv (v_geq (n := 128) rfl rfl rfl) ?_
   rw [Hod.out]
   refine mqB ?_
   repeat ((fail_if_success refine sqx ?_); go_step)
   refine wqv (vqI (j := 31) Tryz.underlying22) ?_
   refine wqv (vqC 1 hE2 Tryz.underlying5) ?_
   rw [Ht.out]
   refine wqv (v_rem (n := 128) rfl rfl rfl (by omega)) ?_
   refine wqv (vqI (j := 31) Tryz.underlying22) ?_
   refine wl_step (st_putN (i := 1) hE2 rfl rfl rfl rfl rfl (by kernel_rfl) (by first | assumption | omega | (simp only [List.length_set, List.length_replicate]; first | assumption | omega)) ?_)
   intro w3 hE3
   clear hE2
   simp only [qpB, qpC] at hE3
   simp only [qZ]
   rw [Hbe.out] at hE3
   repeat ((fail_if_success refine sqx ?_); go_step)
   refine wqv (vqL 1 32 hE3 Tryz.underlying22) ?_
   refine wl_step (st_gives hE3 rfl (run_call rfl Tryz.call38) (HRw.out _) ?_)
   intro w4 hb4 hE4
   clear hE3
   simp only [qZ]
   refine wl_step (st_gives hE4 rfl (run_call rfl Tryz.call39) (HP.out _) ?_)
   intro w5 hb5 hE5
   clear hE4
   simp only [qZ]
   refine wl_step (st_gives hE5 rfl (run_call rfl Tryz.call37) (HL.out _) ?_)
   intro w6 hb6 hE6
   clear hE5
   simp only [qZ]
   refine wqv (v_not rfl rfl) ?_
   repeat ((fail_if_success refine sqy ?_); go_step)
   refine cqF ?_
   skip
   repeat ((fail_if_success refine sqx ?_); go_step)
   refine wqv (vqL 1 32 hE6 Tryz.underlying22) ?_
   refine wl_step (st_gives hE6 rfl (run_call rfl Tryz.call41) (HO.out _) ?_)
   intro w7 hb7 hE7
   clear hE6
   simp only [qZ]
   refine wl_step (sqA (ints .u32 (List.replicate 8 0)) hE7 ?_)
   intro g2 w8 hb8 hE8
   clear hE7
   simp only [qZ]
   refine wl_step (sqS 0 8 hE8 ?_)
   intro w9 hE9
   clear hE8
   simp only [qpB, qpC] at hE9
   simp only [qZ]
   repeat ((fail_if_success refine sqx ?_); go_step)
   refine wl_step (st_gives hE9 rfl (run_call rfl Tryz.call42) (H1.out _) ?_)
   intro w10 hb10 hE10
   clear hE9
   simp only [qZ]
   refine wl_step (sqA (ints .u32 (List.replicate 8 0)) hE10 ?_)
   intro g3 w11 hb11 hE11
   clear hE10
   simp only [qZ]
   refine wl_step (sqS 0 8 hE11 ?_)
   intro w12 hE12
   clear hE11
   simp only [qpB, qpC] at hE12
   simp only [qZ]
   repeat ((fail_if_success refine sqx ?_); go_step)
   refine wqv (vqL 1 8 hE12 Tryz.underlying41) ?_
   refine wqv (vqL 1 8 hE12 Tryz.underlying41) ?_
   refine wl_step (st_gives hE12 rfl (run_call rfl Tryz.call43) (HM.out _) ?_)
   intro w13 hb13 hE13
   clear hE12
   simp only [qZ]
   refine wl_step (sqA (ints .u32 (List.replicate 8 0)) hE13 ?_)
   intro g4 w14 hb14 hE14
   clear hE13
   simp only [qZ]
   refine wl_step (sqS 0 8 hE14 ?_)
   intro w15 hE15
   clear hE14
   simp only [qpB, qpC] at hE15
   simp only [qZ]
   repeat ((fail_if_success refine sqx ?_); go_step)
   refine wp_region_env 13 (by kernel_rfl) (by kernel_rfl) (fun _ _ d _ _ h => by cases d <;> exact h) hE15 ?_
   refine hqv (fun _ hW => (vqL 0 8 hW Tryz.underlying41)) ?_
   refine hqv (fun _ hW => (vqL 1 8 hW Tryz.underlying41)) ?_
   refine headRun_call (fun w1 => run_call rfl Tryz.call45) (fun w1 hW => HS.out _) ?_
   simp only [qZ]
   refine headRun_call (fun w1 => run_call rfl Tryz.call36) (fun w1 hW => HDD.out _) ?_
   simp only [qZ]
   refine hqv (fun _ hW => (vqL 0 8 hW Tryz.underlying41)) ?_
   refine headRun_call (fun w1 => run_call rfl Tryz.call43) (fun w1 hW => HD.out _) ?_
   simp only [qZ]
   refine hqv (fun _ hW => (vqL 1 8 hW Tryz.underlying41)) ?_
   refine headRun_call (fun w1 => run_call rfl Tryz.call46) (fun w1 hW => HA.out _) ?_
   simp only [qZ]
   refine headRun_call (fun w1 => run_call rfl Tryz.call44) (fun w1 hW => HR.out _) ?_
   simp only [qZ]
   refine hqv (fun _ hW => (v_moveT (.inl rfl) rfl)) ?_
   refine hqv (fun _ hW => (v_extract rfl rfl rfl)) ?_
   refine hqv (fun _ hW => (v_extract rfl rfl rfl)) ?_
   refine headRun_alloc (zs := ints .u32 (List.replicate 8 0)) rfl rfl (fun w => by kernel_rfl) ?_
   simp only [qZ]
   refine headRun_nil (endK1 ?_)
   intro g5 w16 hE16
   clear hE15
   simp only [List.drop_succ_cons, List.drop_zero, Act.put, qpA, qpB, qpC]
   refine wl_step (sqS 0 8 hE16 ?_)
   intro w17 hE17
   clear hE16
   simp only [qpB, qpC] at hE17
   simp only [qZ]
   refine mqB ?_
   repeat ((fail_if_success refine sqx ?_); go_step)
   refine mqA ?_
   refine wqv (v_not rfl rfl) ?_
   refine mqA ?_
   refine wl_step (st_skip rfl ?_)
   simp only [qZ]
   refine wl_step (st_skip rfl ?_)
   simp only [qZ]
   refine wl_step (st_skip rfl ?_)
   simp only [qZ]
   refine wl_step (st_skip rfl ?_)
   simp only [qZ]
   refine wl_step (st_skip rfl ?_)
   simp only [qZ]
   refine wl_step (st_skip rfl ?_)
   simp only [qZ]
   refine wqv (v_orT rfl rfl) ?_
   repeat ((fail_if_success refine sqy ?_); go_step)
   refine cqT ?_
   skip
   repeat ((fail_if_success refine sqx ?_); go_step)
   refine wl_step (st_gives hE17 rfl (run_call rfl Tryz.call40) (HZ.out _) ?_)
   intro w18 hb18 hE18
   clear hE17
   simp only [qZ]
   refine wl_step (sqS 4 24 hE18 ?_)
   intro w19 hE19
   clear hE18
   simp only [qpB, qpC] at hE19
   simp only [qZ]
   refine mqC ?_
   repeat ((fail_if_success refine sqx ?_); go_step)
   refine bodyPost_ret (results_ct rfl _ _ _ _ _ (0, 0) _ rfl (hE19.get (i := 4) rfl) Tryz.underlying43 rfl (szqA (n := 24)) rfl) rfl ⟨rfl, hE19.below⟩
  | true =>
   by_cases ho1 : o = 1
   ·have hod1 := Hod.out
    rw [decide_eq_true ho1] at hod1
    have Hod1 := Lib.hid hod1
    clear hod1
    by_cases hr0 : x = 0
    ·refine ⟨fun P hP => absurd ⟨ho1, hr0⟩ (Hyes.out P hP).1.2.2, fun _ w => ?_⟩
     have Hr0 := Lib.hid (decide_eq_true hr0)
     clear Hyes HR3 hY Hod hr0 ho1
     have hE0 := Env.nil w
     go_enter Tryz.func14, Tryz.ntmps14
     repeat ((fail_if_success refine sqx ?_); go_step)
     refine wl_step (st_boxA hE0 rfl rfl rfl ?_)
     intro g0 w1 hb1 hE1
     clear hE0
     simp only [qZ]
     refine wl_step (sqA (ints .u32 (List.replicate 24 0)) hE1 ?_)
     intro g1 w2 hb2 hE2
     clear hE1
     simp only [qZ]
     refine mqC ?_
     repeat ((fail_if_success refine sqx ?_); go_step)
     refine wqv (vqI (j := 31) Tryz.underlying22) ?_
     refine wqv (vqC 1 hE2 Tryz.underlying5) ?_
     rw [Ht.out]
     refine wqv (v_geq (n := 128) rfl rfl rfl) ?_
     rw [Hod1.out]
     refine mqB ?_
     repeat ((fail_if_success refine sqx ?_); go_step)
     refine wqv (vqI (j := 31) Tryz.underlying22) ?_
     refine wqv (vqC 1 hE2 Tryz.underlying5) ?_
     rw [Ht.out]
     refine wqv (v_rem (n := 128) rfl rfl rfl (by omega)) ?_
     refine wqv (vqI (j := 31) Tryz.underlying22) ?_
     refine wl_step (st_putN (i := 1) hE2 rfl rfl rfl rfl rfl (by kernel_rfl) (by first | assumption | omega | (simp only [List.length_set, List.length_replicate]; first | assumption | omega)) ?_)
     intro w3 hE3
     clear hE2
     simp only [qpB, qpC] at hE3
     simp only [qZ]
     rw [Hbe.out] at hE3
     repeat ((fail_if_success refine sqx ?_); go_step)
     refine wqv (vqL 1 32 hE3 Tryz.underlying22) ?_
     refine wl_step (st_gives hE3 rfl (run_call rfl Tryz.call38) (HRw.out _) ?_)
     intro w4 hb4 hE4
     clear hE3
     simp only [qZ]
     refine wl_step (st_gives hE4 rfl (run_call rfl Tryz.call39) (HP.out _) ?_)
     intro w5 hb5 hE5
     clear hE4
     simp only [qZ]
     refine wl_step (st_gives hE5 rfl (run_call rfl Tryz.call37) (HL.out _) ?_)
     intro w6 hb6 hE6
     clear hE5
     simp only [qZ]
     refine wqv (v_not rfl rfl) ?_
     repeat ((fail_if_success refine sqy ?_); go_step)
     refine cqF ?_
     skip
     repeat ((fail_if_success refine sqx ?_); go_step)
     refine wqv (vqL 1 32 hE6 Tryz.underlying22) ?_
     refine wl_step (st_gives hE6 rfl (run_call rfl Tryz.call41) (HO.out _) ?_)
     intro w7 hb7 hE7
     clear hE6
     simp only [qZ]
     refine wl_step (sqA (ints .u32 (List.replicate 8 0)) hE7 ?_)
     intro g2 w8 hb8 hE8
     clear hE7
     simp only [qZ]
     refine wl_step (sqS 0 8 hE8 ?_)
     intro w9 hE9
     clear hE8
     simp only [qpB, qpC] at hE9
     simp only [qZ]
     repeat ((fail_if_success refine sqx ?_); go_step)
     refine wl_step (st_gives hE9 rfl (run_call rfl Tryz.call42) (H1.out _) ?_)
     intro w10 hb10 hE10
     clear hE9
     simp only [qZ]
     refine wl_step (sqA (ints .u32 (List.replicate 8 0)) hE10 ?_)
     intro g3 w11 hb11 hE11
     clear hE10
     simp only [qZ]
     refine wl_step (sqS 0 8 hE11 ?_)
     intro w12 hE12
     clear hE11
     simp only [qpB, qpC] at hE12
     simp only [qZ]
     repeat ((fail_if_success refine sqx ?_); go_step)
     refine wqv (vqL 1 8 hE12 Tryz.underlying41) ?_
     refine wqv (vqL 1 8 hE12 Tryz.underlying41) ?_
     refine wl_step (st_gives hE12 rfl (run_call rfl Tryz.call43) (HM.out _) ?_)
     intro w13 hb13 hE13
     clear hE12
     simp only [qZ]
     refine wl_step (sqA (ints .u32 (List.replicate 8 0)) hE13 ?_)
     intro g4 w14 hb14 hE14
     clear hE13
     simp only [qZ]
     refine wl_step (sqS 0 8 hE14 ?_)
     intro w15 hE15
     clear hE14
     simp only [qpB, qpC] at hE15
     simp only [qZ]
     repeat ((fail_if_success refine sqx ?_); go_step)
     refine wp_region_env 13 (by kernel_rfl) (by kernel_rfl) (fun _ _ d _ _ h => by cases d <;> exact h) hE15 ?_
     refine hqv (fun _ hW => (vqL 0 8 hW Tryz.underlying41)) ?_
     refine hqv (fun _ hW => (vqL 1 8 hW Tryz.underlying41)) ?_
     refine headRun_call (fun w1 => run_call rfl Tryz.call45) (fun w1 hW => HS.out _) ?_
     simp only [qZ]
     refine headRun_call (fun w1 => run_call rfl Tryz.call36) (fun w1 hW => HDD.out _) ?_
     simp only [qZ]
     refine hqv (fun _ hW => (vqL 0 8 hW Tryz.underlying41)) ?_
     refine headRun_call (fun w1 => run_call rfl Tryz.call43) (fun w1 hW => HD.out _) ?_
     simp only [qZ]
     refine hqv (fun _ hW => (vqL 1 8 hW Tryz.underlying41)) ?_
     refine headRun_call (fun w1 => run_call rfl Tryz.call46) (fun w1 hW => HA.out _) ?_
     simp only [qZ]
     refine headRun_call (fun w1 => run_call rfl Tryz.call44) (fun w1 hW => HR.out _) ?_
     simp only [qZ]
     refine hqv (fun _ hW => (v_moveT (.inl rfl) rfl)) ?_
     refine hqv (fun _ hW => (v_extract rfl rfl rfl)) ?_
     refine hqv (fun _ hW => (v_extract rfl rfl rfl)) ?_
     refine headRun_alloc (zs := ints .u32 (List.replicate 8 0)) rfl rfl (fun w => by kernel_rfl) ?_
     simp only [qZ]
     refine headRun_nil (endK1 ?_)
     intro g5 w16 hE16
     clear hE15
     simp only [List.drop_succ_cons, List.drop_zero, Act.put, qpA, qpB, qpC]
     refine wl_step (sqS 0 8 hE16 ?_)
     intro w17 hE17
     clear hE16
     simp only [qpB, qpC] at hE17
     simp only [qZ]
     refine mqB ?_
     repeat ((fail_if_success refine sqx ?_); go_step)
     refine mqA ?_
     refine wqv (v_not rfl rfl) ?_
     refine mqA ?_
     refine mqA ?_
     refine mqA ?_
     refine wqv (vqL 0 8 hE17 Tryz.underlying41) ?_
     refine wqv (v_built (k := .u32) (l := digs 4294967296 8 0) rfl (fun w => by kernel_rfl)) ?_
     refine wqv (v_eqNum rfl rfl rfl hl8 h08) ?_
     rw [Hr0.out]
     refine wqv (v_and rfl rfl (fun _ => rfl)) ?_
     refine wqv (v_or rfl rfl (fun _ => rfl)) ?_
     repeat ((fail_if_success refine sqy ?_); go_step)
     refine cqT ?_
     skip
     repeat ((fail_if_success refine sqx ?_); go_step)
     refine wl_step (st_gives hE17 rfl (run_call rfl Tryz.call40) (HZ.out _) ?_)
     intro w18 hb18 hE18
     clear hE17
     simp only [qZ]
     refine wl_step (sqS 4 24 hE18 ?_)
     intro w19 hE19
     clear hE18
     simp only [qpB, qpC] at hE19
     simp only [qZ]
     refine mqC ?_
     repeat ((fail_if_success refine sqx ?_); go_step)
     refine bodyPost_ret (results_ct rfl _ _ _ _ _ (0, 0) _ rfl (hE19.get (i := 4) rfl) Tryz.underlying43 rfl (szqA (n := 24)) rfl) rfl ⟨rfl, hE19.below⟩
    ·refine ⟨fun P hP => ?_, fun h => absurd ⟨hY, rfl, fun h' => hr0 h'.2⟩ h⟩
     obtain ⟨_, hPy, hPx⟩ := Hyes.out P hP
     have hr3 := HR3.out P hPy hPx
     rw [HxO'.out ho1] at hr3
     refine ⟨_, hr3, fun w => ?_⟩
     have Hr0 := Lib.hid (decide_eq_false hr0)
     have h8 := rows8 NX Y 1
     have lL := rpL_len NX Y 1
     have hL : [digs 4294967296 8 NX, digs 4294967296 8 Y, digs 4294967296 8 1].flatten = rpL NX Y 1 := rfl
     show Gives _ _ w (.tuple #[.agg (ints .u32 (rpL NX Y 1)), .bool true])
     obtain ⟨L, hLe⟩ : ∃ L, rpL NX Y 1 = L := ⟨_, rfl⟩
     rw [hLe] at lL hL ⊢
     have H8 := Lib.hid h8
     have HLL := Lib.hid hL
     clear Hyes HR3 hY Hod hr0 ho1 hPy hPx hr3 h8 hL hLe
     have hE0 := Env.nil w
     go_enter Tryz.func14, Tryz.ntmps14
     repeat ((fail_if_success refine sqx ?_); go_step)
     refine wl_step (st_boxA hE0 rfl rfl rfl ?_)
     intro g0 w1 hb1 hE1
     clear hE0
     simp only [qZ]
     refine wl_step (sqA (ints .u32 (List.replicate 24 0)) hE1 ?_)
     intro g1 w2 hb2 hE2
     clear hE1
     simp only [qZ]
     refine mqC ?_
     repeat ((fail_if_success refine sqx ?_); go_step)
     refine wqv (vqI (j := 31) Tryz.underlying22) ?_
     refine wqv (vqC 1 hE2 Tryz.underlying5) ?_
     rw [Ht.out]
     refine wqv (v_geq (n := 128) rfl rfl rfl) ?_
     rw [Hod1.out]
     refine mqB ?_
     repeat ((fail_if_success refine sqx ?_); go_step)
     refine wqv (vqI (j := 31) Tryz.underlying22) ?_
     refine wqv (vqC 1 hE2 Tryz.underlying5) ?_
     rw [Ht.out]
     refine wqv (v_rem (n := 128) rfl rfl rfl (by omega)) ?_
     refine wqv (vqI (j := 31) Tryz.underlying22) ?_
     refine wl_step (st_putN (i := 1) hE2 rfl rfl rfl rfl rfl (by kernel_rfl) (by first | assumption | omega | (simp only [List.length_set, List.length_replicate]; first | assumption | omega)) ?_)
     intro w3 hE3
     clear hE2
     simp only [qpB, qpC] at hE3
     simp only [qZ]
     rw [Hbe.out] at hE3
     repeat ((fail_if_success refine sqx ?_); go_step)
     refine wqv (vqL 1 32 hE3 Tryz.underlying22) ?_
     refine wl_step (st_gives hE3 rfl (run_call rfl Tryz.call38) (HRw.out _) ?_)
     intro w4 hb4 hE4
     clear hE3
     simp only [qZ]
     refine wl_step (st_gives hE4 rfl (run_call rfl Tryz.call39) (HP.out _) ?_)
     intro w5 hb5 hE5
     clear hE4
     simp only [qZ]
     refine wl_step (st_gives hE5 rfl (run_call rfl Tryz.call37) (HL.out _) ?_)
     intro w6 hb6 hE6
     clear hE5
     simp only [qZ]
     refine wqv (v_not rfl rfl) ?_
     repeat ((fail_if_success refine sqy ?_); go_step)
     refine cqF ?_
     skip
     repeat ((fail_if_success refine sqx ?_); go_step)
     refine wqv (vqL 1 32 hE6 Tryz.underlying22) ?_
     refine wl_step (st_gives hE6 rfl (run_call rfl Tryz.call41) (HO.out _) ?_)
     intro w7 hb7 hE7
     clear hE6
     simp only [qZ]
     refine wl_step (sqA (ints .u32 (List.replicate 8 0)) hE7 ?_)
     intro g2 w8 hb8 hE8
     clear hE7
     simp only [qZ]
     refine wl_step (sqS 0 8 hE8 ?_)
     intro w9 hE9
     clear hE8
     simp only [qpB, qpC] at hE9
     simp only [qZ]
     repeat ((fail_if_success refine sqx ?_); go_step)
     refine wl_step (st_gives hE9 rfl (run_call rfl Tryz.call42) (H1.out _) ?_)
     intro w10 hb10 hE10
     clear hE9
     simp only [qZ]
     refine wl_step (sqA (ints .u32 (List.replicate 8 0)) hE10 ?_)
     intro g3 w11 hb11 hE11
     clear hE10
     simp only [qZ]
     refine wl_step (sqS 0 8 hE11 ?_)
     intro w12 hE12
     clear hE11
     simp only [qpB, qpC] at hE12
     simp only [qZ]
     repeat ((fail_if_success refine sqx ?_); go_step)
     refine wqv (vqL 1 8 hE12 Tryz.underlying41) ?_
     refine wqv (vqL 1 8 hE12 Tryz.underlying41) ?_
     refine wl_step (st_gives hE12 rfl (run_call rfl Tryz.call43) (HM.out _) ?_)
     intro w13 hb13 hE13
     clear hE12
     simp only [qZ]
     refine wl_step (sqA (ints .u32 (List.replicate 8 0)) hE13 ?_)
     intro g4 w14 hb14 hE14
     clear hE13
     simp only [qZ]
     refine wl_step (sqS 0 8 hE14 ?_)
     intro w15 hE15
     clear hE14
     simp only [qpB, qpC] at hE15
     simp only [qZ]
     repeat ((fail_if_success refine sqx ?_); go_step)
     refine wp_region_env 13 (by kernel_rfl) (by kernel_rfl) (fun _ _ d _ _ h => by cases d <;> exact h) hE15 ?_
     refine hqv (fun _ hW => (vqL 0 8 hW Tryz.underlying41)) ?_
     refine hqv (fun _ hW => (vqL 1 8 hW Tryz.underlying41)) ?_
     refine headRun_call (fun w1 => run_call rfl Tryz.call45) (fun w1 hW => HS.out _) ?_
     simp only [qZ]
     refine headRun_call (fun w1 => run_call rfl Tryz.call36) (fun w1 hW => HDD.out _) ?_
     simp only [qZ]
     refine hqv (fun _ hW => (vqL 0 8 hW Tryz.underlying41)) ?_
     refine headRun_call (fun w1 => run_call rfl Tryz.call43) (fun w1 hW => HD.out _) ?_
     simp only [qZ]
     refine hqv (fun _ hW => (vqL 1 8 hW Tryz.underlying41)) ?_
     refine headRun_call (fun w1 => run_call rfl Tryz.call46) (fun w1 hW => HA.out _) ?_
     simp only [qZ]
     refine headRun_call (fun w1 => run_call rfl Tryz.call44) (fun w1 hW => HR.out _) ?_
     simp only [qZ]
     refine hqv (fun _ hW => (v_moveT (.inl rfl) rfl)) ?_
     refine hqv (fun _ hW => (v_extract rfl rfl rfl)) ?_
     refine hqv (fun _ hW => (v_extract rfl rfl rfl)) ?_
     refine headRun_alloc (zs := ints .u32 (List.replicate 8 0)) rfl rfl (fun w => by kernel_rfl) ?_
     simp only [qZ]
     refine headRun_nil (endK1 ?_)
     intro g5 w16 hE16
     clear hE15
     simp only [List.drop_succ_cons, List.drop_zero, Act.put, qpA, qpB, qpC]
     refine wl_step (sqS 0 8 hE16 ?_)
     intro w17 hE17
     clear hE16
     simp only [qpB, qpC] at hE17
     simp only [qZ]
     refine mqB ?_
     repeat ((fail_if_success refine sqx ?_); go_step)
     refine mqA ?_
     refine wqv (v_not rfl rfl) ?_
     refine mqA ?_
     refine mqA ?_
     refine mqA ?_
     refine wqv (vqL 0 8 hE17 Tryz.underlying41) ?_
     refine wqv (v_built (k := .u32) (l := digs 4294967296 8 0) rfl (fun w => by kernel_rfl)) ?_
     refine wqv (v_eqNum rfl rfl rfl hl8 h08) ?_
     rw [Hr0.out]
     refine wqv (v_and rfl rfl (fun _ => rfl)) ?_
     refine wqv (v_or rfl rfl (fun _ => rfl)) ?_
     repeat ((fail_if_success refine sqy ?_); go_step)
     refine cqF ?_
     skip
     repeat ((fail_if_success refine sqx ?_); go_step)
     refine mqA ?_
     repeat ((fail_if_success refine sqy ?_); go_step)
     refine cqT ?_
     skip
     repeat ((fail_if_success refine sqx ?_); go_step)
     refine wqv (v_built (k := .u32) (l := digs 4294967296 8 0) rfl (fun w => by kernel_rfl)) ?_
     refine wqv (vqL 0 8 hE17 Tryz.underlying41) ?_
     refine wl_step (st_gives hE17 rfl (run_call rfl Tryz.call45) (HN.out _) ?_)
     intro w18 hb18 hE18
     clear hE17
     simp only [qZ]
     refine wl_step (sqS 0 8 hE18 ?_)
     intro w19 hE19
     clear hE18
     simp only [qpB, qpC] at hE19
     simp only [qZ]
     repeat ((fail_if_success refine sqx ?_); go_step)
     refine wqv (vqL 0 8 hE19 Tryz.underlying41) ?_
     refine wqv (vqL 3 8 hE19 Tryz.underlying41) ?_
     refine wqv (vqL 2 8 hE19 Tryz.underlying41) ?_
     refine wqv (v_rpoint [digs 4294967296 8 NX, digs 4294967296 8 Y, digs 4294967296 8 1] HLL.out rfl (by simp only [List.map_cons, List.map_nil, List.zipIdx_cons, List.zipIdx_nil]; rfl) rfl H8.out) ?_
     refine wl_step (sqS 4 24 hE19 ?_)
     intro w20 hE20
     clear hE19
     simp only [qpB, qpC] at hE20
     simp only [qZ]
     refine mqC ?_
     repeat ((fail_if_success refine sqx ?_); go_step)
     refine bodyPost_ret (results_ct rfl _ _ _ _ _ (0, 0) _ rfl (hE20.get (i := 4) rfl) Tryz.underlying43 rfl (szqA (n := 24)) rfl) rfl ⟨rfl, hE20.below⟩
   ·have hod1 := Hod.out
    rw [decide_eq_false ho1] at hod1
    have Hod1 := Lib.hid hod1
    clear hod1
    refine ⟨fun P hP => ?_, fun h => absurd ⟨hY, rfl, fun h' => ho1 h'.1⟩ h⟩
    obtain ⟨_, hPy, hPx⟩ := Hyes.out P hP
    have hr3 := HR3.out P hPy hPx
    rw [HxE'.out ho1] at hr3
    refine ⟨_, hr3, fun w => ?_⟩
    have h8 := rows8 x Y 1
    have lL := rpL_len x Y 1
    have hL : [digs 4294967296 8 x, digs 4294967296 8 Y, digs 4294967296 8 1].flatten = rpL x Y 1 := rfl
    show Gives _ _ w (.tuple #[.agg (ints .u32 (rpL x Y 1)), .bool true])
    obtain ⟨L, hLe⟩ : ∃ L, rpL x Y 1 = L := ⟨_, rfl⟩
    rw [hLe] at lL hL ⊢
    have H8 := Lib.hid h8
    have HLL := Lib.hid hL
    clear Hyes HR3 hY Hod ho1 hPy hPx hr3 h8 hL hLe
    have hE0 := Env.nil w
    go_enter Tryz.func14, Tryz.ntmps14
    repeat ((fail_if_success refine sqx ?_); go_step)
    refine wl_step (st_boxA hE0 rfl rfl rfl ?_)
    intro g0 w1 hb1 hE1
    clear hE0
    simp only [qZ]
    refine wl_step (sqA (ints .u32 (List.replicate 24 0)) hE1 ?_)
    intro g1 w2 hb2 hE2
    clear hE1
    simp only [qZ]
    refine mqC ?_
    repeat ((fail_if_success refine sqx ?_); go_step)
    refine wqv (vqI (j := 31) Tryz.underlying22) ?_
    refine wqv (vqC 1 hE2 Tryz.underlying5) ?_
    rw [Ht.out]
    refine wqv (v_geq (n := 128) rfl rfl rfl) ?_
    rw [Hod1.out]
    refine mqB ?_
    repeat ((fail_if_success refine sqx ?_); go_step)
    refine wqv (vqI (j := 31) Tryz.underlying22) ?_
    refine wqv (vqC 1 hE2 Tryz.underlying5) ?_
    rw [Ht.out]
    refine wqv (v_rem (n := 128) rfl rfl rfl (by omega)) ?_
    refine wqv (vqI (j := 31) Tryz.underlying22) ?_
    refine wl_step (st_putN (i := 1) hE2 rfl rfl rfl rfl rfl (by kernel_rfl) (by first | assumption | omega | (simp only [List.length_set, List.length_replicate]; first | assumption | omega)) ?_)
    intro w3 hE3
    clear hE2
    simp only [qpB, qpC] at hE3
    simp only [qZ]
    rw [Hbe.out] at hE3
    repeat ((fail_if_success refine sqx ?_); go_step)
    refine wqv (vqL 1 32 hE3 Tryz.underlying22) ?_
    refine wl_step (st_gives hE3 rfl (run_call rfl Tryz.call38) (HRw.out _) ?_)
    intro w4 hb4 hE4
    clear hE3
    simp only [qZ]
    refine wl_step (st_gives hE4 rfl (run_call rfl Tryz.call39) (HP.out _) ?_)
    intro w5 hb5 hE5
    clear hE4
    simp only [qZ]
    refine wl_step (st_gives hE5 rfl (run_call rfl Tryz.call37) (HL.out _) ?_)
    intro w6 hb6 hE6
    clear hE5
    simp only [qZ]
    refine wqv (v_not rfl rfl) ?_
    repeat ((fail_if_success refine sqy ?_); go_step)
    refine cqF ?_
    skip
    repeat ((fail_if_success refine sqx ?_); go_step)
    refine wqv (vqL 1 32 hE6 Tryz.underlying22) ?_
    refine wl_step (st_gives hE6 rfl (run_call rfl Tryz.call41) (HO.out _) ?_)
    intro w7 hb7 hE7
    clear hE6
    simp only [qZ]
    refine wl_step (sqA (ints .u32 (List.replicate 8 0)) hE7 ?_)
    intro g2 w8 hb8 hE8
    clear hE7
    simp only [qZ]
    refine wl_step (sqS 0 8 hE8 ?_)
    intro w9 hE9
    clear hE8
    simp only [qpB, qpC] at hE9
    simp only [qZ]
    repeat ((fail_if_success refine sqx ?_); go_step)
    refine wl_step (st_gives hE9 rfl (run_call rfl Tryz.call42) (H1.out _) ?_)
    intro w10 hb10 hE10
    clear hE9
    simp only [qZ]
    refine wl_step (sqA (ints .u32 (List.replicate 8 0)) hE10 ?_)
    intro g3 w11 hb11 hE11
    clear hE10
    simp only [qZ]
    refine wl_step (sqS 0 8 hE11 ?_)
    intro w12 hE12
    clear hE11
    simp only [qpB, qpC] at hE12
    simp only [qZ]
    repeat ((fail_if_success refine sqx ?_); go_step)
    refine wqv (vqL 1 8 hE12 Tryz.underlying41) ?_
    refine wqv (vqL 1 8 hE12 Tryz.underlying41) ?_
    refine wl_step (st_gives hE12 rfl (run_call rfl Tryz.call43) (HM.out _) ?_)
    intro w13 hb13 hE13
    clear hE12
    simp only [qZ]
    refine wl_step (sqA (ints .u32 (List.replicate 8 0)) hE13 ?_)
    intro g4 w14 hb14 hE14
    clear hE13
    simp only [qZ]
    refine wl_step (sqS 0 8 hE14 ?_)
    intro w15 hE15
    clear hE14
    simp only [qpB, qpC] at hE15
    simp only [qZ]
    repeat ((fail_if_success refine sqx ?_); go_step)
    refine wp_region_env 13 (by kernel_rfl) (by kernel_rfl) (fun _ _ d _ _ h => by cases d <;> exact h) hE15 ?_
    refine hqv (fun _ hW => (vqL 0 8 hW Tryz.underlying41)) ?_
    refine hqv (fun _ hW => (vqL 1 8 hW Tryz.underlying41)) ?_
    refine headRun_call (fun w1 => run_call rfl Tryz.call45) (fun w1 hW => HS.out _) ?_
    simp only [qZ]
    refine headRun_call (fun w1 => run_call rfl Tryz.call36) (fun w1 hW => HDD.out _) ?_
    simp only [qZ]
    refine hqv (fun _ hW => (vqL 0 8 hW Tryz.underlying41)) ?_
    refine headRun_call (fun w1 => run_call rfl Tryz.call43) (fun w1 hW => HD.out _) ?_
    simp only [qZ]
    refine hqv (fun _ hW => (vqL 1 8 hW Tryz.underlying41)) ?_
    refine headRun_call (fun w1 => run_call rfl Tryz.call46) (fun w1 hW => HA.out _) ?_
    simp only [qZ]
    refine headRun_call (fun w1 => run_call rfl Tryz.call44) (fun w1 hW => HR.out _) ?_
    simp only [qZ]
    refine hqv (fun _ hW => (v_moveT (.inl rfl) rfl)) ?_
    refine hqv (fun _ hW => (v_extract rfl rfl rfl)) ?_
    refine hqv (fun _ hW => (v_extract rfl rfl rfl)) ?_
    refine headRun_alloc (zs := ints .u32 (List.replicate 8 0)) rfl rfl (fun w => by kernel_rfl) ?_
    simp only [qZ]
    refine headRun_nil (endK1 ?_)
    intro g5 w16 hE16
    clear hE15
    simp only [List.drop_succ_cons, List.drop_zero, Act.put, qpA, qpB, qpC]
    refine wl_step (sqS 0 8 hE16 ?_)
    intro w17 hE17
    clear hE16
    simp only [qpB, qpC] at hE17
    simp only [qZ]
    refine mqB ?_
    repeat ((fail_if_success refine sqx ?_); go_step)
    refine mqA ?_
    refine wqv (v_not rfl rfl) ?_
    refine mqA ?_
    refine mqA ?_
    refine mqA ?_
    refine wl_step (st_skip rfl ?_)
    simp only [qZ]
    refine wl_step (st_skip rfl ?_)
    simp only [qZ]
    refine wl_step (st_skip rfl ?_)
    simp only [qZ]
    refine wqv (v_andF rfl rfl) ?_
    refine wqv (v_or rfl rfl (fun _ => rfl)) ?_
    repeat ((fail_if_success refine sqy ?_); go_step)
    refine cqF ?_
    skip
    repeat ((fail_if_success refine sqx ?_); go_step)
    refine mqA ?_
    repeat ((fail_if_success refine sqy ?_); go_step)
    refine cqF ?_
    skip
    repeat ((fail_if_success refine sqx ?_); go_step)
    refine wqv (vqL 0 8 hE17 Tryz.underlying41) ?_
    refine wqv (vqL 3 8 hE17 Tryz.underlying41) ?_
    refine wqv (vqL 2 8 hE17 Tryz.underlying41) ?_
    refine wqv (v_rpoint [digs 4294967296 8 x, digs 4294967296 8 Y, digs 4294967296 8 1] HLL.out rfl (by simp only [List.map_cons, List.map_nil, List.zipIdx_cons, List.zipIdx_nil]; rfl) rfl H8.out) ?_
    refine wl_step (sqS 4 24 hE17 ?_)
    intro w18 hE18
    clear hE17
    simp only [qpB, qpC] at hE18
    simp only [qZ]
    refine mqC ?_
    repeat ((fail_if_success refine sqx ?_); go_step)
    refine bodyPost_ret (results_ct rfl _ _ _ _ _ (0, 0) _ rfl (hE18.get (i := 4) rfl) Tryz.underlying43 rfl (szqA (n := 24)) rfl) rfl ⟨rfl, hE18.below⟩
 ·refine ⟨fun P hP => absurd (Hyes.out P hP).1.1 hY, fun _ w => ?_⟩
  rw [decide_eq_false hY] at hL
  have HL := Lib.hid hL
  clear hL hOf Hyes hY
  have hE0 := Env.nil w
  go_enter Tryz.func14, Tryz.ntmps14
  repeat ((fail_if_success refine sqx ?_); go_step)
  refine wl_step (st_boxA hE0 rfl rfl rfl ?_)
  intro g0 w1 hb1 hE1
  clear hE0
  simp only [qZ]
  refine wl_step (sqA (ints .u32 (List.replicate 24 0)) hE1 ?_)
  intro g1 w2 hb2 hE2
  clear hE1
  simp only [qZ]
  refine mqC ?_
  repeat ((fail_if_success refine sqx ?_); go_step)
  refine wqv (vqI (j := 31) Tryz.underlying22) ?_
  refine wqv (vqC 1 hE2 Tryz.underlying5) ?_
  rw [Ht.out]
  refine wqv (v_geq (n := 128) rfl rfl rfl) ?_
  rw [Hod.out]
  refine mqB ?_
  repeat ((fail_if_success refine sqx ?_); go_step)
  refine wqv (vqI (j := 31) Tryz.underlying22) ?_
  refine wqv (vqC 1 hE2 Tryz.underlying5) ?_
  rw [Ht.out]
  refine wqv (v_rem (n := 128) rfl rfl rfl (by omega)) ?_
  refine wqv (vqI (j := 31) Tryz.underlying22) ?_
  refine wl_step (st_putN (i := 1) hE2 rfl rfl rfl rfl rfl (by kernel_rfl) (by first | assumption | omega | (simp only [List.length_set, List.length_replicate]; first | assumption | omega)) ?_)
  intro w3 hE3
  clear hE2
  simp only [qpB, qpC] at hE3
  simp only [qZ]
  rw [Hbe.out] at hE3
  repeat ((fail_if_success refine sqx ?_); go_step)
  refine wqv (vqL 1 32 hE3 Tryz.underlying22) ?_
  refine wl_step (st_gives hE3 rfl (run_call rfl Tryz.call38) (HRw.out _) ?_)
  intro w4 hb4 hE4
  clear hE3
  simp only [qZ]
  refine wl_step (st_gives hE4 rfl (run_call rfl Tryz.call39) (HP.out _) ?_)
  intro w5 hb5 hE5
  clear hE4
  simp only [qZ]
  refine wl_step (st_gives hE5 rfl (run_call rfl Tryz.call37) (HL.out _) ?_)
  intro w6 hb6 hE6
  clear hE5
  simp only [qZ]
  refine wqv (v_not rfl rfl) ?_
  repeat ((fail_if_success refine sqy ?_); go_step)
  refine cqT ?_
  skip
  repeat ((fail_if_success refine sqx ?_); go_step)
  refine wl_step (st_gives hE6 rfl (run_call rfl Tryz.call40) (HZ.out _) ?_)
  intro w7 hb7 hE7
  clear hE6
  simp only [qZ]
  refine wl_step (sqS 0 24 hE7 ?_)
  intro w8 hE8
  clear hE7
  simp only [qpB, qpC] at hE8
  simp only [qZ]
  refine mqC ?_
  repeat ((fail_if_success refine sqx ?_); go_step)
  refine bodyPost_ret (results_ct rfl _ _ _ _ _ (0, 0) _ rfl (hE8.get (i := 0) rfl) Tryz.underlying43 rfl (szqA (n := 24)) rfl) rfl ⟨rfl, hE8.below⟩
theorem rPDecode_yes {b : List Nat} {P : Pt} (hb : b.length = 32) (db : Digs 256 b) (hP : encN P = val 256 b) : ∃ r, R3 r P ∧ ∀ w, Gives 14 #[.agg (ints .u8 b)] w (.tuple #[rv r, .bool true]) := (rPDecode_walk hb db _ rfl).1 P hP
theorem rPDecode_no {b : List Nat} (hb : b.length = 32) (db : Digs 256 b) (h : ¬ isPt (val 256 b)) (w : World) : Gives 14 #[.agg (ints .u8 b)] w (.tuple #[rv (0, 1, 1), .bool false]) := (rPDecode_walk hb db _ rfl).2 h w

theorem base_run : 4 * (5 ^ (pN - 2) % pN) % pN = bY := by
 rw [← powM_eq pN 255 5 (pN - 2) (of_decide_eq_true (by kernel_rfl))]
 kernel_rfl
set_option maxHeartbeats 4000000 in
theorem rPBase_any : ∃ r, R3 r baseP ∧ ∀ w, Gives 23 #[] w (rv r) := by
 have hbv : val 256 (digs 256 32 bY) = bY := by
  rw [val_digs]
  exact Nat.mod_eq_of_lt (of_decide_eq_true (by kernel_rfl))
 obtain ⟨r, hr, Gr⟩ := rPDecode_yes (b := digs 256 32 bY) (P := baseP) (digs_length _ _ _) (digs_Digs (by decide) _ _) (by rw [hbv, encN_base])
 refine ⟨r, hr, fun w => ?_⟩
 have c1 := fun w => rSmall_any (n := 4) (by decide) w
 have c2 := fun w => rSmall_any (n := 5) (by decide) w
 have c3 := fun w => rInvert_any (x := 5) (by decide) w
 have c4 := fun w => rMul_any (m := 4) (n := 5 ^ (pN - 2) % pN) (by decide) (mod_big _) w
 rw [base_run] at c4
 have c5 := fun w => rBytes_any (lt_big' bY_lt) w
 obtain ⟨A, hA⟩ : ∃ A, 5 ^ (pN - 2) % pN = A := ⟨_, rfl⟩
 rw [hA] at c3 c4
 obtain ⟨r1, r2, r3⟩ := r
 have lr := rpL_len r1 r2 r3
 have c6 : ∀ w, Gives 14 #[.agg (ints .u8 (digs 256 32 bY))] w (.tuple #[.agg (ints .u32 (rpL r1 r2 r3)), .bool true]) := Gr
 show Gives _ _ w (.agg (ints .u32 (rpL r1 r2 r3)))
 obtain ⟨L, hL⟩ : ∃ L, rpL r1 r2 r3 = L := ⟨_, rfl⟩
 rw [hL] at lr c6 ⊢
 have n1 := nm_len bY
 have C1 := Lib.hid c1
 clear c1
 have C2 := Lib.hid c2
 clear c2
 have C3 := Lib.hid c3
 clear c3
 have C4 := Lib.hid c4
 clear c4
 have C5 := Lib.hid c5
 clear c5
 have C6 := Lib.hid c6
 clear c6
 clear hA hr Gr hL hbv
 have hE0 := Env.nil w
 go_enter Tryz.func23, Tryz.ntmps23
 repeat ((fail_if_success refine sqx ?_); go_step)
 refine wl_step (sqA (ints .u32 (List.replicate 24 0)) hE0 ?_)
 intro g0 w1 hb1 hE1
 clear hE0
 simp only [qZ]
 repeat ((fail_if_success refine sqx ?_); go_step)
 refine wl_step (st_gives hE1 rfl (run_call rfl Tryz.call42) (C1.out _) ?_)
 intro w2 hb2 hE2
 clear hE1
 simp only [qZ]
 refine wl_step (st_gives hE2 rfl (run_call rfl Tryz.call42) (C2.out _) ?_)
 intro w3 hb3 hE3
 clear hE2
 simp only [qZ]
 refine wl_step (st_gives hE3 rfl (run_call rfl Tryz.call59) (C3.out _) ?_)
 intro w4 hb4 hE4
 clear hE3
 simp only [qZ]
 refine wl_step (st_gives hE4 rfl (run_call rfl Tryz.call43) (C4.out _) ?_)
 intro w5 hb5 hE5
 clear hE4
 simp only [qZ]
 refine wl_step (sqA (ints .u32 (List.replicate 8 0)) hE5 ?_)
 intro g1 w6 hb6 hE6
 clear hE5
 simp only [qZ]
 refine wl_step (sqS 0 8 hE6 ?_)
 intro w7 hE7
 clear hE6
 simp only [qpB, qpC] at hE7
 simp only [qZ]
 repeat ((fail_if_success refine sqx ?_); go_step)
 refine wqv (vqL 0 8 hE7 Tryz.underlying41) ?_
 refine wl_step (st_gives hE7 rfl (run_call rfl Tryz.call60) (C5.out _) ?_)
 intro w8 hb8 hE8
 clear hE7
 simp only [qZ]
 refine wl_step (st_gives hE8 rfl (run_call rfl Tryz.call14) (C6.out _) ?_)
 intro w9 hb9 hE9
 clear hE8
 simp only [qZ]
 refine mqA ?_
 refine wqv (v_extract rfl rfl rfl) ?_
 refine wqv (v_extract rfl rfl rfl) ?_
 refine wl_step (sqA (ints .u32 (List.replicate 24 0)) hE9 ?_)
 intro g2 w10 hb10 hE10
 clear hE9
 simp only [qZ]
 refine wl_step (sqS 0 24 hE10 ?_)
 intro w11 hE11
 clear hE10
 simp only [qpB, qpC] at hE11
 simp only [qZ]
 refine mqB ?_
 repeat ((fail_if_success refine sqx ?_); go_step)
 refine wqv (vqL 0 24 hE11 Tryz.underlying43) ?_
 refine wl_step (sqS 2 24 hE11 ?_)
 intro w12 hE12
 clear hE11
 simp only [qpB, qpC] at hE12
 simp only [qZ]
 repeat ((fail_if_success refine sqx ?_); go_step)
 refine bodyPost_ret (results_cell_row rfl _ _ _ _ _ (0, 0) _ rfl (hE12.get (i := 2) rfl) Tryz.underlying43 rfl (szqA (n := 24))) rfl ⟨rfl, hE12.below⟩
end Go.Proofs.YthddoelflmoedaaGreat
namespace Go.Proofs.YthddoelflmoedaaGreat
open Go.RowKit
set_option maxRecDepth 100000

theorem results_cc {P : Program} {fn : Func} {p s : Tmp} {ty ty' : TypeId} (h : fn.results = #[.cell p ty, .cell s ty']) (tmps : Array Value) (w : World) (g g' : Nat) (t t' : TypeId) (cs cs' : Array Value) (fr fr' : Nat × Nat) (d d' : TypeDesc)
  (hp : tmps.getD p undef = .pointer (some ⟨g, 0, none⟩)) (hg : w.heap[g]? = some (.cells cs t fr))
  (hu : P.underlying ty = some d) (hd : (match d with | .struct _ | .array _ _ => true | _ => false) = true) (hi : (P.info? ty).map (·.size) = some cs.size)
  (hp' : tmps.getD s undef = .pointer (some ⟨g', 0, none⟩)) (hg' : w.heap[g']? = some (.cells cs' t' fr'))
  (hu' : P.underlying ty' = some d') (hd' : (match d' with | .struct _ | .array _ _ => true | _ => false) = true) (hi' : (P.info? ty').map (·.size) = some cs'.size) :
  (results fn tmps).run P w = .ok (.tuple #[.agg cs, .agg cs']) w := by
 have h1 : tmps[p]?.getD undef = .pointer (some ⟨g, 0, none⟩) := by simpa using hp
 have h2 : tmps[s]?.getD undef = .pointer (some ⟨g', 0, none⟩) := by simpa using hp'
 simp [results, h, h1, h2, asAddr, run_loadVar_row w g t ty cs fr d hg hu hd hi, run_loadVar_row w g' t' ty' cs' fr' d' hg' hu' hd' hi']
end Go.Proofs.YthddoelflmoedaaGreat
namespace Go.Proofs.YthddoelflmoedaaGreat
open Go.RowKit
set_option maxRecDepth 100000

theorem f_neg_mul {n : Nat} [NeZero n] (x z : Fin n) : -(x * z) = -x * z := by grobner
def R4 (L : List Nat) (P : Pt) : Prop := ∃ r : P3, L = rpL r.1 r.2.1 r.2.2 ∧ R3 r P
abbrev rt (L : List Nat) : Value := .agg (ints .u32 L)
theorem R4.len {L : List Nat} {P : Pt} (h : R4 L P) : L.length = 24 := by
 obtain ⟨r, rfl, _⟩ := h
 exact rpL_len _ _ _
theorem rAdd4 {L M : List Nat} {P Q : Pt} (h : R4 L P) (h' : R4 M Q) : ∃ N, R4 N (padd P Q) ∧ ∀ w, Gives 34 #[rt L, rt M, nm dN] w (rt N) := by
 obtain ⟨r, rfl, h1⟩ := h
 obtain ⟨s, rfl, h2⟩ := h'
 exact ⟨_, ⟨add3 r s, rfl, add3_ok h1 h2⟩, fun w => add3_any h1 h2 w⟩
theorem rMul4 {L b : List Nat} {P : Pt} (h : R4 L P) (hb : b.length = 32) (db : Digs 256 b) : ∃ N, R4 N (smul (val 256 b) P) ∧ ∀ w, Gives 22 #[rt L, .agg (ints .u8 b)] w (rt N) := by
 obtain ⟨r, rfl, h1⟩ := h
 obtain ⟨s, hs, hg⟩ := rPMul_any h1 hb db
 exact ⟨_, ⟨s, rfl, hs⟩, hg⟩
theorem rNeg4 {L : List Nat} {P : Pt} (h : R4 L P) : ∃ N, R4 N (pneg P) ∧ ∀ w, Gives 35 #[rt L] w (rt N) := by
 obtain ⟨⟨X, Y, Z⟩, rfl, h1⟩ := h
 refine ⟨_, ⟨((pN - X) % pN, Y, Z), rfl, ?_⟩, fun w => rNeg_any h1.lx w⟩
 have hlx : X < pN := h1.lx
 exact ⟨Nat.mod_lt _ pos_pN, h1.ly, h1.lz, h1.nz, by
  show kk pN ((pN - X) % pN) = - P.x * kk pN Z
  have := h1.ex
  rw [kk_mod, kk_neg (Nat.le_of_lt hlx), show kk pN X = P.x * kk pN Z from this]
  exact f_neg_mul _ _, h1.ey⟩
theorem rBytes4 {L : List Nat} {P : Pt} (h : R4 L P) (w : World) : Gives 21 #[rt L] w (.agg (ints .u8 (encB P))) := by
 obtain ⟨r, rfl, h1⟩ := h
 exact rPBytes_any h1 w
theorem rDecode4 {b : List Nat} {P : Pt} (hb : b.length = 32) (db : Digs 256 b) (hP : encN P = val 256 b) : ∃ L, R4 L P ∧ ∀ w, Gives 14 #[.agg (ints .u8 b)] w (.tuple #[rt L, .bool true]) := by
 obtain ⟨r, h1, h2⟩ := rPDecode_yes hb db hP
 exact ⟨_, ⟨r, rfl, h1⟩, h2⟩
theorem rZero4 : R4 (rpL 0 1 1) pzero := ⟨(0, 1, 1), rfl, RRep_zero⟩
theorem rDecode4_no {b : List Nat} (hb : b.length = 32) (db : Digs 256 b) (h : ¬ isPt (val 256 b)) (w : World) : Gives 14 #[.agg (ints .u8 b)] w (.tuple #[rt (rpL 0 1 1), .bool false]) := rPDecode_no hb db h w
theorem rBase4 : ∃ L, R4 L baseP ∧ ∀ w, Gives 23 #[] w (rt L) := by
 obtain ⟨r, h1, h2⟩ := rPBase_any
 exact ⟨_, ⟨r, rfl, h1⟩, h2⟩

end Go.Proofs.YthddoelflmoedaaGreat
namespace Go.Proofs.YthddoelflmoedaaGreat
open Go.RowKit
set_option maxRecDepth 100000

theorem eq_b32 {x y : List Nat} (hx : x.length = 32) (hy : y.length = 32) (dx : Digs 256 x) (dy : Digs 256 y) (w : World) :
  (Op.equalIn 10000 22 (.agg (ints .u8 x)) (.agg (ints .u8 y))).run Tryz.prog w = .ok (decide (x = y)) w := by
 obtain ⟨i, hi, -, hs, -⟩ := info_parts (P := Tryz.prog) (e := 5) (z := .int .u8 0) (size := 1) (bytes := 1) (by kernel_rfl)
 exact run_equalIn_u8 Tryz.underlying22 Tryz.underlying5 hi hs hx hy dx dy w
theorem below_iff {a : List Nat} (ha : a.length = 32) (da : Digs 256 a) : decide (digs 256 32 (val 256 a % q) = a) = decide (val 256 a < q) := by
 apply decide_eq_decide.2
 constructor
 ·intro h
  have := congrArg (val 256) h
  rw [val_digs, Nat.mod_eq_of_lt (Nat.lt_trans (mod_q _) (by decide))] at this
  rw [← this]
  exact mod_q _
 ·intro h
  rw [Nat.mod_eq_of_lt h, digs_val' da ha]
set_option maxHeartbeats 1000000 in
theorem Below_any (a : List Nat) (ha : a.length = 32) (da : Digs 256 a) (w : World) : Gives 29 #[.agg (ints .u8 a)] w (.bool (decide (val 256 a < q))) := by
 have heq := fun w => eq_b32 (digs_length 256 32 (val 256 a % q)) ha (digs_Digs (by decide) _ _) da w
 rw [below_iff ha da] at heq
 have hE0 := Env.nil w
 go_enter Tryz.func29, Tryz.ntmps29
 repeat ((fail_if_success refine sqx ?_); go_step)
 refine wl_box (cs := (ints .u8 a)) hE0 rfl rfl rfl ?_
 intro g0 w1 hE1
 clear hE0
 simp only [qZ]
 apply wl_val rfl
 ·go_simp
  with_reducible rfl
 simp only [qZ]
 repeat ((fail_if_success refine sqx ?_); go_step)
 refine wp_region_env 5 (by kernel_rfl) (by kernel_rfl) (fun _ _ d _ _ h => by cases d <;> exact h) hE1 ?_
 refine headRun_load rfl rfl (fun w h => h.get (i := 0) rfl) Tryz.underlying22 rfl (sz_of (n := 32) (by kernel_rfl) (by first | (simp only [ints_size, digs_length, List.length_replicate, List.length_cons, List.length_nil]; done) | (simp only [ints_size, *]; done) | rfl)) ?_
 simp only [qZ]
 refine headRun_call (fun w1 => by go_simp) (fun w1 hW => small_any a ha da _) ?_
 simp only [qZ]
 refine headRun_call (fun w1 => by go_simp) (fun w1 hW => bytes_any (val 256 a % q) (mod_q_lt _) _) ?_
 simp only [qZ]
 refine headRun_load rfl rfl (fun w h => h.get (i := 0) rfl) Tryz.underlying22 rfl (sz_of (n := 32) (by kernel_rfl) (by first | (simp only [ints_size, digs_length, List.length_replicate, List.length_cons, List.length_nil]; done) | (simp only [ints_size, *]; done) | rfl)) ?_
 simp only [qZ]
 apply headRun_val
 ·intro w1 h1
  go_simp
  with_reducible rfl
 simp only [qZ]
 refine headRun_nil (endK0 ?_)
 intro  w2 hE2
 clear hE1
 simp only [List.drop_succ_cons, List.drop_zero, Act.put, qpA, qpB, qpC]
 apply wl_val rfl
 ·go_simp
  with_reducible rfl
 simp only [qZ]
 repeat ((fail_if_success refine sqx ?_); go_step)
 go_returns
 exact ⟨rfl, hE2.below⟩

end Go.Proofs.YthddoelflmoedaaGreat
namespace Go.Proofs.YthddoelflmoedaaGreat
open Go.RowKit
set_option maxRecDepth 100000

def nums (l : List Nat) : List Value := l.map fun d : Nat => Value.int .i64 (d : Int)

theorem nums_length (l : List Nat) : (nums l).length = l.length := List.length_map ..
theorem nums_snoc {l : List Nat} {k : Nat} (h : k < l.length) : nums (l.take (k + 1)) = nums (l.take k) ++ [Value.int .i64 ((l[k] : Nat) : Int)] := by
 rw [List.take_succ_eq_append_getElem h, nums, List.map_append]
 rfl

theorem info_int : ∃ i, Tryz.prog.info? 3 = some i ∧ i.zero = some (.int .i64 0) ∧ i.size = 1 ∧ i.bytes = 8 := info_parts (P := Tryz.prog) (by kernel_rfl)

set_option maxHeartbeats 1000000 in
theorem Digits_any (g : Nat) (l : List Nat) (T : TypeId) (n : Nat) (hl : l.length = n) (hn : n ≤ 65536) (dl : Digs 256 l) (w : World) (hg : w.heap[g]? = some (.cells (ints .u8 l) T (0, 0))) :
  Calls Tryz.prog 78 #[.slice (some ⟨g, 0, none⟩) n n] w fun e w' => ∃ v, e = .returned v ∧ Sl w [] 3 (nums l) v w' := by
 have hlt : g < w.heap.size := (Array.getElem?_eq_some_iff.1 hg).1
 obtain ⟨i0, hi, hz, hs, hb⟩ := info_int
 have Hl := Lib.hid hl
 clear hl
 have Hg := Lib.hid hg
 clear hg
 go_enter Tryz.func78, Tryz.ntmps78
 go_wp2
 go_loopw [3, 4] (fun v i wr => ∃ k : Nat, k ≤ n ∧ i = .int .i64 k ∧ Sl w [] 3 (nums (l.take k)) v wr) (fun _ i _ => n - (intOf i).toNat)
 case atStart => exact ⟨0, Nat.zero_le _, rfl, Sl.nil (Env.nil w)⟩
 case round =>
  obtain ⟨k, hk, rfl, hS⟩ := hrel
  by_cases hkn : k < n
  ·have hkl : k < l.length := by rw [Hl.out]; exact hkn
   have ca := cell_of_row wr g k _ _ _ ((hS.env.below.block g hlt).trans Hg.out)
   rw [ints_get? _ _ _ hkl] at ca
   have hw : IntKind.i64.wrap ((l[k] : Nat) : Int) = ((l[k] : Nat) : Int) := by have := dl.getElem hkl; rw [IntKind.wrap_i64]; omega
   go_wp2_with (first
    | (at_builtin; refine wl_append (hS.call ((Below.refl _ _).alloc (Nat.le_refl _) _)) rfl rfl Tryz.underlying109 hi hz hs rfl hb rfl (ad := ⟨wr.heap.size, 0, none⟩) (m := 1) (c := 1) (news := [.int .i64 ((l[k] : Nat) : Int)]) rfl rfl (by decide) ?c1 ?c2 ?c3 ?c4 ?_)
    | go_in)
   case c1 =>
    intro j u hj
    match j, hj with
    | 0, hj => simp at hj; subst hj; simp [Addr.add]
   case c2 => intro u hu; simp at hu; subst hu; rfl
   case c3 => rw [nums_length, List.length_take]; simp only [maxLen]; omega
   case c4 => rw [nums_length, List.length_take]; omega
   ·intro v' w1 hS1
    go_wp2
    go_roundw
    case rel =>
     refine ⟨k + 1, by omega, by go_num, ?_⟩
     rw [nums_snoc hkl]
     exact hS1
    case measure => simp [intOf]; omega
  ·have hke : k = n := by omega
   subst hke
   have hfin := Hl.out
   go_wp2
   rw [List.take_of_length_le (by omega)] at hS
   go_returns
   exact ⟨_, rfl, hS⟩
end Go.Proofs.YthddoelflmoedaaGreat
namespace Go.Proofs.YthddoelflmoedaaGreat
open Go.RowKit
set_option maxRecDepth 100000

def Rd (l : List Nat) (v : Value) (w : World) : Prop :=
 (v = .slice none 0 0 ∧ l = []) ∨ ∃ g cap cs T, v = .slice (some ⟨g, 0, none⟩) l.length cap ∧ w.heap[g]? = some (.cells cs T (0, 0)) ∧ cs.toList.take l.length = nums l

theorem Rd.below {l : List Nat} {v : Value} {w w1 : World} (h : Rd l v w) (hb : Below w.heap.size w w1) : Rd l v w1 := by
 rcases h with h | ⟨g, cap, cs, T, h1, h2, h3⟩
 ·exact .inl h
 ·exact .inr ⟨g, cap, cs, T, h1, (hb.block _ (Array.getElem?_eq_some_iff.1 h2).1).trans h2, h3⟩
theorem Sl.rd {w0 w : World} {ls : List Blk} {e : TypeId} {l : List Nat} {v : Value} (h : Sl w0 ls e (nums l) v w) : Rd l v w := by
 rcases h with ⟨h1, h2, h⟩ | ⟨g, cap, cs, h1, h2, h3, h4, h5, h⟩
 ·exact .inl ⟨h1, List.map_eq_nil_iff.1 h2⟩
 ·rw [nums_length] at h1 h5
  exact .inr ⟨g, cap, cs, e, h1, h.get (i := 0) rfl, h5⟩
theorem Rd.len {l : List Nat} {v : Value} {w : World} (h : Rd l v w) : ∃ p cap, v = .slice p l.length cap := by
 rcases h with ⟨rfl, rfl⟩ | ⟨g, cap, cs, T, rfl, -⟩
 ·exact ⟨_, _, rfl⟩
 ·exact ⟨_, _, rfl⟩

def atD (l : List Nat) (i : Int) : Nat := if i < 0 then 0 else l.getD i.toNat 0

theorem Rd.cell {l : List Nat} {g cap : Nat} {w : World} (h : Rd l (.slice (some ⟨g, 0, none⟩) l.length cap) w) {j : Nat} (hj : j < l.length) : w.cell? ⟨g, j, none⟩ = some (.int .i64 (l.getD j 0 : Nat)) := by
 rcases h with ⟨h, -⟩ | ⟨g', cap', cs, T, h1, h2, h3⟩
 ·cases h
 ·injection h1 with e1 e2 e3
  injection e1 with e1
  injection e1 with e1
  subst e1
  rw [cell_of_row w g j cs T (0, 0) h2]
  have : (cs.toList.take l.length)[j]? = (nums l)[j]? := by rw [h3]
  rw [List.getElem?_take, if_pos hj, nums, List.getElem?_map, List.getElem?_eq_getElem hj] at this
  rw [← Array.getElem?_toList, this]
  simp [List.getD, hj]

set_option maxHeartbeats 1000000 in
theorem at_any {l : List Nat} {v : Value} {w : World} (h : Rd l v w) (hl : l.length < 4611686018427387904) (i : Int) :
  Gives 112 #[v, .int .i64 i] w (.int .i64 (atD l i : Nat)) := by
 obtain ⟨p, cap, rfl⟩ := h.len
 by_cases h0 : i < 0
 ·have e : atD l i = 0 := by simp [atD, h0]
  rw [e]
  clear h
  go_enter Tryz.func112, Tryz.ntmps112
  go_wp2
  go_returns
  exact ⟨rfl, Below.refl _ _⟩
 ·by_cases h1 : (l.length : Int) ≤ i
  ·have e : atD l i = 0 := by
    rw [atD, if_neg h0, List.getD_eq_getElem?_getD, List.getElem?_eq_none (by omega)]
    rfl
   rw [e]
   clear h
   go_enter Tryz.func112, Tryz.ntmps112
   go_wp2
   go_returns
   exact ⟨rfl, Below.refl _ _⟩
  ·have e : atD l i = l.getD i.toNat 0 := by simp [atD, h0]
   rcases h with ⟨h2, h3⟩ | ⟨g, cap', cs, T, h2, h3, h4⟩
   ·subst h3
    simp at h1
    omega
   ·injection h2 with e1 e2 e3
    subst e1
    have hR : Rd l (.slice (some ⟨g, 0, none⟩) l.length cap) w := .inr ⟨g, cap, cs, T, rfl, h3, h4⟩
    have hj : i.toNat < l.length := by omega
    have ca := hR.cell hj
    rw [← e] at ca
    clear hR h3 h4 e e3
    go_enter Tryz.func112, Tryz.ntmps112
    go_wp2
    go_returns
    exact ⟨rfl, Below.refl _ _⟩

theorem atD_nat {l : List Nat} (dl : Digs 256 l) (i : Nat) : atD l (i : Int) = val 256 l / 256 ^ i % 256 := by
 rw [atD, if_neg (by omega), val_div_mod dl (by decide)]
 rfl
theorem atD_up {l : List Nat} (dl : Digs 256 l) (i up : Nat) : atD l ((i : Int) - (up : Int)) = 256 ^ up * val 256 l / 256 ^ i % 256 := by
 by_cases h : i < up
 ·rw [atD, if_pos (by omega)]
  obtain ⟨d, rfl⟩ : ∃ d, up = i + (d + 1) := ⟨up - i - 1, by omega⟩
  rw [Nat.pow_add, Nat.mul_assoc, Nat.mul_div_cancel_left _ (Nat.pow_pos (by decide)), Nat.pow_succ, Nat.mul_comm (256 ^ d) 256, Nat.mul_assoc, Nat.mul_mod_right]
 ·obtain ⟨d, rfl⟩ : ∃ d, i = up + d := ⟨i - up, by omega⟩
  have e : (((up + d : Nat) : Int) - (up : Int)) = (d : Int) := by omega
  rw [e, atD_nat dl, Nat.pow_add, ← Nat.div_div_eq_div_mul, Nat.mul_div_cancel_left _ (Nat.pow_pos (by decide))]
theorem div_step (A j : Nat) : A / 256 ^ j = 256 * (A / 256 ^ (j + 1)) + A / 256 ^ j % 256 := by
 rw [Nat.pow_succ, ← Nat.div_div_eq_div_mul]
 omega
theorem lt_of_div {A B j : Nat} (h : A / 256 ^ j < B / 256 ^ j) : A < B := by
 rcases Nat.lt_or_ge A B with h' | h'
 ·exact h'
 ·have := Nat.div_le_div_right (c := 256 ^ j) h'
  omega
theorem less_tells {A B j : Nat} (h : A / 256 ^ (j + 1) = B / 256 ^ (j + 1)) (hne : ¬ A / 256 ^ j % 256 = B / 256 ^ j % 256) : decide (A / 256 ^ j % 256 < B / 256 ^ j % 256) = decide (A < B) := by
 apply decide_eq_decide.2
 have ha := div_step A j
 have hb := div_step B j
 constructor
 ·intro h'
  exact lt_of_div (j := j) (by omega)
 ·intro h'
  rcases Nat.lt_trichotomy (A / 256 ^ j) (B / 256 ^ j) with h1 | h1 | h1
  ·omega
  ·omega
  ·have := lt_of_div h1
   omega
theorem less_goes {A B j : Nat} (h : A / 256 ^ (j + 1) = B / 256 ^ (j + 1)) (he : A / 256 ^ j % 256 = B / 256 ^ j % 256) : A / 256 ^ j = B / 256 ^ j := by
 rw [div_step A j, div_step B j, h, he]
theorem less_start {l : List Nat} (dl : Digs 256 l) {n up : Nat} (h : l.length + up ≤ n) : 256 ^ up * val 256 l / 256 ^ n = 0 := by
 apply Nat.div_eq_of_lt
 have h1 := val_lt dl
 have h2 : 256 ^ up * val 256 l < 256 ^ up * 256 ^ l.length := Nat.mul_lt_mul_of_pos_left h1 (Nat.pow_pos (by decide))
 rw [← Nat.pow_add] at h2
 exact Nat.lt_of_lt_of_le h2 (Nat.pow_le_pow_right (by decide) (by omega))

set_option maxHeartbeats 2000000 in
theorem less_any {la lb : List Nat} {va vb : Value} {w : World} (ha : Rd la va w) (hb : Rd lb vb w) (da : Digs 256 la) (db : Digs 256 lb) (up : Nat) (hla : la.length ≤ 65536) (hlb : lb.length ≤ 65536) (hup : up ≤ 65536) :
  Gives 77 #[va, vb, .int .i64 (up : Int)] w (.bool (decide (val 256 la < 256 ^ up * val 256 lb))) := by
 have Ha := Lib.hid ha
 have Hb := Lib.hid hb
 obtain ⟨pa, ca, hva⟩ := ha.len
 obtain ⟨pb, cb, hvb⟩ := hb.len
 clear ha hb
 obtain ⟨A, hA⟩ : ∃ A, A = val 256 la := ⟨_, rfl⟩
 obtain ⟨B, hB⟩ : ∃ B, B = 256 ^ up * val 256 lb := ⟨_, rfl⟩
 have hsum : IntKind.i64.wrap ((lb.length : Int) + (up : Int)) = ((lb.length + up : Nat) : Int) := by rw [IntKind.wrap_i64]; omega
 have hE0 := Env.nil w
 rw [← hA, ← hB]
 subst hva hvb
 by_cases hn : la.length < lb.length + up
 ·have HA0 : A / 256 ^ (lb.length+up) = B / 256 ^ (lb.length+up) := by
   have h1 := less_start da (n := lb.length+up) (up := 0) (by omega)
   have h2 := less_start db (n := lb.length+up) (up := up) (by omega)
   rw [Nat.pow_zero, Nat.one_mul] at h1
   rw [hA, hB, h1, h2]
  have hN : lb.length+up ≤ 131072 := by omega
  obtain ⟨N, hNe⟩ : ∃ N, N = lb.length+up := ⟨_, rfl⟩
  rw [← hNe] at HA0 hN
  have HS := Lib.hid HA0
  clear HA0
  go_enter Tryz.func77, Tryz.ntmps77
  go_wp2
  go_loopw [8] (fun i wr => ∃ k : Nat, k ≤ N ∧ i = .int .i64 ((k : Int) - 1) ∧ A / 256 ^ k = B / 256 ^ k ∧ Env w [] wr) (fun i _ => (intOf i + 1).toNat)
  case atStart => exact ⟨N, Nat.le_refl _, by simp [hNe], HS.out, hE0⟩
  case round =>
   clear hE0 hNe hn
   obtain ⟨k, hk, rfl, hAB, hE0⟩ := hrel
   cases k with
   | zero =>
    have hfin : decide (A < B) = false := by
     rw [Nat.pow_zero, Nat.div_one, Nat.div_one] at hAB
     rw [hAB]
     simp
    have hj : ((0 : Nat) : Int) - 1 = -1 := rfl
    rw [hj]
    clear hj hAB
    repeat ((fail_if_success refine sqx ?_); go_step)
    apply wl_val rfl
    ·go_simp
     with_reducible rfl
    simp only [qZ]
    apply wl_val rfl
    ·go_simp
     with_reducible rfl
    simp only [qZ]
    repeat ((fail_if_success refine sqx ?_); go_step)
    apply wl_val rfl
    ·go_simp
     with_reducible rfl
    simp only [qZ]
    repeat ((fail_if_success refine sqx ?_); go_step)
    go_returns
    exact ⟨by rw [hfin]; rfl, hE0.below⟩
   | succ j =>
    have hj : ((j + 1 : Nat) : Int) - 1 = (j : Int) := by omega
    rw [hj]
    clear hj
    have hj0 : (0 : Int) ≤ (j : Int) := by omega
    have hjw : IntKind.i64.wrap ((j : Int) - (up : Int)) = (j : Int) - (up : Int) := by rw [IntKind.wrap_i64]; omega
    have hj1 : IntKind.i64.wrap ((j : Int) - 1) = (j : Int) - 1 := by rw [IntKind.wrap_i64]; omega
    have hat : ∀ w1, Env w [] w1 → Gives 112 #[.slice pa la.length ca, .int .i64 (j : Int)] w1 (.int .i64 (A / 256 ^ j % 256 : Nat)) := fun w1 hE => by
     have := at_any (Ha.out.below hE.below) (by omega) (j : Int)
     rwa [atD_nat da, ← hA] at this
    have hbt : ∀ w1, Env w [] w1 → Gives 112 #[.slice pb lb.length cb, .int .i64 ((j : Int) - (up : Int))] w1 (.int .i64 (B / 256 ^ j % 256 : Nat)) := fun w1 hE => by
     have := at_any (Hb.out.below hE.below) (by omega) ((j : Int) - (up : Int))
     rwa [atD_up db, ← hB] at this
    have htells := less_tells (j := j) hAB
    have hgoes := less_goes (j := j) hAB
    obtain ⟨x, hx⟩ : ∃ x, x = A / 256 ^ j % 256 := ⟨_, rfl⟩
    obtain ⟨y, hy⟩ : ∃ y, y = B / 256 ^ j % 256 := ⟨_, rfl⟩
    rw [← hx] at hat htells hgoes
    rw [← hy] at hbt htells hgoes
    clear hAB hx hy
    have Hat := Lib.hid hat
    have Hbt := Lib.hid hbt
    clear hat hbt
    by_cases hxy : x = y
    ·have hg := Lib.hid (hgoes hxy)
     clear htells hgoes
     subst hxy
     repeat ((fail_if_success refine sqx ?_); go_step)
     apply wl_val rfl
     ·go_simp
      with_reducible rfl
     simp only [qZ]
     apply wl_val rfl
     ·go_simp
      with_reducible rfl
     simp only [qZ]
     repeat ((fail_if_success refine sqx ?_); go_step)
     apply wl_val rfl
     ·go_simp
      with_reducible rfl
     simp only [qZ]
     apply wl_val rfl
     ·go_simp
      with_reducible rfl
     simp only [qZ]
     refine wl_call hE0 rfl (by go_simp) (Hat.out _ hE0) ?_
     intro w1 hE1
     clear hE0
     simp only [qZ]
     apply wl_val rfl
     ·go_simp
      with_reducible rfl
     simp only [qZ]
     apply wl_val rfl
     ·go_simp
      with_reducible rfl
     simp only [qZ]
     apply wl_val rfl
     ·go_simp
      with_reducible rfl
     simp only [qZ]
     apply wl_val rfl
     ·go_simp
      with_reducible rfl
     simp only [qZ]
     refine wl_call hE1 rfl (by go_simp) (Hbt.out _ hE1) ?_
     intro w2 hE2
     clear hE1
     simp only [qZ]
     apply wl_val rfl
     ·go_simp
      with_reducible rfl
     simp only [qZ]
     repeat ((fail_if_success refine sqx ?_); go_step)
     apply wl_val rfl
     ·go_simp
      with_reducible rfl
     simp only [qZ]
     apply wl_val rfl
     ·go_simp
      with_reducible rfl
     simp only [qZ]
     apply wl_val rfl
     ·go_simp
      with_reducible rfl
     simp only [qZ]
     go_wp2
     go_roundw
     case rel => exact ⟨j, by omega, rfl, hg.out, hE2⟩
     case measure => simp [intOf]
    ·have htell := htells hxy
     clear htells hgoes
     have hxy' : ¬ (x : Int) = (y : Int) := by omega
     repeat ((fail_if_success refine sqx ?_); go_step)
     apply wl_val rfl
     ·go_simp
      with_reducible rfl
     simp only [qZ]
     apply wl_val rfl
     ·go_simp
      with_reducible rfl
     simp only [qZ]
     repeat ((fail_if_success refine sqx ?_); go_step)
     apply wl_val rfl
     ·go_simp
      with_reducible rfl
     simp only [qZ]
     apply wl_val rfl
     ·go_simp
      with_reducible rfl
     simp only [qZ]
     refine wl_call hE0 rfl (by go_simp) (Hat.out _ hE0) ?_
     intro w1 hE1
     clear hE0
     simp only [qZ]
     apply wl_val rfl
     ·go_simp
      with_reducible rfl
     simp only [qZ]
     apply wl_val rfl
     ·go_simp
      with_reducible rfl
     simp only [qZ]
     apply wl_val rfl
     ·go_simp
      with_reducible rfl
     simp only [qZ]
     apply wl_val rfl
     ·go_simp
      with_reducible rfl
     simp only [qZ]
     refine wl_call hE1 rfl (by go_simp) (Hbt.out _ hE1) ?_
     intro w2 hE2
     clear hE1
     simp only [qZ]
     apply wl_val rfl
     ·go_simp
      with_reducible rfl
     simp only [qZ]
     repeat ((fail_if_success refine sqx ?_); go_step)
     apply wl_val rfl
     ·go_simp
      with_reducible rfl
     simp only [qZ]
     apply wl_val rfl
     ·go_simp
      with_reducible rfl
     simp only [qZ]
     refine wl_call hE2 rfl (by go_simp) (Hat.out _ hE2) ?_
     intro w3 hE3
     clear hE2
     simp only [qZ]
     apply wl_val rfl
     ·go_simp
      with_reducible rfl
     simp only [qZ]
     apply wl_val rfl
     ·go_simp
      with_reducible rfl
     simp only [qZ]
     apply wl_val rfl
     ·go_simp
      with_reducible rfl
     simp only [qZ]
     apply wl_val rfl
     ·go_simp
      with_reducible rfl
     simp only [qZ]
     refine wl_call hE3 rfl (by go_simp) (Hbt.out _ hE3) ?_
     intro w4 hE4
     clear hE3
     simp only [qZ]
     apply wl_val rfl
     ·go_simp
      with_reducible rfl
     simp only [qZ]
     apply wl_val rfl
     ·go_simp
      with_reducible rfl
     simp only [qZ]
     repeat ((fail_if_success refine sqx ?_); go_step)
     go_returns
     exact ⟨by first | (rw [hA, hB]; rfl) | (rw [← htell]; rfl), hE4.below⟩
 ·have HA0 : A / 256 ^ (la.length) = B / 256 ^ (la.length) := by
   have h1 := less_start da (n := la.length) (up := 0) (by omega)
   have h2 := less_start db (n := la.length) (up := up) (by omega)
   rw [Nat.pow_zero, Nat.one_mul] at h1
   rw [hA, hB, h1, h2]
  have hN : la.length ≤ 131072 := by omega
  obtain ⟨N, hNe⟩ : ∃ N, N = la.length := ⟨_, rfl⟩
  rw [← hNe] at HA0 hN
  have HS := Lib.hid HA0
  clear HA0
  go_enter Tryz.func77, Tryz.ntmps77
  go_wp2
  go_loopw [8] (fun i wr => ∃ k : Nat, k ≤ N ∧ i = .int .i64 ((k : Int) - 1) ∧ A / 256 ^ k = B / 256 ^ k ∧ Env w [] wr) (fun i _ => (intOf i + 1).toNat)
  case atStart => exact ⟨N, Nat.le_refl _, by simp [hNe], HS.out, hE0⟩
  case round =>
   clear hE0 hNe hn
   obtain ⟨k, hk, rfl, hAB, hE0⟩ := hrel
   cases k with
   | zero =>
    have hfin : decide (A < B) = false := by
     rw [Nat.pow_zero, Nat.div_one, Nat.div_one] at hAB
     rw [hAB]
     simp
    have hj : ((0 : Nat) : Int) - 1 = -1 := rfl
    rw [hj]
    clear hj hAB
    repeat ((fail_if_success refine sqx ?_); go_step)
    apply wl_val rfl
    ·go_simp
     with_reducible rfl
    simp only [qZ]
    apply wl_val rfl
    ·go_simp
     with_reducible rfl
    simp only [qZ]
    repeat ((fail_if_success refine sqx ?_); go_step)
    apply wl_val rfl
    ·go_simp
     with_reducible rfl
    simp only [qZ]
    repeat ((fail_if_success refine sqx ?_); go_step)
    go_returns
    exact ⟨by rw [hfin]; rfl, hE0.below⟩
   | succ j =>
    have hj : ((j + 1 : Nat) : Int) - 1 = (j : Int) := by omega
    rw [hj]
    clear hj
    have hj0 : (0 : Int) ≤ (j : Int) := by omega
    have hjw : IntKind.i64.wrap ((j : Int) - (up : Int)) = (j : Int) - (up : Int) := by rw [IntKind.wrap_i64]; omega
    have hj1 : IntKind.i64.wrap ((j : Int) - 1) = (j : Int) - 1 := by rw [IntKind.wrap_i64]; omega
    have hat : ∀ w1, Env w [] w1 → Gives 112 #[.slice pa la.length ca, .int .i64 (j : Int)] w1 (.int .i64 (A / 256 ^ j % 256 : Nat)) := fun w1 hE => by
     have := at_any (Ha.out.below hE.below) (by omega) (j : Int)
     rwa [atD_nat da, ← hA] at this
    have hbt : ∀ w1, Env w [] w1 → Gives 112 #[.slice pb lb.length cb, .int .i64 ((j : Int) - (up : Int))] w1 (.int .i64 (B / 256 ^ j % 256 : Nat)) := fun w1 hE => by
     have := at_any (Hb.out.below hE.below) (by omega) ((j : Int) - (up : Int))
     rwa [atD_up db, ← hB] at this
    have htells := less_tells (j := j) hAB
    have hgoes := less_goes (j := j) hAB
    obtain ⟨x, hx⟩ : ∃ x, x = A / 256 ^ j % 256 := ⟨_, rfl⟩
    obtain ⟨y, hy⟩ : ∃ y, y = B / 256 ^ j % 256 := ⟨_, rfl⟩
    rw [← hx] at hat htells hgoes
    rw [← hy] at hbt htells hgoes
    clear hAB hx hy
    have Hat := Lib.hid hat
    have Hbt := Lib.hid hbt
    clear hat hbt
    by_cases hxy : x = y
    ·have hg := Lib.hid (hgoes hxy)
     clear htells hgoes
     subst hxy
     repeat ((fail_if_success refine sqx ?_); go_step)
     apply wl_val rfl
     ·go_simp
      with_reducible rfl
     simp only [qZ]
     apply wl_val rfl
     ·go_simp
      with_reducible rfl
     simp only [qZ]
     repeat ((fail_if_success refine sqx ?_); go_step)
     apply wl_val rfl
     ·go_simp
      with_reducible rfl
     simp only [qZ]
     apply wl_val rfl
     ·go_simp
      with_reducible rfl
     simp only [qZ]
     refine wl_call hE0 rfl (by go_simp) (Hat.out _ hE0) ?_
     intro w1 hE1
     clear hE0
     simp only [qZ]
     apply wl_val rfl
     ·go_simp
      with_reducible rfl
     simp only [qZ]
     apply wl_val rfl
     ·go_simp
      with_reducible rfl
     simp only [qZ]
     apply wl_val rfl
     ·go_simp
      with_reducible rfl
     simp only [qZ]
     apply wl_val rfl
     ·go_simp
      with_reducible rfl
     simp only [qZ]
     refine wl_call hE1 rfl (by go_simp) (Hbt.out _ hE1) ?_
     intro w2 hE2
     clear hE1
     simp only [qZ]
     apply wl_val rfl
     ·go_simp
      with_reducible rfl
     simp only [qZ]
     repeat ((fail_if_success refine sqx ?_); go_step)
     apply wl_val rfl
     ·go_simp
      with_reducible rfl
     simp only [qZ]
     apply wl_val rfl
     ·go_simp
      with_reducible rfl
     simp only [qZ]
     apply wl_val rfl
     ·go_simp
      with_reducible rfl
     simp only [qZ]
     go_wp2
     go_roundw
     case rel => exact ⟨j, by omega, rfl, hg.out, hE2⟩
     case measure => simp [intOf]
    ·have htell := htells hxy
     clear htells hgoes
     have hxy' : ¬ (x : Int) = (y : Int) := by omega
     repeat ((fail_if_success refine sqx ?_); go_step)
     apply wl_val rfl
     ·go_simp
      with_reducible rfl
     simp only [qZ]
     apply wl_val rfl
     ·go_simp
      with_reducible rfl
     simp only [qZ]
     repeat ((fail_if_success refine sqx ?_); go_step)
     apply wl_val rfl
     ·go_simp
      with_reducible rfl
     simp only [qZ]
     apply wl_val rfl
     ·go_simp
      with_reducible rfl
     simp only [qZ]
     refine wl_call hE0 rfl (by go_simp) (Hat.out _ hE0) ?_
     intro w1 hE1
     clear hE0
     simp only [qZ]
     apply wl_val rfl
     ·go_simp
      with_reducible rfl
     simp only [qZ]
     apply wl_val rfl
     ·go_simp
      with_reducible rfl
     simp only [qZ]
     apply wl_val rfl
     ·go_simp
      with_reducible rfl
     simp only [qZ]
     apply wl_val rfl
     ·go_simp
      with_reducible rfl
     simp only [qZ]
     refine wl_call hE1 rfl (by go_simp) (Hbt.out _ hE1) ?_
     intro w2 hE2
     clear hE1
     simp only [qZ]
     apply wl_val rfl
     ·go_simp
      with_reducible rfl
     simp only [qZ]
     repeat ((fail_if_success refine sqx ?_); go_step)
     apply wl_val rfl
     ·go_simp
      with_reducible rfl
     simp only [qZ]
     apply wl_val rfl
     ·go_simp
      with_reducible rfl
     simp only [qZ]
     refine wl_call hE2 rfl (by go_simp) (Hat.out _ hE2) ?_
     intro w3 hE3
     clear hE2
     simp only [qZ]
     apply wl_val rfl
     ·go_simp
      with_reducible rfl
     simp only [qZ]
     apply wl_val rfl
     ·go_simp
      with_reducible rfl
     simp only [qZ]
     apply wl_val rfl
     ·go_simp
      with_reducible rfl
     simp only [qZ]
     apply wl_val rfl
     ·go_simp
      with_reducible rfl
     simp only [qZ]
     refine wl_call hE3 rfl (by go_simp) (Hbt.out _ hE3) ?_
     intro w4 hE4
     clear hE3
     simp only [qZ]
     apply wl_val rfl
     ·go_simp
      with_reducible rfl
     simp only [qZ]
     apply wl_val rfl
     ·go_simp
      with_reducible rfl
     simp only [qZ]
     repeat ((fail_if_success refine sqx ?_); go_step)
     go_returns
     exact ⟨by first | (rw [hA, hB]; rfl) | (rw [← htell]; rfl), hE4.below⟩
end Go.Proofs.YthddoelflmoedaaGreat
namespace Go.Proofs.YthddoelflmoedaaGreat
open Go.RowKit
set_option maxRecDepth 100000

def qd : List Nat := [237, 211, 245, 92, 26, 99, 18, 88, 214, 156, 247, 162, 222, 249, 222, 20, 0, 0, 0, 0, 0, 0, 0, 0, 0, 0, 0, 0, 0, 0, 0, 16]
theorem val_qd : val 256 qd = q := by decide
theorem qd_Digs : Digs 256 qd := by unfold Digs; decide

set_option maxHeartbeats 1000000 in
theorem Q_any (w : World) : Calls Tryz.prog 79 #[] w fun e w' => ∃ g, e = .returned (.slice (some ⟨g, 0, none⟩) 32 32) ∧ Below w.heap.size w w' ∧ w.heap.size ≤ g ∧ w'.heap[g]? = some (.cells (ints .i64 qd) 3 (0, 0)) := by
 go_enter Tryz.func79, Tryz.ntmps79
 go_wp2
 go_returns
 refine ⟨_, rfl, (Below.refl _ _).alloc (Nat.le_refl _) _, Nat.le_refl _, ?_⟩
 exact heap_alloc_new w _
end Go.Proofs.YthddoelflmoedaaGreat
namespace Go.Proofs.YthddoelflmoedaaGreat
open Go.RowKit
set_option maxRecDepth 100000

theorem qbytes_step {V k : Nat} (n : Nat) (hk : k < n) : (digs 256 n (V % 256 ^ k)).set k (V / 256 ^ k % 256) = digs 256 n (V % 256 ^ (k + 1)) := by
 have hl : k < (digs 256 n (V % 256 ^ k)).length := by rw [digs_length]; exact hk
 have hv := val_set (B := 256) (digs 256 n (V % 256 ^ k)) k (V / 256 ^ k % 256) hl
 have h0 : (digs 256 n (V % 256 ^ k))[k] = 0 := by
  have := digs_getD 256 n (V % 256 ^ k) k hk
  rw [List.getD_eq_getElem?_getD, List.getElem?_eq_getElem hl] at this
  simp only [Option.getD_some] at this
  rw [this, Nat.div_eq_of_lt (Nat.mod_lt _ (Nat.pow_pos (by decide)))]
 rw [h0, Nat.mul_zero, Nat.add_zero, val_digs, Nat.mod_eq_of_lt (a := V % 256 ^ k) (Nat.lt_of_lt_of_le (Nat.mod_lt _ (Nat.pow_pos (by decide))) (Nat.pow_le_pow_right (by decide) (Nat.le_of_lt hk)))] at hv
 have e : V % 256 ^ (k + 1) = val 256 ((digs 256 n (V % 256 ^ k)).set k (V / 256 ^ k % 256)) := by rw [hv, Nat.pow_succ, Nat.mod_mul]
 rw [e, digs_val' ((digs_Digs (by decide) _ _).set _ (Nat.mod_lt _ (by decide))) (by rw [List.length_set, digs_length])]

set_option maxHeartbeats 1000000 in
theorem qBytes_any {l : List Nat} {v : Value} {w : World} (h : Rd l v w) (dl : Digs 256 l) (hl : l.length ≤ 65536) : Gives 105 #[v] w (.agg (ints .u8 (digs 256 32 (val 256 l)))) := by
 have Hr := Lib.hid h
 obtain ⟨p, c, hv⟩ := h.len
 subst hv
 clear h
 have hE0 := Env.nil w
 go_enter Tryz.func105, Tryz.ntmps105
 repeat ((fail_if_success refine sqx ?_); go_step)
 refine wl_alloc hE0 rfl rfl al_b32 ?_
 intro g0 w1 hE1
 clear hE0
 simp only [qZ]
 repeat ((fail_if_success refine sqx ?_); go_step)
 refine wl_alloc hE1 rfl rfl al_b32 ?_
 intro g1 w2 hE2
 clear hE1
 simp only [qZ]
 go_wp2
 go_loopw [4] (fun i wr => ∃ k : Nat, k ≤ 32 ∧ i = .int .i64 k ∧ Env w [⟨g1, 22, ints .u8 (digs 256 32 (val 256 l % 256 ^ k))⟩, ⟨g0, 22, ints .u8 (List.replicate 32 0)⟩] wr) (fun i _ => 32 - (intOf i).toNat)
 case atStart => exact ⟨0, by decide, rfl, by rw [Nat.pow_zero, Nat.mod_one]; exact hE2⟩
 case round =>
  clear hE2
  obtain ⟨k, hk, rfl, hE0⟩ := hrel
  by_cases hk32 : k < 32
  ·have hat : ∀ (L : List Blk) (w1), Env w L w1 → Gives 112 #[.slice p l.length c, .int .i64 (k : Int)] w1 (.int .i64 (val 256 l / 256 ^ k % 256 : Nat)) := fun L w1 hE => by
    have := at_any (Hr.out.below hE.below) (by omega) (k : Int)
    rwa [atD_nat dl] at this
   obtain ⟨x, hx⟩ : ∃ x, x = val 256 l / 256 ^ k % 256 := ⟨_, rfl⟩
   rw [← hx] at hat
   have hd : IntKind.u8.wrap (x : Int) = (x : Int) := by rw [IntKind.wrap_u8]; omega
   have Hx := Lib.hid hx
   have Hat := Lib.hid hat
   clear hat hx
   have hk1 : IntKind.i64.wrap ((k : Int) + 1) = ((k + 1 : Nat) : Int) := by rw [IntKind.wrap_i64]; omega
   repeat ((fail_if_success refine sqx ?_); go_step)
   apply wl_val rfl
   ·go_simp
    with_reducible rfl
   simp only [qZ]
   apply wl_val rfl
   ·go_simp
    with_reducible rfl
   simp only [qZ]
   repeat ((fail_if_success refine sqx ?_); go_step)
   apply wl_val rfl
   ·go_simp
    with_reducible rfl
   simp only [qZ]
   apply wl_val rfl
   ·go_simp
    with_reducible rfl
   simp only [qZ]
   apply wl_val rfl
   ·go_simp
    with_reducible rfl
   simp only [qZ]
   refine wl_call hE0 rfl (by go_simp) (Hat.out _ _ hE0) ?_
   intro w1 hE1
   clear hE0
   simp only [qZ]
   apply wl_val rfl
   ·go_simp
    with_reducible rfl
   simp only [qZ]
   apply wl_val rfl
   ·go_simp
    with_reducible rfl
   simp only [qZ]
   refine wl_cell (i := 0) (j := k) (v := .int .u8 (x : Nat)) hE1 rfl rfl (by (have ca := hE1.cell (i := 0) rfl k; rw [ints_get? _ _ _ (by rw [digs_length]; exact hk32)] at ca; have cf := hE1.frozen (i := 0) rfl k; go_simp; try with_reducible rfl)) ?_
   intro w2 hE2
   clear hE1
   simp only [qpB, qpC] at hE2
   rw [ints_set, Hx.out, qbytes_step _ hk32] at hE2
   simp only [qZ]
   repeat ((fail_if_success refine sqx ?_); go_step)
   apply wl_val rfl
   ·go_simp
    with_reducible rfl
   simp only [qZ]
   apply wl_val rfl
   ·go_simp
    with_reducible rfl
   simp only [qZ]
   apply wl_val rfl
   ·go_simp
    with_reducible rfl
   simp only [qZ]
   go_wp2
   go_roundw
   case rel => exact ⟨k + 1, by omega, by go_num, hE2⟩
   case measure => simp [intOf]; omega
  ·have hke : k = 32 := by omega
   subst hke
   repeat ((fail_if_success refine sqx ?_); go_step)
   apply wl_val rfl
   ·go_simp
    with_reducible rfl
   simp only [qZ]
   apply wl_val rfl
   ·go_simp
    with_reducible rfl
   simp only [qZ]
   repeat ((fail_if_success refine sqx ?_); go_step)
   refine wl_load (i := 0) hE0 rfl rfl rfl rfl Tryz.underlying22 rfl (sz_of (n := 32) (by kernel_rfl) (by first | (simp only [ints_size, digs_length, List.length_replicate, List.length_cons, List.length_nil]; done) | (simp only [ints_size, *]; done) | rfl)) ?_
   simp only [qZ]
   refine wl_store (i := 1) hE0 rfl rfl rfl rfl rfl (sz_of (n := 32) (by kernel_rfl) (by first | (simp only [ints_size, digs_length, List.length_replicate, List.length_cons, List.length_nil]; done) | (simp only [ints_size, *]; done) | rfl)) (by first | (simp only [ints_size, digs_length, List.length_replicate, List.length_cons, List.length_nil]; done) | (simp only [ints_size, *]; done) | rfl) (by first | exact ints_one _ _ | decide | simp [*]) ?_
   intro w1 hE1
   clear hE0
   simp only [qpB, qpC] at hE1
   simp only [qZ]
   repeat ((fail_if_success refine sqx ?_); go_step)
   refine bodyPost_ret (results_cell_row rfl _ _ _ _ _ (0, 0) _ rfl (hE1.get (i := 1) rfl) Tryz.underlying22 rfl (sz_of (n := 32) (by kernel_rfl) (by first | (simp only [ints_size, digs_length, List.length_replicate, List.length_cons, List.length_nil]; done) | (simp only [ints_size, *]; done) | rfl))) rfl ⟨by rw [digs_mod], hE1.below⟩
end Go.Proofs.YthddoelflmoedaaGreat
