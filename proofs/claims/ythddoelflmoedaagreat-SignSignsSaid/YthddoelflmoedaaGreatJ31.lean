/-
  Layer 4, the document's answer: a difference, the number below p, the sum; bytes.
  Layer 4, the document's answer: the sum, the difference, bytes.
  Layer 4, the document's answer: bytes of a number, a number of bytes.
  Layer 4, the document's answer: the plain part of the product.
  Layer 4, the document's answer: the product.
  Layer 4, the document's answer: the power, the inverse.
  Layer 4, the document's answer: the inverse; the law's own example.
  Layer 4, the document's answer: a number halved k times.
-/
import Derived.Test.YthddoelflmoedaaGreatJ13
import Derived.Test.YthddoelflmoedaaGreatJ30
set_option linter.unusedVariables false
set_option linter.unusedSimpArgs false
namespace Go.Proofs.YthddoelflmoedaaGreat
open Go.RowKit
set_option maxRecDepth 100000

structure Fill (i : Nat) (X : List Nat) : Prop where
 len : X.length = 8
 dg : Digs 4294967296 X
 zero : ∀ j, i ≤ j → X.getD j 0 = 0
theorem Fill.start : Fill 0 (List.replicate 8 0) := ⟨rfl, Digs.replicate (by decide) _, fun j _ => by rw [List.getD_eq_getElem?_getD, List.getElem?_replicate]; split <;> rfl⟩
theorem Fill.step {i d : Nat} {X : List Nat} (h : Fill i X) (hi : i < 8) (hd : d < 4294967296) : Fill (i + 1) (X.set i d) ∧ val 4294967296 (X.set i d) = val 4294967296 X + 4294967296 ^ i * d := by
 have hlt : i < X.length := by rw [h.len]; exact hi
 refine ⟨⟨by rw [List.length_set, h.len], h.dg.set _ hd, fun j hj => ?_⟩, ?_⟩
 ·rw [List.getD_eq_getElem?_getD, List.getElem?_set_ne (by omega), ← List.getD_eq_getElem?_getD]
  exact h.zero j (by omega)
 ·have hv := val_set (B := 4294967296) X i d hlt
  have hz := h.zero i (Nat.le_refl _)
  have e : X[i] = 0 := by rw [← hz]; simp [List.getD, hlt]
  rw [e, Nat.mul_zero, Nat.add_zero] at hv
  exact hv
theorem Fill.lt {X : List Nat} (h : Fill 8 X) : val 4294967296 X < big8 := by
 have := val_lt h.dg
 rw [h.len] at this
 rw [big8_eq]
 exact this
theorem Fill.eq {X : List Nat} (h : Fill 8 X) : X = digs 4294967296 8 (val 4294967296 X) := (digs_val' h.dg h.len).symm

theorem mod_digit (m i : Nat) : m % 4294967296 ^ (i + 1) = m % 4294967296 ^ i + 4294967296 ^ i * (m / 4294967296 ^ i % 4294967296) := by rw [Nat.pow_succ, Nat.mod_mul]

theorem minus_digit {a b u : Nat} (ha : a < 4294967296) (hb : b < 4294967296) (hu : u ≤ 1) :
  ((a + 18446744073709551616 - b) % 18446744073709551616 + 18446744073709551616 - u) % 18446744073709551616 % 4294967296 + b + u = a + 4294967296 * (((a + 18446744073709551616 - b) % 18446744073709551616 + 18446744073709551616 - u) % 18446744073709551616 / 9223372036854775808) ∧
  ((a + 18446744073709551616 - b) % 18446744073709551616 + 18446744073709551616 - u) % 18446744073709551616 / 9223372036854775808 ≤ 1 := by omega
theorem minus_step {V N M P d b a u u' : Nat} (h : V + N = M + P * u) (hd : d + b + u = a + 4294967296 * u') : V + P * d + (N + P * b) = M + P * a + P * 4294967296 * u' := by
 have e : P * (d + b + u) = P * (a + 4294967296 * u') := by rw [hd]
 simp only [Nat.mul_add] at e
 rw [← Nat.mul_assoc] at e
 omega
theorem minus_last {V m n u : Nat} (hV : V < big8) (hm : m < big8) (hn : n < big8) (hu : u ≤ 1) (h : V + n = m + big8 * u) : V = (m + big8 - n) % big8 ∧ decide (u = 1) = decide (m < n) := by
 rcases (show u = 0 ∨ u = 1 by omega) with rfl | rfl
 ·rw [Nat.mul_zero, Nat.add_zero] at h
  refine ⟨?_, ?_⟩
  ·have e : m + big8 - n = V + big8 := by omega
   rw [e, Nat.add_mod_right, Nat.mod_eq_of_lt hV]
  ·rw [decide_eq_false (by omega : ¬ m < n)]
   rfl
 ·rw [Nat.mul_one] at h
  refine ⟨?_, ?_⟩
  ·have e : m + big8 - n = V := by omega
   rw [e, Nat.mod_eq_of_lt hV]
  ·rw [decide_eq_true (by omega : m < n)]
   rfl

set_option maxHeartbeats 4000000 in
theorem minus_any {m n : Nat} (hm : m < big8) (hn : n < big8) (w : World) : Gives 84 #[nm m, nm n] w (.tuple #[nm ((m + big8 - n) % big8), .bool (decide (m < n))]) := by
 have hm8 := nm_len m
 have hn8 := nm_len n
 have Hgm := Lib.hid (nm_get m)
 have Hgn := Lib.hid (nm_get n)
 have Hm := Lib.hid hm
 have Hn := Lib.hid hn
 clear hm hn
 have hE0 := Env.nil w
 go_enter Tryz.func84, Tryz.ntmps84
 repeat ((fail_if_success refine sqx ?_); go_step)
 refine wl_step (st_boxA hE0 rfl rfl rfl ?_)
 intro g0 w1 hb1 hE1
 clear hE0
 simp only [qZ]
 refine wl_step (st_boxA hE1 rfl rfl rfl ?_)
 intro g1 w2 hb2 hE2
 clear hE1
 simp only [qZ]
 refine wl_step (sqA (ints .u32 (List.replicate 8 0)) hE2 ?_)
 intro g2 w3 hb3 hE3
 clear hE2
 simp only [qZ]
 refine mqC ?_
 repeat ((fail_if_success refine sqx ?_); go_step)
 refine wl_step (sqA (ints .u32 (List.replicate 8 0)) hE3 ?_)
 intro g3 w4 hb4 hE4
 clear hE3
 simp only [qZ]
 repeat ((fail_if_success refine sqx ?_); go_step)
 refine mqC ?_
 repeat ((fail_if_success refine sqx ?_); go_step)
 refine mqC ?_
 go_wp2
 go_loopw [7, 8] (fun uv i wr => ∃ (K u : Nat) (X : List Nat), K ≤ 8 ∧ i = .int .i64 K ∧ uv = .int .u64 u ∧ u ≤ 1 ∧ Fill K X ∧ Hid (val 4294967296 X + n % 4294967296 ^ K = m % 4294967296 ^ K + 4294967296 ^ K * u) ∧ Env w [⟨g3, 41, ints .u32 X⟩, ⟨g2, 41, ints .u32 (List.replicate 8 0)⟩, ⟨g1, 41, ints .u32 (digs 4294967296 8 n)⟩, ⟨g0, 41, ints .u32 (digs 4294967296 8 m)⟩] wr) (fun _ i _ => 8 - (intOf i).toNat)
 case atStart => exact ⟨0, 0, _, Nat.zero_le _, rfl, rfl, by decide, Fill.start, Lib.hid (by rw [val_replicate, Nat.pow_zero, Nat.mod_one, Nat.mod_one]), hE4⟩
 case round =>
  clear hE4
  obtain ⟨K, u, X, hK, rfl, rfl, hu, hF, hsum, hE0⟩ := hrel
  have hX8 := hF.len
  by_cases hK8 : K < 8
  ·have hgm := Lib.hid (Hgm.out K hK8)
   have hgn := Lib.hid (Hgn.out K hK8)
   have ha : m / 4294967296 ^ K % 4294967296 < 4294967296 := Nat.mod_lt _ (by decide)
   have hb : n / 4294967296 ^ K % 4294967296 < 4294967296 := Nat.mod_lt _ (by decide)
   have hdg := minus_digit ha hb hu
   have hm1 := mod_digit m K
   have hn1 := mod_digit n K
   obtain ⟨a, hae⟩ : ∃ a, a = m / 4294967296 ^ K % 4294967296 := ⟨_, rfl⟩
   obtain ⟨b, hbe⟩ : ∃ b, b = n / 4294967296 ^ K % 4294967296 := ⟨_, rfl⟩
   rw [← hae] at hgm ha hdg hm1
   rw [← hbe] at hgn hb hdg hn1
   clear hae hbe
   obtain ⟨d, hde⟩ : ∃ d, d = ((a + 18446744073709551616 - b) % 18446744073709551616 + 18446744073709551616 - u) % 18446744073709551616 := ⟨_, rfl⟩
   rw [← hde] at hdg
   have hd64 : d < 18446744073709551616 := by rw [hde]; exact Nat.mod_lt _ (by decide)
   have hst := hF.step hK8 (show d % 4294967296 < 4294967296 from Nat.mod_lt _ (by decide))
   have hnew : Hid (val 4294967296 (X.set K (d % 4294967296)) + n % 4294967296 ^ (K + 1) = m % 4294967296 ^ (K + 1) + 4294967296 ^ (K + 1) * (d / 9223372036854775808)) := Lib.hid (by
    rw [hst.2, hm1, hn1, Nat.pow_succ]
    exact minus_step hsum.out hdg.1)
   have hF1 := Lib.hid hst.1
   have hu1 := hdg.2
   have Hde := Lib.hid hde
   clear hdg hm1 hn1 hde hst hsum hF
   repeat ((fail_if_success refine sqx ?_); go_step)
   refine mqA ?_
   refine wqv (v_lss (n := 8) rfl rfl rfl) ?_
   repeat ((fail_if_success refine sqx ?_); go_step)
   refine wp_region_B (n := 12) 11 (by kernel_rfl) rfl hE0 ?_
   intro w1 hb1 hE1
   clear hE0
   refine tqB 0 rfl (v_moveT (.inl rfl) rfl) ?_
   refine tqB 1 rfl (vqI Tryz.underlying41) ?_
   refine tqB 2 rfl (vqC 3 hE1 Tryz.underlying39) ?_
   rw [hgm.out]
   refine tqB 3 rfl (v_convInt rfl rfl Tryz.underlying39 Tryz.underlying50 (by first | exact w_u64 (by omega) | exact w_u64m _)) ?_
   refine tqB 4 rfl (v_moveT (.inl rfl) rfl) ?_
   refine tqB 5 rfl (vqI Tryz.underlying41) ?_
   refine tqB 6 rfl (vqC 2 hE1 Tryz.underlying39) ?_
   rw [hgn.out]
   refine tqB 7 rfl (v_convInt rfl rfl Tryz.underlying39 Tryz.underlying50 (by first | exact w_u64 (by omega) | exact w_u64m _)) ?_
   refine tqB 8 rfl (v_sub rfl rfl rfl (w_u64d _ _ (by omega))) ?_
   refine tqB 9 rfl (v_moveT (.inl rfl) rfl) ?_
   refine tqB 10 rfl (v_sub rfl rfl rfl (w_u64d _ _ (by omega))) ?_
   rw [← Hde.out]
   refine sqB 11 rfl (st_val rfl (v_moveT (.inr rfl) rfl) ?_)
   refine ⟨fun _ => Below.refl _ _, ?_⟩
   simp only [qZ]
   refine wpB_done (by kernel_rfl) ?_ _
   repeat ((fail_if_success refine sqx ?_); go_step)
   refine mqA ?_
   refine mqA ?_
   refine wqv (v_convInt rfl rfl Tryz.underlying50 Tryz.underlying39 (w_u32m _)) ?_
   refine wqv (vqI Tryz.underlying41) ?_
   refine wl_step (st_putN (i := 0) hE1 rfl rfl rfl rfl rfl (by kernel_rfl) (by first | assumption | omega | (simp only [List.length_set, List.length_replicate]; first | assumption | omega)) ?_)
   intro w2 hE2
   clear hE1
   simp only [qpB, qpC] at hE2
   simp only [qZ]
   repeat ((fail_if_success refine sqx ?_); go_step)
   refine mqA ?_
   refine wqv (v_shrC (s := 63) (d := 9223372036854775808) rfl rfl rfl (by decide) (by decide)) ?_
   refine mqB ?_
   repeat ((fail_if_success refine sqx ?_); go_step)
   refine mqA ?_
   refine wqv (v_add (n := 1) rfl rfl rfl (w_i64 (by omega))) ?_
   refine mqB ?_
   go_wp2
   go_roundw
   case rel => exact ⟨K + 1, _, _, by omega, rfl, rfl, hu1, hF1.out, hnew, hE2⟩
   case measure => simp [intOf]; omega
  ·have hK' : K = 8 := by omega
   subst hK'
   have hs := hsum.out
   rw [← big8_eq, Nat.mod_eq_of_lt Hm.out, Nat.mod_eq_of_lt Hn.out] at hs
   have hl := minus_last hF.lt Hm.out Hn.out hu hs
   have hXe := hF.eq
   rw [hl.1] at hXe
   rw [hXe] at hE0
   have Hl2 := Lib.hid hl.2
   have hl8 := nm_len ((m + big8 - n) % big8)
   clear hs hl hXe hsum hF
   repeat ((fail_if_success refine sqx ?_); go_step)
   refine mqA ?_
   refine wqv (v_lss (n := 8) rfl rfl rfl) ?_
   repeat ((fail_if_success refine sqx ?_); go_step)
   refine wqv (vqL 0 8 hE0 Tryz.underlying41) ?_
   refine mqA ?_
   refine wqv (v_eql (n := 1) rfl rfl rfl) ?_
   rw [Hl2.out]
   refine wl_step (sqS 1 8 hE0 ?_)
   intro w1 hE1
   clear hE0
   simp only [qpB, qpC] at hE1
   simp only [qZ]
   refine mqB ?_
   repeat ((fail_if_success refine sqx ?_); go_step)
   refine bodyPost_ret (results_ct rfl _ _ _ _ _ (0, 0) _ rfl (hE1.get (i := 1) rfl) Tryz.underlying41 rfl (szqA (n := 8)) rfl) rfl ⟨rfl, hE1.below⟩

theorem down_step {n : Nat} (hn : n < big8) (h : ¬ n < pN) : (n + big8 - pN) % big8 = n - pN ∧ n - pN < n := by
 have hp : pN < big8 := by decide
 have h0 : 0 < pN := by decide
 have e : n + big8 - pN = (n - pN) + big8 := by omega
 rw [e, Nat.add_mod_right, Nat.mod_eq_of_lt (by omega)]
 exact ⟨rfl, by omega⟩

set_option maxHeartbeats 2000000 in
theorem down_any {n : Nat} (hn : n < big8) (w : World) : Gives 81 #[nm n] w (nm (n % pN)) := by
 have hn8 := nm_len n
 have Hn := Lib.hid hn
 clear hn
 have hE0 := Env.nil w
 go_enter Tryz.func81, Tryz.ntmps81
 repeat ((fail_if_success refine sqx ?_); go_step)
 refine wl_step (st_boxA hE0 rfl rfl rfl ?_)
 intro g0 w1 hb1 hE1
 clear hE0
 simp only [qZ]
 refine wl_step (sqA (ints .u32 (List.replicate 8 0)) hE1 ?_)
 intro g1 w2 hb2 hE2
 clear hE1
 simp only [qZ]
 go_wp2
 go_loopg [] (n) (fun V wr => V < big8 ∧ Hid (V % pN = n % pN) ∧ Env w [⟨g1, 41, ints .u32 (List.replicate 8 0)⟩, ⟨g0, 41, ints .u32 (digs 4294967296 8 V)⟩] wr)
 case atStart => exact ⟨Hn.out, Lib.hid rfl, hE2⟩
 case round =>
  clear hE2
  obtain ⟨hV, hmod, hE0⟩ := hrel
  have hg8 := nm_len gk
  have HL := Lib.hid (fun w => Less_any (m := gk) (n := pN) hV (by decide) w)
  have HM := Lib.hid (fun w => minus_any (m := gk) (n := pN) hV (by decide) w)
  by_cases hlt : gk < pN
  ·have hfin : gk = n % pN := by rw [← hmod.out, Nat.mod_eq_of_lt hlt]
   rw [decide_eq_true hlt] at HL
   clear hV hlt hmod HM
   subst hfin
   repeat ((fail_if_success refine sqx ?_); go_step)
   refine wp_region_B (n := 4) 4 (by kernel_rfl) rfl hE0 ?_
   intro w1 hb1 hE1
   clear hE0
   refine tqB 0 rfl (vqL 1 8 hE1 Tryz.underlying41) ?_
   refine sqB 1 rfl (st_gives hE1 rfl (run_call rfl Tryz.call39) (P_any _) ?_)
   intro w2 hb2 hE2
   clear hE1
   refine ⟨fun _ => hb2, ?_⟩
   simp only [qZ]
   refine sqB 2 rfl (st_gives hE2 rfl (run_call rfl Tryz.call37) (HL.out _) ?_)
   intro w3 hb3 hE3
   clear hE2
   refine ⟨fun _ => hb3, ?_⟩
   simp only [qZ]
   refine tqB 3 rfl (v_not rfl rfl) ?_
   refine wpB_done (by kernel_rfl) ?_ _
   repeat ((fail_if_success refine sqy ?_); go_step)
   refine cqF ?_
   skip
   repeat ((fail_if_success refine sqx ?_); go_step)
   refine wqv (vqL 1 8 hE3 Tryz.underlying41) ?_
   refine wl_step (sqS 0 8 hE3 ?_)
   intro w4 hE4
   clear hE3
   simp only [qpB, qpC] at hE4
   simp only [qZ]
   repeat ((fail_if_success refine sqx ?_); go_step)
   refine bodyPost_ret (results_cell_row rfl _ _ _ _ _ (0, 0) _ rfl (hE4.get (i := 0) rfl) Tryz.underlying41 rfl (szqA (n := 8))) rfl ⟨rfl, hE4.below⟩
  ·have hd := down_step hV hlt
   rw [decide_eq_false hlt] at HL
   rw [decide_eq_false hlt, hd.1] at HM
   have hnew : Hid ((gk - pN) % pN = n % pN) := Lib.hid (by rw [← hmod.out, Nat.mod_eq_sub_mod (Nat.le_of_not_lt hlt)])
   have hlt2 := hd.2
   have hV2 : gk - pN < big8 := by omega
   have hg9 := nm_len (gk - pN)
   clear hd hmod hlt hV
   repeat ((fail_if_success refine sqx ?_); go_step)
   refine wp_region_B (n := 4) 4 (by kernel_rfl) rfl hE0 ?_
   intro w1 hb1 hE1
   clear hE0
   refine tqB 0 rfl (vqL 1 8 hE1 Tryz.underlying41) ?_
   refine sqB 1 rfl (st_gives hE1 rfl (run_call rfl Tryz.call39) (P_any _) ?_)
   intro w2 hb2 hE2
   clear hE1
   refine ⟨fun _ => hb2, ?_⟩
   simp only [qZ]
   refine sqB 2 rfl (st_gives hE2 rfl (run_call rfl Tryz.call37) (HL.out _) ?_)
   intro w3 hb3 hE3
   clear hE2
   refine ⟨fun _ => hb3, ?_⟩
   simp only [qZ]
   refine tqB 3 rfl (v_not rfl rfl) ?_
   refine wpB_done (by kernel_rfl) ?_ _
   repeat ((fail_if_success refine sqy ?_); go_step)
   refine cqT ?_
   skip
   repeat ((fail_if_success refine sqx ?_); go_step)
   refine wp_region_env 6 (by kernel_rfl) (by kernel_rfl) (fun _ _ d _ _ h => by cases d <;> exact h) hE3 ?_
   refine hqv (fun _ hW => (vqL 1 8 hW Tryz.underlying41)) ?_
   refine headRun_call (fun w1 => run_call rfl Tryz.call39) (fun w1 hW => P_any _) ?_
   simp only [qZ]
   refine headRun_call (fun w1 => run_call rfl Tryz.call84) (fun w1 hW => HM.out _) ?_
   simp only [qZ]
   refine hqv (fun _ hW => (v_moveT (.inl rfl) rfl)) ?_
   refine hqv (fun _ hW => (v_extract rfl rfl rfl)) ?_
   refine hqv (fun _ hW => (v_extract rfl rfl rfl)) ?_
   refine headRun_nil (endK0 ?_)
   intro  w4 hE4
   clear hE3
   simp only [List.drop_succ_cons, List.drop_zero, Act.put, qpA, qpB, qpC]
   refine wl_step (sqS 1 8 hE4 ?_)
   intro w5 hE5
   clear hE4
   simp only [qpB, qpC] at hE5
   simp only [qZ]
   go_wp2
   go_roundg (gk - pN)
   case measure => exact hlt2
   case rel => exact ⟨hV2, hnew, hE5⟩
end Go.Proofs.YthddoelflmoedaaGreat
namespace Go.Proofs.YthddoelflmoedaaGreat
open Go.RowKit
set_option maxRecDepth 100000

theorem add_digit {a b u : Nat} (ha : a < 4294967296) (hb : b < 4294967296) (hu : u ≤ 1) : (a + b + u) % 4294967296 + 4294967296 * ((a + b + u) / 4294967296) = a + b + u ∧ (a + b + u) / 4294967296 ≤ 1 := by omega
theorem add_step {V N M P d b a u u' s : Nat} (h : V + P * u = M + N) (hd : d + 4294967296 * u' = s) (hs : s = a + b + u) : V + P * d + P * 4294967296 * u' = M + P * a + (N + P * b) := by
 have e : P * (d + 4294967296 * u') = P * (a + b + u) := by rw [hd, hs]
 simp only [Nat.mul_add] at e
 rw [← Nat.mul_assoc] at e
 omega

set_option maxHeartbeats 4000000 in
theorem rAdd_any {m n : Nat} (hm : m < big8) (hn : n < big8) (hmn : m + n < big8) (w : World) : Gives 46 #[nm m, nm n] w (nm ((m + n) % pN)) := by
 have hm8 := nm_len m
 have hn8 := nm_len n
 have Hgm := Lib.hid (nm_get m)
 have Hgn := Lib.hid (nm_get n)
 have Hm := Lib.hid hm
 have Hn := Lib.hid hn
 have Hmn := Lib.hid hmn
 clear hm hn hmn
 have hE0 := Env.nil w
 go_enter Tryz.func46, Tryz.ntmps46
 repeat ((fail_if_success refine sqx ?_); go_step)
 refine wl_step (st_boxA hE0 rfl rfl rfl ?_)
 intro g0 w1 hb1 hE1
 clear hE0
 simp only [qZ]
 refine wl_step (st_boxA hE1 rfl rfl rfl ?_)
 intro g1 w2 hb2 hE2
 clear hE1
 simp only [qZ]
 refine wl_step (sqA (ints .u32 (List.replicate 8 0)) hE2 ?_)
 intro g2 w3 hb3 hE3
 clear hE2
 simp only [qZ]
 repeat ((fail_if_success refine sqx ?_); go_step)
 refine wl_step (sqA (ints .u32 (List.replicate 8 0)) hE3 ?_)
 intro g3 w4 hb4 hE4
 clear hE3
 simp only [qZ]
 repeat ((fail_if_success refine sqx ?_); go_step)
 refine mqC ?_
 repeat ((fail_if_success refine sqx ?_); go_step)
 refine mqC ?_
 go_wp2
 go_loopw [6, 7] (fun uv i wr => ∃ (K u : Nat) (X : List Nat), K ≤ 8 ∧ i = .int .i64 K ∧ uv = .int .u64 u ∧ u ≤ 1 ∧ Fill K X ∧ Hid (val 4294967296 X + 4294967296 ^ K * u = m % 4294967296 ^ K + n % 4294967296 ^ K) ∧ Env w [⟨g3, 41, ints .u32 X⟩, ⟨g2, 41, ints .u32 (List.replicate 8 0)⟩, ⟨g1, 41, ints .u32 (digs 4294967296 8 n)⟩, ⟨g0, 41, ints .u32 (digs 4294967296 8 m)⟩] wr) (fun _ i _ => 8 - (intOf i).toNat)
 case atStart => exact ⟨0, 0, _, Nat.zero_le _, rfl, rfl, by decide, Fill.start, Lib.hid (by rw [val_replicate, Nat.pow_zero, Nat.mod_one, Nat.mod_one]), hE4⟩
 case round =>
  clear hE4
  obtain ⟨K, u, X, hK, rfl, rfl, hu, hF, hsum, hE0⟩ := hrel
  have hX8 := hF.len
  by_cases hK8 : K < 8
  ·have hgm := Lib.hid (Hgm.out K hK8)
   have hgn := Lib.hid (Hgn.out K hK8)
   have ha : m / 4294967296 ^ K % 4294967296 < 4294967296 := Nat.mod_lt _ (by decide)
   have hb : n / 4294967296 ^ K % 4294967296 < 4294967296 := Nat.mod_lt _ (by decide)
   have hdg := add_digit ha hb hu
   have hm1 := mod_digit m K
   have hn1 := mod_digit n K
   obtain ⟨a, hae⟩ : ∃ a, a = m / 4294967296 ^ K % 4294967296 := ⟨_, rfl⟩
   obtain ⟨b, hbe⟩ : ∃ b, b = n / 4294967296 ^ K % 4294967296 := ⟨_, rfl⟩
   rw [← hae] at hgm ha hdg hm1
   rw [← hbe] at hgn hb hdg hn1
   clear hae hbe
   have hst := hF.step hK8 (show (a + b + u) % 4294967296 < 4294967296 from Nat.mod_lt _ (by decide))
   have hnew : Hid (val 4294967296 (X.set K ((a + b + u) % 4294967296)) + 4294967296 ^ (K + 1) * ((a + b + u) / 4294967296) = m % 4294967296 ^ (K + 1) + n % 4294967296 ^ (K + 1)) := Lib.hid (by
    rw [hst.2, hm1, hn1, Nat.pow_succ]
    exact add_step hsum.out hdg.1 rfl)
   have hF1 := Lib.hid hst.1
   have hu1 := hdg.2
   clear hdg hm1 hn1 hst hsum hF
   repeat ((fail_if_success refine sqx ?_); go_step)
   refine mqA ?_
   refine wqv (v_lss (n := 8) rfl rfl rfl) ?_
   repeat ((fail_if_success refine sqx ?_); go_step)
   refine wp_region_B (n := 12) 11 (by kernel_rfl) rfl hE0 ?_
   intro w1 hb1 hE1
   clear hE0
   refine tqB 0 rfl (v_moveT (.inl rfl) rfl) ?_
   refine tqB 1 rfl (vqI Tryz.underlying41) ?_
   refine tqB 2 rfl (vqC 3 hE1 Tryz.underlying39) ?_
   rw [hgm.out]
   refine tqB 3 rfl (v_convInt rfl rfl Tryz.underlying39 Tryz.underlying50 (by first | exact w_u64 (by omega) | exact w_u64m _)) ?_
   refine tqB 4 rfl (v_moveT (.inl rfl) rfl) ?_
   refine tqB 5 rfl (vqI Tryz.underlying41) ?_
   refine tqB 6 rfl (vqC 2 hE1 Tryz.underlying39) ?_
   rw [hgn.out]
   refine tqB 7 rfl (v_convInt rfl rfl Tryz.underlying39 Tryz.underlying50 (by first | exact w_u64 (by omega) | exact w_u64m _)) ?_
   refine tqB 8 rfl (v_add rfl rfl rfl (by first | exact w_u64 (by omega) | exact w_u64m _)) ?_
   refine tqB 9 rfl (v_moveT (.inl rfl) rfl) ?_
   refine tqB 10 rfl (v_add rfl rfl rfl (by first | exact w_u64 (by omega) | exact w_u64m _)) ?_
   refine sqB 11 rfl (st_val rfl (v_moveT (.inr rfl) rfl) ?_)
   refine ⟨fun _ => Below.refl _ _, ?_⟩
   simp only [qZ]
   refine wpB_done (by kernel_rfl) ?_ _
   repeat ((fail_if_success refine sqx ?_); go_step)
   refine mqA ?_
   refine mqA ?_
   refine wqv (v_convInt rfl rfl Tryz.underlying50 Tryz.underlying39 (w_u32m _)) ?_
   refine wqv (vqI Tryz.underlying41) ?_
   refine wl_step (st_putN (i := 0) hE1 rfl rfl rfl rfl rfl (by kernel_rfl) (by first | assumption | omega | (simp only [List.length_set, List.length_replicate]; first | assumption | omega)) ?_)
   intro w2 hE2
   clear hE1
   simp only [qpB, qpC] at hE2
   simp only [qZ]
   repeat ((fail_if_success refine sqx ?_); go_step)
   refine mqA ?_
   refine wqv (v_shrC (s := 32) (d := 4294967296) rfl rfl rfl (by decide) (by decide)) ?_
   refine mqB ?_
   repeat ((fail_if_success refine sqx ?_); go_step)
   refine mqA ?_
   refine wqv (v_add (n := 1) rfl rfl rfl (w_i64 (by omega))) ?_
   refine mqB ?_
   go_wp2
   go_roundw
   case rel => exact ⟨K + 1, _, _, by omega, rfl, rfl, hu1, hF1.out, hnew, hE2⟩
   case measure => simp [intOf]; omega
  ·have hK' : K = 8 := by omega
   subst hK'
   have hs := hsum.out
   rw [← big8_eq, Nat.mod_eq_of_lt Hm.out, Nat.mod_eq_of_lt Hn.out] at hs
   have hu0 : u = 0 := by
    have := Hmn.out
    rcases (show u = 0 ∨ u = 1 by omega) with h | h
    ·exact h
    ·rw [h] at hs; omega
   subst hu0
   have hs1 : val 4294967296 X = m + n := by omega
   have hXe := hF.eq
   rw [hs1] at hXe
   rw [hXe] at hE0
   have HD := Lib.hid (fun w => down_any Hmn.out w)
   have hl8 := nm_len (m + n)
   have hl9 := nm_len ((m + n) % pN)
   clear hs hs1 hXe hsum hF
   repeat ((fail_if_success refine sqx ?_); go_step)
   refine mqA ?_
   refine wqv (v_lss (n := 8) rfl rfl rfl) ?_
   repeat ((fail_if_success refine sqx ?_); go_step)
   refine wqv (vqL 0 8 hE0 Tryz.underlying41) ?_
   refine wl_step (st_gives hE0 rfl (run_call rfl Tryz.call81) (HD.out _) ?_)
   intro w1 hb1 hE1
   clear hE0
   simp only [qZ]
   refine wl_step (sqS 1 8 hE1 ?_)
   intro w2 hE2
   clear hE1
   simp only [qpB, qpC] at hE2
   simp only [qZ]
   repeat ((fail_if_success refine sqx ?_); go_step)
   refine bodyPost_ret (results_cell_row rfl _ _ _ _ _ (0, 0) _ rfl (hE2.get (i := 1) rfl) Tryz.underlying41 rfl (szqA (n := 8))) rfl ⟨rfl, hE2.below⟩

theorem sub_ge {m n : Nat} (hm : m < pN) (hn : n < pN) (h : ¬ m < n) : (m + big8 - n) % big8 = (m + (pN - n)) % pN := by
 have hp : pN < big8 := by decide
 have e : m + big8 - n = (m - n) + big8 := by omega
 have e2 : m + (pN - n) = (m - n) + pN := by omega
 rw [e, Nat.add_mod_right, Nat.mod_eq_of_lt (by omega), e2, Nat.add_mod_right, Nat.mod_eq_of_lt (by omega)]
theorem sub_lt {n : Nat} (hn : n < pN) : (pN + big8 - n) % big8 = pN - n := by
 have hp : pN < big8 := by decide
 have e : pN + big8 - n = (pN - n) + big8 := by omega
 rw [e, Nat.add_mod_right, Nat.mod_eq_of_lt (by omega)]
theorem sub_sum {m n : Nat} (hm : m < pN) (hn : n < pN) : m + (pN - n) < big8 := by
 have hp : pN + pN < big8 := by decide
 omega

set_option maxHeartbeats 2000000 in
theorem rSub_any {m n : Nat} (hm : m < pN) (hn : n < pN) (w : World) : Gives 45 #[nm m, nm n] w (nm ((m + (pN - n)) % pN)) := by
 have hp : pN < big8 := by decide
 have hm8 := nm_len m
 have hn8 := nm_len n
 have HM := Lib.hid (fun w => minus_any (m := m) (n := n) (Nat.lt_trans hm hp) (Nat.lt_trans hn hp) w)
 by_cases hlt : m < n
 ·rw [decide_eq_true hlt] at HM
  have HM2 := Lib.hid (fun w => minus_any (m := pN) (n := n) hp (Nat.lt_trans hn hp) w)
  rw [decide_eq_false (Nat.lt_asymm hn), sub_lt hn] at HM2
  have HA := Lib.hid (fun w => rAdd_any (m := m) (n := pN - n) (Nat.lt_trans hm hp) (by omega) (sub_sum hm hn) w)
  have hl1 := nm_len ((m + big8 - n) % big8)
  have hl2 := nm_len (pN - n)
  have hl3 := nm_len ((m + (pN - n)) % pN)
  clear hm hn hlt hp
  have hE0 := Env.nil w
  go_enter Tryz.func45, Tryz.ntmps45
  repeat ((fail_if_success refine sqx ?_); go_step)
  refine wl_step (st_boxA hE0 rfl rfl rfl ?_)
  intro g0 w1 hb1 hE1
  clear hE0
  simp only [qZ]
  refine wl_step (st_boxA hE1 rfl rfl rfl ?_)
  intro g1 w2 hb2 hE2
  clear hE1
  simp only [qZ]
  refine wl_step (sqA (ints .u32 (List.replicate 8 0)) hE2 ?_)
  intro g2 w3 hb3 hE3
  clear hE2
  simp only [qZ]
  repeat ((fail_if_success refine sqx ?_); go_step)
  refine wqv (vqL 2 8 hE3 Tryz.underlying41) ?_
  refine wqv (vqL 1 8 hE3 Tryz.underlying41) ?_
  refine wl_step (st_gives hE3 rfl (run_call rfl Tryz.call84) (HM.out _) ?_)
  intro w4 hb4 hE4
  clear hE3
  simp only [qZ]
  refine mqA ?_
  refine wqv (v_extract rfl rfl rfl) ?_
  refine wqv (v_extract rfl rfl rfl) ?_
  refine wl_step (sqA (ints .u32 (List.replicate 8 0)) hE4 ?_)
  intro g3 w5 hb5 hE5
  clear hE4
  simp only [qZ]
  refine wl_step (sqS 0 8 hE5 ?_)
  intro w6 hE6
  clear hE5
  simp only [qpB, qpC] at hE6
  simp only [qZ]
  refine mqB ?_
  repeat ((fail_if_success refine sqx ?_); go_step)
  refine mqA ?_
  refine wqv (v_not rfl rfl) ?_
  repeat ((fail_if_success refine sqy ?_); go_step)
  refine cqF ?_
  skip
  repeat ((fail_if_success refine sqx ?_); go_step)
  refine wp_region_env 7 (by kernel_rfl) (by kernel_rfl) (fun _ _ d _ _ h => by cases d <;> exact h) hE6 ?_
  refine headRun_call (fun w1 => run_call rfl Tryz.call39) (fun w1 hW => P_any _) ?_
  simp only [qZ]
  refine hqv (fun _ hW => (vqL 2 8 hW Tryz.underlying41)) ?_
  refine headRun_call (fun w1 => run_call rfl Tryz.call84) (fun w1 hW => HM2.out _) ?_
  simp only [qZ]
  refine hqv (fun _ hW => (v_moveT (.inl rfl) rfl)) ?_
  refine hqv (fun _ hW => (v_extract rfl rfl rfl)) ?_
  refine hqv (fun _ hW => (v_extract rfl rfl rfl)) ?_
  refine headRun_alloc (zs := ints .u32 (List.replicate 8 0)) rfl rfl (fun w => by kernel_rfl) ?_
  simp only [qZ]
  refine headRun_nil (endK1 ?_)
  intro g4 w7 hE7
  clear hE6
  simp only [List.drop_succ_cons, List.drop_zero, Act.put, qpA, qpB, qpC]
  refine wl_step (sqS 0 8 hE7 ?_)
  intro w8 hE8
  clear hE7
  simp only [qpB, qpC] at hE8
  simp only [qZ]
  refine mqB ?_
  repeat ((fail_if_success refine sqx ?_); go_step)
  refine wqv (vqL 4 8 hE8 Tryz.underlying41) ?_
  refine wqv (vqL 0 8 hE8 Tryz.underlying41) ?_
  refine wl_step (st_gives hE8 rfl (run_call rfl Tryz.call46) (HA.out _) ?_)
  intro w9 hb9 hE9
  clear hE8
  simp only [qZ]
  refine wl_step (sqS 2 8 hE9 ?_)
  intro w10 hE10
  clear hE9
  simp only [qpB, qpC] at hE10
  simp only [qZ]
  repeat ((fail_if_success refine sqx ?_); go_step)
  refine bodyPost_ret (results_cell_row rfl _ _ _ _ _ (0, 0) _ rfl (hE10.get (i := 2) rfl) Tryz.underlying41 rfl (szqA (n := 8))) rfl ⟨rfl, hE10.below⟩
 ·rw [decide_eq_false hlt, sub_ge hm hn hlt] at HM
  have hl3 := nm_len ((m + (pN - n)) % pN)
  clear hm hn hlt hp
  have hE0 := Env.nil w
  go_enter Tryz.func45, Tryz.ntmps45
  repeat ((fail_if_success refine sqx ?_); go_step)
  refine wl_step (st_boxA hE0 rfl rfl rfl ?_)
  intro g0 w1 hb1 hE1
  clear hE0
  simp only [qZ]
  refine wl_step (st_boxA hE1 rfl rfl rfl ?_)
  intro g1 w2 hb2 hE2
  clear hE1
  simp only [qZ]
  refine wl_step (sqA (ints .u32 (List.replicate 8 0)) hE2 ?_)
  intro g2 w3 hb3 hE3
  clear hE2
  simp only [qZ]
  repeat ((fail_if_success refine sqx ?_); go_step)
  refine wqv (vqL 2 8 hE3 Tryz.underlying41) ?_
  refine wqv (vqL 1 8 hE3 Tryz.underlying41) ?_
  refine wl_step (st_gives hE3 rfl (run_call rfl Tryz.call84) (HM.out _) ?_)
  intro w4 hb4 hE4
  clear hE3
  simp only [qZ]
  refine mqA ?_
  refine wqv (v_extract rfl rfl rfl) ?_
  refine wqv (v_extract rfl rfl rfl) ?_
  refine wl_step (sqA (ints .u32 (List.replicate 8 0)) hE4 ?_)
  intro g3 w5 hb5 hE5
  clear hE4
  simp only [qZ]
  refine wl_step (sqS 0 8 hE5 ?_)
  intro w6 hE6
  clear hE5
  simp only [qpB, qpC] at hE6
  simp only [qZ]
  refine mqB ?_
  repeat ((fail_if_success refine sqx ?_); go_step)
  refine mqA ?_
  refine wqv (v_not rfl rfl) ?_
  repeat ((fail_if_success refine sqy ?_); go_step)
  refine cqT ?_
  skip
  repeat ((fail_if_success refine sqx ?_); go_step)
  refine wqv (vqL 0 8 hE6 Tryz.underlying41) ?_
  refine wl_step (sqS 1 8 hE6 ?_)
  intro w7 hE7
  clear hE6
  simp only [qpB, qpC] at hE7
  simp only [qZ]
  repeat ((fail_if_success refine sqx ?_); go_step)
  refine bodyPost_ret (results_cell_row rfl _ _ _ _ _ (0, 0) _ rfl (hE7.get (i := 1) rfl) Tryz.underlying41 rfl (szqA (n := 8))) rfl ⟨rfl, hE7.below⟩
end Go.Proofs.YthddoelflmoedaaGreat
namespace Go.Proofs.YthddoelflmoedaaGreat
open Go.RowKit
set_option maxRecDepth 100000

theorem byte_of {x r : Nat} (hr : r < 4) : x % 4294967296 / 2 ^ (8 * r) % 256 = x / 256 ^ r % 256 := by
 rcases (show r = 0 ∨ r = 1 ∨ r = 2 ∨ r = 3 by omega) with rfl | rfl | rfl | rfl
 ·show x % 4294967296 / 1 % 256 = x / 1 % 256
  omega
 ·show x % 4294967296 / 256 % 256 = x / 256 % 256
  omega
 ·show x % 4294967296 / 65536 % 256 = x / 65536 % 256
  omega
 ·show x % 4294967296 / 16777216 % 256 = x / 16777216 % 256
  omega
theorem pow4 (K : Nat) : 256 ^ K = 4294967296 ^ (K / 4) * 256 ^ (K % 4) := by
 have e : (4294967296 : Nat) = 256 ^ 4 := by decide
 rw [e, ← Nat.pow_mul, ← Nat.pow_add, Nat.div_add_mod]
theorem byte_digit (n K : Nat) : n / 4294967296 ^ (K / 4) % 4294967296 / 2 ^ (8 * (K % 4)) % 256 = n / 256 ^ K % 256 := by
 rw [byte_of (Nat.mod_lt _ (by decide)), Nat.div_div_eq_div_mul, ← pow4]
theorem byte_fill {n K : Nat} (hK : K < 32) : (digs 256 32 (n % 256 ^ K)).set K (n / 256 ^ K % 256) = digs 256 32 (n % 256 ^ (K + 1)) := by
 have h1 : 256 ^ K ≤ 256 ^ 32 := Nat.pow_le_pow_right (by decide) (by omega)
 have h2 : 256 ^ (K + 1) ≤ 256 ^ 32 := Nat.pow_le_pow_right (by decide) (by omega)
 have h3 : 0 < 256 ^ K := Nat.pow_pos (by decide)
 have h4 : 0 < 256 ^ (K + 1) := Nat.pow_pos (by decide)
 refine digs_set (by decide) hK (Nat.lt_of_lt_of_le (Nat.mod_lt _ h3) h1) (Nat.lt_of_lt_of_le (Nat.mod_lt _ h4) h2) (Nat.mod_lt _ (by decide)) ?_
 rw [Nat.div_eq_of_lt (Nat.mod_lt _ h3), Nat.zero_mod, Nat.mul_zero, Nat.add_zero, Nat.pow_succ, Nat.mod_mul]

set_option maxHeartbeats 4000000 in
theorem rBytes_any {n : Nat} (hn : n < big8) (w : World) : Gives 60 #[nm n] w (.agg (ints .u8 (digs 256 32 n))) := by
 have hn8 := nm_len n
 have Hgn := Lib.hid (nm_get n)
 have Hn := Lib.hid hn
 have Hl : Hid (∀ x, (digs 256 32 x).length = 32) := Lib.hid (fun x => digs_length _ _ _)
 clear hn
 have hE0 := Env.nil w
 go_enter Tryz.func60, Tryz.ntmps60
 repeat ((fail_if_success refine sqx ?_); go_step)
 refine wl_step (st_boxA hE0 rfl rfl rfl ?_)
 intro g0 w1 hb1 hE1
 clear hE0
 simp only [qZ]
 refine wl_step (sqA (ints .u8 (List.replicate 32 0)) hE1 ?_)
 intro g1 w2 hb2 hE2
 clear hE1
 simp only [qZ]
 repeat ((fail_if_success refine sqx ?_); go_step)
 refine wl_step (sqA (ints .u8 (List.replicate 32 0)) hE2 ?_)
 intro g2 w3 hb3 hE3
 clear hE2
 simp only [qZ]
 repeat ((fail_if_success refine sqx ?_); go_step)
 refine mqC ?_
 go_wp2
 go_loopw [4] (fun i wr => ∃ (K : Nat), K ≤ 32 ∧ i = .int .i64 K ∧ Env w [⟨g2, 22, ints .u8 (digs 256 32 (n % 256 ^ K))⟩, ⟨g1, 22, ints .u8 (List.replicate 32 0)⟩, ⟨g0, 41, ints .u32 (digs 4294967296 8 n)⟩] wr) (fun i _ => 32 - (intOf i).toNat)
 case atStart => exact ⟨0, Nat.zero_le _, rfl, by rw [Nat.pow_zero, Nat.mod_one]; exact hE3⟩
 case round =>
  clear hE3
  obtain ⟨K, hK, rfl, hE0⟩ := hrel
  by_cases hK8 : K < 32
  ·have hgn := Lib.hid (Hgn.out (K / 4) (by omega))
   have hj : K / 4 < 8 := by omega
   have hb := Lib.hid (byte_digit n K)
   have hf := Lib.hid (byte_fill (n := n) hK8)
   have hx32 := Hl.out (n % 256 ^ K)
   have ha : n / 4294967296 ^ (K / 4) % 4294967296 < 4294967296 := Nat.mod_lt _ (by decide)
   obtain ⟨a, hae⟩ : ∃ a, a = n / 4294967296 ^ (K / 4) % 4294967296 := ⟨_, rfl⟩
   rw [← hae] at hgn ha hb
   obtain ⟨c, hce⟩ : ∃ c, c = n / 256 ^ K % 256 := ⟨_, rfl⟩
   rw [← hce] at hf hb
   clear hae hce
   obtain ⟨X, hXe⟩ : ∃ X, X = digs 256 32 (n % 256 ^ K) := ⟨_, rfl⟩
   rw [← hXe] at hE0 hf hx32
   clear hXe
   repeat ((fail_if_success refine sqx ?_); go_step)
   refine mqA ?_
   refine wqv (v_lss (n := 32) rfl rfl rfl) ?_
   repeat ((fail_if_success refine sqx ?_); go_step)
   refine mqA ?_
   refine mqA ?_
   refine wqv (v_quo (n := 4) rfl rfl rfl (by omega) (w_i64 (by omega))) ?_
   refine wqv (vqI Tryz.underlying41) ?_
   refine wqv (vqC 2 hE0 Tryz.underlying39) ?_
   rw [hgn.out]
   refine mqA ?_
   refine wqv (v_rem (n := 4) rfl rfl rfl (by omega)) ?_
   refine wqv (v_mul (m := 8) rfl rfl rfl (w_i64 (by omega))) ?_
   refine wqv (v_shr rfl rfl rfl (by simp only [IntKind.bits]; omega)) ?_
   refine wqv (v_convInt rfl rfl Tryz.underlying39 Tryz.underlying5 (w_u8m _)) ?_
   rw [hb.out]
   refine wqv (vqI Tryz.underlying22) ?_
   refine wl_step (st_putN (i := 0) hE0 rfl rfl rfl rfl rfl (by kernel_rfl) (by first | assumption | omega | (simp only [List.length_set, List.length_replicate]; first | assumption | omega)) ?_)
   intro w1 hE1
   clear hE0
   simp only [qpB, qpC] at hE1
   simp only [qZ]
   repeat ((fail_if_success refine sqx ?_); go_step)
   refine mqA ?_
   refine wqv (v_add (n := 1) rfl rfl rfl (w_i64 (by omega))) ?_
   refine mqB ?_
   go_wp2
   go_roundw
   case rel => exact ⟨K + 1, by omega, rfl, by rw [← hf.out]; exact hE1⟩
   case measure => simp [intOf]; omega
  ·have hK' : K = 32 := by omega
   subst hK'
   rw [Nat.mod_eq_of_lt (show n < 256 ^ 32 from Hn.out)] at hE0
   have hl8 := Hl.out n
   repeat ((fail_if_success refine sqx ?_); go_step)
   refine mqA ?_
   refine wqv (v_lss (n := 32) rfl rfl rfl) ?_
   repeat ((fail_if_success refine sqx ?_); go_step)
   refine wqv (vqL 0 32 hE0 Tryz.underlying22) ?_
   refine wl_step (sqS 1 32 hE0 ?_)
   intro w1 hE1
   clear hE0
   simp only [qpB, qpC] at hE1
   simp only [qZ]
   repeat ((fail_if_success refine sqx ?_); go_step)
   refine bodyPost_ret (results_cell_row rfl _ _ _ _ _ (0, 0) _ rfl (hE1.get (i := 1) rfl) Tryz.underlying22 rfl (szqA (n := 32))) rfl ⟨rfl, hE1.below⟩

/-! ### The number of 32 bytes -/
theorem or_digit {e c r : Nat} (he : e < 2 ^ (8 * r)) : e ||| c * 2 ^ (8 * r) = e + c * 256 ^ r := by
 have h := Nat.shiftLeft_add_eq_or_of_lt he c
 rw [Nat.or_comm, ← Nat.shiftLeft_eq, ← h, Nat.shiftLeft_eq, Nat.pow_mul, Nat.add_comm]
theorem raw_lt {c r : Nat} (hc : c < 256) (hr : r < 4) : c * 2 ^ (8 * r) < 4294967296 := by
 rcases (show r = 0 ∨ r = 1 ∨ r = 2 ∨ r = 3 by omega) with rfl | rfl | rfl | rfl
 ·show c * 1 < 4294967296
  omega
 ·show c * 256 < 4294967296
  omega
 ·show c * 65536 < 4294967296
  omega
 ·show c * 16777216 < 4294967296
  omega
theorem raw_fill {V K c e : Nat} (hK : K < 32) (hc : V / 256 ^ K % 256 = c) (he : V % 256 ^ K / 4294967296 ^ (K / 4) % 4294967296 = e) :
  e < 4294967296 ∧ c * 2 ^ (8 * (K % 4)) < 4294967296 ∧ (digs 4294967296 8 (V % 256 ^ K)).set (K / 4) (e ||| c * 2 ^ (8 * (K % 4))) = digs 4294967296 8 (V % 256 ^ (K + 1)) := by
 have hr : K % 4 < 4 := Nat.mod_lt _ (by decide)
 have hc2 : c < 256 := hc ▸ Nat.mod_lt _ (by decide)
 have he2 : e < 4294967296 := he ▸ Nat.mod_lt _ (by decide)
 have hcl := raw_lt hc2 hr
 refine ⟨he2, hcl, ?_⟩
 have h3 : 0 < 256 ^ K := Nat.pow_pos (by decide)
 have h4 : 0 < 256 ^ (K + 1) := Nat.pow_pos (by decide)
 have e8 : (4294967296 : Nat) ^ 8 = 256 ^ 32 := by decide
 have h1 : 256 ^ K ≤ 4294967296 ^ 8 := by rw [e8]; exact Nat.pow_le_pow_right (by decide) (by omega)
 have h2 : 256 ^ (K + 1) ≤ 4294967296 ^ 8 := by rw [e8]; exact Nat.pow_le_pow_right (by decide) (by omega)
 have hlt : V % 256 ^ K / 4294967296 ^ (K / 4) < 256 ^ (K % 4) := by
  apply Nat.div_lt_of_lt_mul
  rw [← pow4]
  exact Nat.mod_lt _ h3
 have her : e < 2 ^ (8 * (K % 4)) := by
  rw [← he, Nat.pow_mul]
  exact Nat.lt_of_le_of_lt (Nat.mod_le _ _) hlt
 have hd : (e ||| c * 2 ^ (8 * (K % 4))) < 4294967296 := Nat.or_lt_two_pow (n := 32) he2 hcl
 refine digs_set (by decide) (by omega) (Nat.lt_of_lt_of_le (Nat.mod_lt _ h3) h1) (Nat.lt_of_lt_of_le (Nat.mod_lt _ h4) h2) hd ?_
 rw [he, or_digit her, Nat.pow_succ, Nat.mod_mul, hc, Nat.mul_add, Nat.mul_comm c, ← Nat.mul_assoc, ← pow4]
 omega

set_option maxHeartbeats 4000000 in
theorem Raw_any {b : List Nat} (hB : Digs 256 b) (hlen : b.length = 32) (w : World) : Gives 38 #[.agg (ints .u8 b)] w (nm (val 256 b)) := by
 have Hgb := Lib.hid (val_div_mod hB (by decide))
 have Hn := Lib.hid (val_lt hB)
 have HB := Lib.hid (fun i => hB.getD (by decide) i)
 clear hB
 have hE0 := Env.nil w
 go_enter Tryz.func38, Tryz.ntmps38
 repeat ((fail_if_success refine sqx ?_); go_step)
 refine wl_step (st_boxA hE0 rfl rfl rfl ?_)
 intro g0 w1 hb1 hE1
 clear hE0
 simp only [qZ]
 refine wl_step (sqA (ints .u32 (List.replicate 8 0)) hE1 ?_)
 intro g1 w2 hb2 hE2
 clear hE1
 simp only [qZ]
 repeat ((fail_if_success refine sqx ?_); go_step)
 refine wl_step (sqA (ints .u32 (List.replicate 8 0)) hE2 ?_)
 intro g2 w3 hb3 hE3
 clear hE2
 simp only [qZ]
 repeat ((fail_if_success refine sqx ?_); go_step)
 refine mqC ?_
 go_wp2
 go_loopw [4] (fun i wr => ∃ (K : Nat), K ≤ 32 ∧ i = .int .i64 K ∧ Env w [⟨g2, 41, ints .u32 (digs 4294967296 8 (val 256 b % 256 ^ K))⟩, ⟨g1, 41, ints .u32 (List.replicate 8 0)⟩, ⟨g0, 22, ints .u8 b⟩] wr) (fun i _ => 32 - (intOf i).toNat)
 case atStart => exact ⟨0, Nat.zero_le _, rfl, by rw [Nat.pow_zero, Nat.mod_one]; exact hE3⟩
 case round =>
  clear hE3
  obtain ⟨K, hK, rfl, hE0⟩ := hrel
  by_cases hK8 : K < 32
  ·have hj : K / 4 < 8 := by omega
   have hg2 := nm_get (val 256 b % 256 ^ K) (K / 4) hj
   obtain ⟨e, hee⟩ : ∃ e, val 256 b % 256 ^ K / 4294967296 ^ (K / 4) % 4294967296 = e := ⟨_, rfl⟩
   obtain ⟨c, hce⟩ : ∃ c, b.getD K 0 = c := ⟨_, rfl⟩
   have hr := raw_fill hK8 ((Hgb.out K).trans hce) hee
   rw [hee] at hg2
   have Hg2 := Lib.hid hg2
   have Hc := Lib.hid hce
   have hc8 : c < 256 := hce ▸ HB.out K
   have he32 := hr.1
   have hcs := hr.2.1
   have hf := Lib.hid hr.2.2
   have hx8 := nm_len (val 256 b % 256 ^ K)
   clear hr hee hce hg2
   obtain ⟨X, hXe⟩ : ∃ X, X = digs 4294967296 8 (val 256 b % 256 ^ K) := ⟨_, rfl⟩
   rw [← hXe] at hE0 hf hx8 Hg2
   clear hXe
   repeat ((fail_if_success refine sqx ?_); go_step)
   refine mqA ?_
   refine wqv (v_lss (n := 32) rfl rfl rfl) ?_
   repeat ((fail_if_success refine sqx ?_); go_step)
   refine wp_region_B (n := 17) 16 (by kernel_rfl) rfl hE0 ?_
   intro w1 hb1 hE1
   clear hE0
   refine tqB 0 rfl (v_moveT (.inl rfl) rfl) ?_
   refine tqB 1 rfl (v_quo (n := 4) rfl rfl rfl (by omega) (w_i64 (by omega))) ?_
   refine tqB 2 rfl (v_moveT (.inl rfl) rfl) ?_
   refine tqB 3 rfl (v_quo (n := 4) rfl rfl rfl (by omega) (w_i64 (by omega))) ?_
   refine tqB 4 rfl (vqI Tryz.underlying41) ?_
   refine tqB 5 rfl (vqC 0 hE1 Tryz.underlying39) ?_
   rw [Hg2.out]
   refine tqB 6 rfl (v_moveT (.inl rfl) rfl) ?_
   refine tqB 7 rfl (vqI Tryz.underlying22) ?_
   refine tqB 8 rfl (vqC 2 hE1 Tryz.underlying5) ?_
   rw [Hc.out]
   refine tqB 9 rfl (v_convInt rfl rfl Tryz.underlying5 Tryz.underlying39 (by first | exact w_uns rfl (by simp only [IntKind.bits]; omega) | rfl)) ?_
   refine tqB 10 rfl (v_moveT (.inl rfl) rfl) ?_
   refine tqB 11 rfl (v_rem (n := 4) rfl rfl rfl (by omega)) ?_
   refine tqB 12 rfl (v_mul (m := 8) rfl rfl rfl (w_i64 (by omega))) ?_
   refine tqB 13 rfl (v_shl rfl rfl rfl (by simp [IntKind.bits]; omega) (w_u32 hcs)) ?_
   refine tqB 14 rfl (v_bor rfl rfl rfl he32 hcs (w_or rfl he32 hcs)) ?_
   refine tqB 15 rfl (vqI Tryz.underlying41) ?_
   refine sqB 16 rfl (st_putN (i := 0) hE1 rfl rfl rfl rfl rfl (by kernel_rfl) (by first | assumption | omega | (simp only [List.length_set, List.length_replicate]; first | assumption | omega)) ?_)
   intro w2 hE2
   clear hE1
   simp only [qpB, qpC] at hE2
   refine nqB ?_
   simp only [qZ]
   refine wpB_done (by kernel_rfl) ?_ _
   repeat ((fail_if_success refine sqx ?_); go_step)
   refine mqA ?_
   refine wqv (v_add (n := 1) rfl rfl rfl (w_i64 (by omega))) ?_
   refine mqB ?_
   go_wp2
   go_roundw
   case rel => exact ⟨K + 1, by omega, rfl, by rw [← hf.out]; exact hE2⟩
   case measure => simp [intOf]; omega
  ·have hK' : K = 32 := by omega
   subst hK'
   have hv := Hn.out
   rw [hlen] at hv
   rw [Nat.mod_eq_of_lt hv] at hE0
   have hl8 := nm_len (val 256 b)
   clear hv
   repeat ((fail_if_success refine sqx ?_); go_step)
   refine mqA ?_
   refine wqv (v_lss (n := 32) rfl rfl rfl) ?_
   repeat ((fail_if_success refine sqx ?_); go_step)
   refine wqv (vqL 0 8 hE0 Tryz.underlying41) ?_
   refine wl_step (sqS 1 8 hE0 ?_)
   intro w1 hE1
   clear hE0
   simp only [qpB, qpC] at hE1
   simp only [qZ]
   repeat ((fail_if_success refine sqx ?_); go_step)
   refine bodyPost_ret (results_cell_row rfl _ _ _ _ _ (0, 0) _ rfl (hE1.get (i := 1) rfl) Tryz.underlying41 rfl (szqA (n := 8))) rfl ⟨rfl, hE1.below⟩

theorem top_bit {b : List Nat} (hB : Digs 256 b) (hlen : b.length = 32) : val 256 (b.set 31 (b.getD 31 0 % 128)) = val 256 b % 57896044618658097711785492504343953926634992332820282019728792003956564819968 := by
 have h31 : 31 < b.length := by omega
 have hs := val_set (B := 256) b 31 (b.getD 31 0 % 128) h31
 have ht := val_take_succ 256 b 31 h31
 rw [List.take_of_length_le (by omega)] at ht
 have hL := val_lt (hB.take 31)
 rw [List.length_take, Nat.min_eq_left (by omega)] at hL
 have hg : b.getD 31 0 = b[31] := by simp [List.getD, h31]
 have h8 := hB.getElem h31
 rw [hg] at hs ⊢
 generalize b[31] = t at *
 generalize val 256 (b.take 31) = L at *
 generalize val 256 b = V at *
 generalize val 256 (b.set 31 (t % 128)) = U at *
 subst ht
 have e : (57896044618658097711785492504343953926634992332820282019728792003956564819968 : Nat) = 256 ^ 31 * 128 := by decide
 rw [e, Nat.mod_mul, Nat.add_mul_mod_self_left, Nat.mod_eq_of_lt hL, Nat.add_mul_div_left _ _ (Nat.pow_pos (by decide)), Nat.div_eq_of_lt hL, Nat.zero_add]
 omega

set_option maxHeartbeats 2000000 in
theorem rOf_any {b : List Nat} (hB : Digs 256 b) (hlen : b.length = 32) (w : World) : Gives 41 #[.agg (ints .u8 b)] w (nm (val 256 b % 57896044618658097711785492504343953926634992332820282019728792003956564819968 % pN)) := by
 have hr := Raw_any (hB.set 31 (show b.getD 31 0 % 128 < 256 by omega)) (by rw [List.length_set]; exact hlen)
 rw [top_bit hB hlen] at hr
 have HR := Lib.hid hr
 have h255 : val 256 b % 57896044618658097711785492504343953926634992332820282019728792003956564819968 < big8 := Nat.lt_trans (Nat.mod_lt _ (by decide)) (by decide)
 have HD := Lib.hid (fun w => down_any h255 w)
 have hb8 : b.getD 31 0 < 256 := hB.getD (by decide) 31
 have hls : (b.set 31 (b.getD 31 0 % 128)).length = 32 := by rw [List.length_set]; exact hlen
 have hl8 := nm_len (val 256 b % 57896044618658097711785492504343953926634992332820282019728792003956564819968)
 have hl9 := nm_len (val 256 b % 57896044618658097711785492504343953926634992332820282019728792003956564819968 % pN)
 clear hr h255 hB
 have hE0 := Env.nil w
 go_enter Tryz.func41, Tryz.ntmps41
 repeat ((fail_if_success refine sqx ?_); go_step)
 refine wl_step (st_boxA hE0 rfl rfl rfl ?_)
 intro g0 w1 hb1 hE1
 clear hE0
 simp only [qZ]
 refine wl_step (sqA (ints .u32 (List.replicate 8 0)) hE1 ?_)
 intro g1 w2 hb2 hE2
 clear hE1
 simp only [qZ]
 repeat ((fail_if_success refine sqx ?_); go_step)
 refine wqv (vqI (j := 31) Tryz.underlying22) ?_
 refine wqv (vqC 1 hE2 Tryz.underlying5) ?_
 refine wqv (v_rem (n := 128) rfl rfl rfl (by omega)) ?_
 refine wqv (vqI (j := 31) Tryz.underlying22) ?_
 refine wl_step (st_putN (i := 1) hE2 rfl rfl rfl rfl rfl (by kernel_rfl) (by first | assumption | omega | (simp only [List.length_set, List.length_replicate]; first | assumption | omega)) ?_)
 intro w3 hE3
 clear hE2
 simp only [qpB, qpC] at hE3
 simp only [qZ]
 repeat ((fail_if_success refine sqx ?_); go_step)
 refine wqv (vqL 1 32 hE3 Tryz.underlying22) ?_
 refine wl_step (st_gives hE3 rfl (run_call rfl Tryz.call38) (HR.out _) ?_)
 intro w4 hb4 hE4
 clear hE3
 simp only [qZ]
 refine wl_step (st_gives hE4 rfl (run_call rfl Tryz.call81) (HD.out _) ?_)
 intro w5 hb5 hE5
 clear hE4
 simp only [qZ]
 refine wl_step (sqS 0 8 hE5 ?_)
 intro w6 hE6
 clear hE5
 simp only [qpB, qpC] at hE6
 simp only [qZ]
 repeat ((fail_if_success refine sqx ?_); go_step)
 refine bodyPost_ret (results_cell_row rfl _ _ _ _ _ (0, 0) _ rfl (hE6.get (i := 0) rfl) Tryz.underlying41 rfl (szqA (n := 8))) rfl ⟨rfl, hE6.below⟩
end Go.Proofs.YthddoelflmoedaaGreat
namespace Go.Proofs.YthddoelflmoedaaGreat
open Go.RowKit
set_option maxRecDepth 100000

structure Wide (i : Nat) (X : List Nat) : Prop where
 len : X.length = 16
 dg : Digs 4294967296 X
 zero : ∀ j, i ≤ j → X.getD j 0 = 0
theorem Wide.start : Wide 8 (List.replicate 16 0) := ⟨rfl, Digs.replicate (by decide) _, fun j _ => by rw [List.getD_eq_getElem?_getD, List.getElem?_replicate]; split <;> rfl⟩
theorem prod_le {a b : Nat} (ha : a < 4294967296) (hb : b < 4294967296) : a * b ≤ 18446744065119617025 := Nat.mul_le_mul (Nat.le_of_lt_succ ha : a ≤ 4294967295) (Nat.le_of_lt_succ hb : b ≤ 4294967295)
theorem getD_of {X : List Nat} {i x : Nat} (hi : i < X.length) (h : X.getD i 0 = x) : X[i] = x := by
 rw [← h]
 simp [List.getD, hi]

theorem Wide.row {X : List Nat} {K J a b x u s N Mn : Nat} (hW : Wide (K + 8) X) (hK : K < 8) (hJ : J < 8) (hx : X.getD (K + J) 0 = x) (ha : a < 4294967296) (hb : b < 4294967296) (hu : u < 4294967296) (hs : s = x + a * b + u)
  (h : val 4294967296 X + 4294967296 ^ (K + J) * u = Mn + 4294967296 ^ K * (a * N)) :
  Wide (K + 8) (X.set (K + J) (s % 4294967296)) ∧ s / 4294967296 < 4294967296 ∧ val 4294967296 (X.set (K + J) (s % 4294967296)) + 4294967296 ^ (K + (J + 1)) * (s / 4294967296) = Mn + 4294967296 ^ K * (a * (N + 4294967296 ^ J * b)) := by
 have hl : K + J < X.length := by rw [hW.len]; omega
 have hxl : x < 4294967296 := hx ▸ hW.dg.getD (by decide) _
 have hab := prod_le ha hb
 have hv := val_set (B := 4294967296) X (K + J) (s % 4294967296) hl
 rw [getD_of hl hx] at hv
 refine ⟨⟨by rw [List.length_set, hW.len], hW.dg.set _ (Nat.mod_lt _ (by decide)), fun j hj => ?_⟩, by omega, ?_⟩
 ·rw [List.getD_eq_getElem?_getD, List.getElem?_set_ne (by omega), ← List.getD_eq_getElem?_getD]
  exact hW.zero j hj
 ·have hd : s % 4294967296 + 4294967296 * (s / 4294967296) = x + a * b + u := by rw [← hs]; omega
  have e1 : 4294967296 ^ (K + (J + 1)) = 4294967296 ^ (K + J) * 4294967296 := by rw [← Nat.add_assoc, Nat.pow_succ]
  have e2 : 4294967296 ^ K * (a * (4294967296 ^ J * b)) = 4294967296 ^ (K + J) * (a * b) := by
   rw [Nat.pow_add, Nat.mul_left_comm a, Nat.mul_assoc]
  rw [e1, Nat.mul_add a, Nat.mul_add, e2]
  generalize 4294967296 ^ (K + J) = P at *
  have e3 : P * (s % 4294967296 + 4294967296 * (s / 4294967296)) = P * (x + a * b + u) := by rw [hd]
  simp only [Nat.mul_add] at e3
  rw [← Nat.mul_assoc] at e3
  omega
theorem Wide.leave {X : List Nat} {K a u m n : Nat} (hW : Wide (K + 8) X) (hK : K < 8) (hu : u < 4294967296) (hn : n < big8) (ha : m / 4294967296 ^ K % 4294967296 = a)
  (h : val 4294967296 X + 4294967296 ^ (K + 8) * u = m % 4294967296 ^ K * n + 4294967296 ^ K * (a * (n % 4294967296 ^ 8))) :
  Wide (K + 1 + 8) (X.set (K + 8) u) ∧ val 4294967296 (X.set (K + 8) u) = m % 4294967296 ^ (K + 1) * n := by
 have hl : K + 8 < X.length := by rw [hW.len]; omega
 have hv := val_set (B := 4294967296) X (K + 8) u hl
 rw [getD_of hl (hW.zero _ (Nat.le_refl _)), Nat.mul_zero, Nat.add_zero] at hv
 refine ⟨⟨by rw [List.length_set, hW.len], hW.dg.set _ hu, fun j hj => ?_⟩, ?_⟩
 ·rw [List.getD_eq_getElem?_getD, List.getElem?_set_ne (by omega), ← List.getD_eq_getElem?_getD]
  exact hW.zero j (by omega)
 ·rw [← big8_eq, Nat.mod_eq_of_lt hn, ← Nat.mul_assoc, ← Nat.add_mul, ← ha, ← mod_digit] at h
  rw [hv, h]

theorem fold_digit {a b u : Nat} (ha : a < 4294967296) (hb : b < 4294967296) (hu : u < 40) : (a + 38 * b + u) % 4294967296 + 4294967296 * ((a + 38 * b + u) / 4294967296) = a + 38 * b + u ∧ (a + 38 * b + u) / 4294967296 < 40 := by omega
theorem fold_step {V A B P d a b u u' s : Nat} (h : V + P * u = A + 38 * B) (hd : d + 4294967296 * u' = s) (hs : s = a + 38 * b + u) : V + P * d + P * 4294967296 * u' = A + P * a + 38 * (B + P * b) := by
 have e : P * (d + 4294967296 * u') = P * (a + 38 * b + u) := by rw [hd, hs]
 simp only [Nat.mul_add] at e ⊢
 rw [← Nat.mul_assoc, Nat.mul_left_comm P 38] at e
 omega
theorem high_digit (T K : Nat) : T / 4294967296 ^ (K + 8) = T / 4294967296 ^ 8 / 4294967296 ^ K := by
 rw [Nat.div_div_eq_div_mul, ← Nat.pow_add, Nat.add_comm]
theorem fold_mod (T : Nat) : (T % big8 + 38 * (T / big8)) % pN = T % pN := by
 have e : T = T % big8 + big8 * (T / big8) := by rw [Nat.add_comm]; exact (Nat.div_add_mod _ _).symm
 have eb : big8 = 38 + pN * 2 := by decide
 conv => rhs; rw [e]
 generalize T / big8 = H
 generalize T % big8 = L
 rw [eb, Nat.add_mul, ← Nat.add_assoc, Nat.mul_assoc, Nat.add_mul_mod_self_left]
theorem Fill.all {X : List Nat} (hl : X.length = 8) (hd : Digs 4294967296 X) : Fill 8 X := ⟨hl, hd, fun j hj => by simp [List.getD, List.getElem?_eq_none (by omega : X.length ≤ j)]⟩
theorem Fill.carry {X : List Nat} {J c y S : Nat} (h : Fill 8 X) (hJ : J < 8) (hy : X.getD J 0 = y) (hc : c < 1099511627776) (hS : val 4294967296 X + 4294967296 ^ J * c = S) :
  Fill 8 (X.set J ((c + y) % 4294967296)) ∧ (c + y) / 4294967296 < 1099511627776 ∧ val 4294967296 (X.set J ((c + y) % 4294967296)) + 4294967296 ^ (J + 1) * ((c + y) / 4294967296) = S := by
 have hl : J < X.length := by rw [h.len]; exact hJ
 have hyl : y < 4294967296 := hy ▸ h.dg.getD (by decide) _
 have hv := val_set (B := 4294967296) X J ((c + y) % 4294967296) hl
 rw [getD_of hl hy] at hv
 refine ⟨Fill.all (by rw [List.length_set, h.len]) (h.dg.set _ (Nat.mod_lt _ (by decide))), by omega, ?_⟩
 have hd : (c + y) % 4294967296 + 4294967296 * ((c + y) / 4294967296) = c + y := by omega
 rw [Nat.pow_succ]
 generalize 4294967296 ^ J = P at *
 have e3 : P * ((c + y) % 4294967296 + 4294967296 * ((c + y) / 4294967296)) = P * (c + y) := by rw [hd]
 simp only [Nat.mul_add] at e3
 rw [← Nat.mul_assoc] at e3
 omega
theorem fold_small {Y V u c : Nat} (hV : V < big8) (hu : u < 4294967296) (h : Y + big8 * c = V + 38 * u) : c < 4294967296 := by
 unfold big8 at *
 omega
theorem fold_less {V u : Nat} (hu : 0 < u) : V + 38 * u < V + big8 * u := by
 have : 38 * u < big8 * u := Nat.mul_lt_mul_of_pos_right (by decide) hu
 omega
theorem fold_again {V u : Nat} : (V + 38 * u) % pN = (V + big8 * u) % pN := by
 have eb : big8 = 38 + pN * 2 := by decide
 rw [eb, Nat.add_mul, ← Nat.add_assoc, Nat.mul_assoc, Nat.add_mul_mod_self_left]
end Go.Proofs.YthddoelflmoedaaGreat
namespace Go.Proofs.YthddoelflmoedaaGreat
open Go.RowKit
set_option maxRecDepth 100000

set_option maxHeartbeats 16000000 in
theorem rMul_any {m n : Nat} (hm : m < big8) (hn : n < big8) (w : World) : Gives 43 #[nm m, nm n] w (nm (m * n % pN)) := by
 have hm8 := nm_len m
 have hn8 := nm_len n
 have Hgm := Lib.hid (nm_get m)
 have Hgn := Lib.hid (nm_get n)
 have Hm := Lib.hid hm
 have Hn := Lib.hid hn
 clear hm hn
 have hE0 := Env.nil w
 go_enter Tryz.func43, Tryz.ntmps43
 repeat ((fail_if_success refine sqx ?_); go_step)
 refine wl_step (st_boxA hE0 rfl rfl rfl ?_)
 intro g0 w1 hb1 hE1
 clear hE0
 simp only [qZ]
 refine wl_step (st_boxA hE1 rfl rfl rfl ?_)
 intro g1 w2 hb2 hE2
 clear hE1
 simp only [qZ]
 refine wl_step (sqA (ints .u32 (List.replicate 8 0)) hE2 ?_)
 intro g2 w3 hb3 hE3
 clear hE2
 simp only [qZ]
 repeat ((fail_if_success refine sqx ?_); go_step)
 refine wl_step (sqA (ints .u64 (List.replicate 16 0)) hE3 ?_)
 intro g3 w4 hb4 hE4
 clear hE3
 simp only [qZ]
 repeat ((fail_if_success refine sqx ?_); go_step)
 refine mqC ?_
 go_wp2
 go_loopw [6] (fun i wr => ∃ (K : Nat) (X : List Nat), K ≤ 8 ∧ i = .int .i64 K ∧ Wide (K + 8) X ∧ Hid (val 4294967296 X = m % 4294967296 ^ K * n) ∧ Env w [⟨g3, 112, ints .u64 X⟩, ⟨g2, 41, ints .u32 (List.replicate 8 0)⟩, ⟨g1, 41, ints .u32 (digs 4294967296 8 n)⟩, ⟨g0, 41, ints .u32 (digs 4294967296 8 m)⟩] wr) (fun i _ => 8 - (intOf i).toNat)
 case atStart => exact ⟨0, _, Nat.zero_le _, rfl, Wide.start, Lib.hid (by rw [val_replicate, Nat.pow_zero, Nat.mod_one, Nat.zero_mul]), hE4⟩
 case round =>
  clear hE4
  obtain ⟨K, X, hK, rfl, hW, hsum, hE0⟩ := hrel
  by_cases hK8 : K < 8
  ·have hgm := Hgm.out K hK8
   have ha : m / 4294967296 ^ K % 4294967296 < 4294967296 := Nat.mod_lt _ (by decide)
   obtain ⟨a, hae⟩ : ∃ a, m / 4294967296 ^ K % 4294967296 = a := ⟨_, rfl⟩
   rw [hae] at hgm ha
   have Hae := Lib.hid hae
   have Hgk := Lib.hid hgm
   clear hae hgm
   repeat ((fail_if_success refine sqx ?_); go_step)
   refine mqA ?_
   refine wqv (v_lss (n := 8) rfl rfl rfl) ?_
   repeat ((fail_if_success refine sqx ?_); go_step)
   refine mqC ?_
   repeat ((fail_if_success refine sqx ?_); go_step)
   refine mqC ?_
   go_wp2
   go_loopw [7, 8] (fun uv i wr => ∃ (J u : Nat) (X : List Nat), J ≤ 8 ∧ i = .int .i64 J ∧ uv = .int .u64 u ∧ u < 4294967296 ∧ Wide (K + 8) X ∧ Hid (val 4294967296 X + 4294967296 ^ (K + J) * u = m % 4294967296 ^ K * n + 4294967296 ^ K * (a * (n % 4294967296 ^ J))) ∧ Env w [⟨g3, 112, ints .u64 X⟩, ⟨g2, 41, ints .u32 (List.replicate 8 0)⟩, ⟨g1, 41, ints .u32 (digs 4294967296 8 n)⟩, ⟨g0, 41, ints .u32 (digs 4294967296 8 m)⟩] wr) (fun _ i _ => 8 - (intOf i).toNat)
   case atStart => exact ⟨0, 0, _, Nat.zero_le _, rfl, rfl, by decide, hW, Lib.hid (by rw [hsum.out, Nat.pow_zero, Nat.mod_one, Nat.mul_zero, Nat.mul_zero, Nat.mul_zero]), hE0⟩
   case round =>
    clear hE0 hW hsum
    clear X
    obtain ⟨J, u, X, hJ, rfl, rfl, hu, hW, hsum, hE0⟩ := hrel
    have hX16 := hW.len
    by_cases hJ8 : J < 8
    ·have hgn := Hgn.out J hJ8
     have hb : n / 4294967296 ^ J % 4294967296 < 4294967296 := Nat.mod_lt _ (by decide)
     have hn1 := mod_digit n J
     obtain ⟨b, hbe⟩ : ∃ b, n / 4294967296 ^ J % 4294967296 = b := ⟨_, rfl⟩
     rw [hbe] at hgn hb hn1
     obtain ⟨x, hx⟩ : ∃ x, X.getD (K + J) 0 = x := ⟨_, rfl⟩
     have hxl : x < 4294967296 := hx ▸ hW.dg.getD (by decide) _
     have hab := prod_le ha hb
     obtain ⟨s, hs⟩ : ∃ s, s = x + a * b + u := ⟨_, rfl⟩
     have hs64 : s < 18446744073709551616 := by omega
     have hr := hW.row hK8 hJ8 hx ha hb hu hs hsum.out
     rw [← hn1] at hr
     have Hgn2 := Lib.hid hgn
     have Hx := Lib.hid hx
     have Hs := Lib.hid hs
     have hu1 := hr.2.1
     have HR := Lib.hid hr
     clear hgn hx hs hr hbe hn1 hsum hW
     repeat ((fail_if_success refine sqx ?_); go_step)
     refine mqA ?_
     refine wqv (v_lss (n := 8) rfl rfl rfl) ?_
     repeat ((fail_if_success refine sqx ?_); go_step)
     refine wp_region_B (n := 18) 17 (by kernel_rfl) rfl hE0 ?_
     intro w1 hb1 hE1
     clear hE0
     refine tqB 0 rfl (v_moveT (.inl rfl) rfl) ?_
     refine tqB 1 rfl (v_moveT (.inl rfl) rfl) ?_
     refine tqB 2 rfl (v_add rfl rfl rfl (w_i64 (by omega))) ?_
     refine tqB 3 rfl (vqI Tryz.underlying112) ?_
     refine tqB 4 rfl (vqC 0 hE1 Tryz.underlying50) ?_
     rw [Hx.out]
     refine tqB 5 rfl (v_moveT (.inl rfl) rfl) ?_
     refine tqB 6 rfl (vqI Tryz.underlying41) ?_
     refine tqB 7 rfl (vqC 3 hE1 Tryz.underlying39) ?_
     rw [Hgk.out]
     refine tqB 8 rfl (v_convInt rfl rfl Tryz.underlying39 Tryz.underlying50 (by first | exact w_u64 (by omega) | exact w_u64m _)) ?_
     refine tqB 9 rfl (v_moveT (.inl rfl) rfl) ?_
     refine tqB 10 rfl (vqI Tryz.underlying41) ?_
     refine tqB 11 rfl (vqC 2 hE1 Tryz.underlying39) ?_
     rw [Hgn2.out]
     refine tqB 12 rfl (v_convInt rfl rfl Tryz.underlying39 Tryz.underlying50 (by first | exact w_u64 (by omega) | exact w_u64m _)) ?_
     refine tqB 13 rfl (v_mul rfl rfl rfl (by first | exact w_u64 (by omega) | exact w_u64m _)) ?_
     refine tqB 14 rfl (v_add rfl rfl rfl (by first | exact w_u64 (by omega) | exact w_u64m _)) ?_
     refine tqB 15 rfl (v_moveT (.inl rfl) rfl) ?_
     refine tqB 16 rfl (v_add rfl rfl rfl (by first | exact w_u64 (by omega) | exact w_u64m _)) ?_
     rw [← Hs.out]
     refine sqB 17 rfl (st_val rfl (v_moveT (.inr rfl) rfl) ?_)
     refine ⟨fun _ => Below.refl _ _, ?_⟩
     simp only [qZ]
     refine wpB_done (by kernel_rfl) ?_ _
     repeat ((fail_if_success refine sqx ?_); go_step)
     refine mqA ?_
     refine mqA ?_
     refine wqv (v_add rfl rfl rfl (w_i64 (by omega))) ?_
     refine mqA ?_
     refine wqv (v_mask (c := 4294967295) (s := 32) (d := 4294967296) rfl rfl rfl (by decide) (by decide) rfl (by simp only [IntKind.bits]; omega) (by decide)) ?_
     refine wqv (vqI Tryz.underlying112) ?_
     refine wl_step (st_putN (i := 0) hE1 rfl rfl rfl rfl rfl (by kernel_rfl) (by first | assumption | omega | (simp only [List.length_set, List.length_replicate]; first | assumption | omega)) ?_)
     intro w2 hE2
     clear hE1
     simp only [qpB, qpC] at hE2
     simp only [qZ]
     repeat ((fail_if_success refine sqx ?_); go_step)
     refine mqA ?_
     refine wqv (v_shrC (s := 32) (d := 4294967296) rfl rfl rfl (by decide) (by decide)) ?_
     refine mqB ?_
     repeat ((fail_if_success refine sqx ?_); go_step)
     refine mqA ?_
     refine wqv (v_add (n := 1) rfl rfl rfl (w_i64 (by omega))) ?_
     refine mqB ?_
     go_wp2
     go_roundw
     case rel => exact ⟨J + 1, _, _, by omega, rfl, rfl, hu1, HR.out.1, Lib.hid HR.out.2.2, hE2⟩
     case measure => simp [intOf]; omega
    ·have hJ' : J = 8 := by omega
     subst hJ'
     have hl := hW.leave hK8 hu Hn.out Hae.out hsum.out
     have HL := Lib.hid hl
     clear hl hsum hW
     repeat ((fail_if_success refine sqx ?_); go_step)
     refine mqA ?_
     refine wqv (v_lss (n := 8) rfl rfl rfl) ?_
     repeat ((fail_if_success refine sqx ?_); go_step)
     refine mqA ?_
     refine wqv (v_add (n := 8) rfl rfl rfl (w_i64 (by omega))) ?_
     refine mqA ?_
     refine wqv (vqI Tryz.underlying112) ?_
     refine wl_step (st_putN (i := 0) hE0 rfl rfl rfl rfl rfl (by kernel_rfl) (by first | assumption | omega | (simp only [List.length_set, List.length_replicate]; first | assumption | omega)) ?_)
     intro w1 hE1
     clear hE0
     simp only [qpB, qpC] at hE1
     simp only [qZ]
     repeat ((fail_if_success refine sqx ?_); go_step)
     refine mqA ?_
     refine wqv (v_add (n := 1) rfl rfl rfl (w_i64 (by omega))) ?_
     refine mqB ?_
     go_wp2
     go_roundw
     case rel => exact ⟨K + 1, _, by omega, rfl, HL.out.1, Lib.hid HL.out.2, hE1⟩
     case measure => simp [intOf]; omega
  ·have hK' : K = 8 := by omega
   subst hK'
   have hs := hsum.out
   rw [← big8_eq, Nat.mod_eq_of_lt Hm.out] at hs
   obtain ⟨T, hT⟩ : ∃ T, T = m * n := ⟨_, rfl⟩
   rw [← hT] at hs
   have HTe := Lib.hid hT
   have hT2 : T / big8 < big8 := by
    apply Nat.div_lt_of_lt_mul
    rw [hT]
    exact Nat.mul_lt_mul'' Hm.out Hn.out
   have HT2 := Lib.hid hT2
   have HgX := Lib.hid (fun i => hs ▸ (val_div_mod hW.dg (by decide) i).symm)
   have hX16 := hW.len
   clear hT2 hs hsum hW hT
   repeat ((fail_if_success refine sqx ?_); go_step)
   refine mqA ?_
   refine wqv (v_lss (n := 8) rfl rfl rfl) ?_
   repeat ((fail_if_success refine sqx ?_); go_step)
   refine wl_step (sqA (ints .u32 (List.replicate 8 0)) hE0 ?_)
   intro g4 w1 hb1 hE1
   clear hE0
   simp only [qZ]
   repeat ((fail_if_success refine sqx ?_); go_step)
   refine mqC ?_
   repeat ((fail_if_success refine sqx ?_); go_step)
   refine mqC ?_
   go_wp2
   go_loopw [11, 12] (fun uv i wr => ∃ (K u : Nat) (Y : List Nat), K ≤ 8 ∧ i = .int .i64 K ∧ uv = .int .u64 u ∧ u < 40 ∧ Fill K Y ∧ Hid (val 4294967296 Y + 4294967296 ^ K * u = T % 4294967296 ^ K + 38 * (T / 4294967296 ^ 8 % 4294967296 ^ K)) ∧ Env w [⟨g4, 41, ints .u32 Y⟩, ⟨g3, 112, ints .u64 X⟩, ⟨g2, 41, ints .u32 (List.replicate 8 0)⟩, ⟨g1, 41, ints .u32 (digs 4294967296 8 n)⟩, ⟨g0, 41, ints .u32 (digs 4294967296 8 m)⟩] wr) (fun _ i _ => 8 - (intOf i).toNat)
   case atStart => exact ⟨0, 0, _, Nat.zero_le _, rfl, rfl, by decide, Fill.start, Lib.hid (by rw [val_replicate, Nat.pow_zero, Nat.mod_one, Nat.mod_one]), hE1⟩
   case round =>
    clear hE1
    obtain ⟨K, u, Y, hK, rfl, rfl, hu, hF, hsum, hE0⟩ := hrel
    have hY8 := hF.len
    by_cases hK8 : K < 8
    ·have hga := HgX.out K
     have hgb := HgX.out (K + 8)
     rw [high_digit] at hgb
     have ha : T / 4294967296 ^ K % 4294967296 < 4294967296 := Nat.mod_lt _ (by decide)
     have hb : T / 4294967296 ^ 8 / 4294967296 ^ K % 4294967296 < 4294967296 := Nat.mod_lt _ (by decide)
     have hm1 := mod_digit T K
     have hn1 := mod_digit (T / 4294967296 ^ 8) K
     obtain ⟨a, hae⟩ : ∃ a, T / 4294967296 ^ K % 4294967296 = a := ⟨_, rfl⟩
     obtain ⟨b, hbe⟩ : ∃ b, T / 4294967296 ^ 8 / 4294967296 ^ K % 4294967296 = b := ⟨_, rfl⟩
     rw [hae] at hga ha hm1
     rw [hbe] at hgb hb hn1
     have hdg := fold_digit ha hb hu
     have hst := hF.step hK8 (show (a + 38 * b + u) % 4294967296 < 4294967296 from Nat.mod_lt _ (by decide))
     have hnew : Hid (val 4294967296 (Y.set K ((a + 38 * b + u) % 4294967296)) + 4294967296 ^ (K + 1) * ((a + 38 * b + u) / 4294967296) = T % 4294967296 ^ (K + 1) + 38 * (T / 4294967296 ^ 8 % 4294967296 ^ (K + 1))) := Lib.hid (by
      rw [hst.2, hm1, hn1, Nat.pow_succ]
      exact fold_step hsum.out hdg.1 rfl)
     have hF1 := Lib.hid hst.1
     have hu1 := hdg.2
     have Hga := Lib.hid hga
     have Hgb := Lib.hid hgb
     clear hdg hm1 hn1 hst hsum hF hga hgb hae hbe
     repeat ((fail_if_success refine sqx ?_); go_step)
     refine mqA ?_
     refine wqv (v_lss (n := 8) rfl rfl rfl) ?_
     repeat ((fail_if_success refine sqx ?_); go_step)
     refine wp_region_B (n := 12) 11 (by kernel_rfl) rfl hE0 ?_
     intro w1 hb1 hE1
     clear hE0
     refine tqB 0 rfl (v_moveT (.inl rfl) rfl) ?_
     refine tqB 1 rfl (vqI Tryz.underlying112) ?_
     refine tqB 2 rfl (vqC 1 hE1 Tryz.underlying50) ?_
     rw [Hga.out]
     refine tqB 3 rfl (v_moveT (.inl rfl) rfl) ?_
     refine tqB 4 rfl (v_add (n := 8) rfl rfl rfl (w_i64 (by omega))) ?_
     refine tqB 5 rfl (vqI Tryz.underlying112) ?_
     refine tqB 6 rfl (vqC 1 hE1 Tryz.underlying50) ?_
     rw [Hgb.out]
     refine tqB 7 rfl (v_mul (m := 38) rfl rfl rfl (by first | exact w_u64 (by omega) | exact w_u64m _)) ?_
     refine tqB 8 rfl (v_add rfl rfl rfl (by first | exact w_u64 (by omega) | exact w_u64m _)) ?_
     refine tqB 9 rfl (v_moveT (.inl rfl) rfl) ?_
     refine tqB 10 rfl (v_add rfl rfl rfl (by first | exact w_u64 (by omega) | exact w_u64m _)) ?_
     refine sqB 11 rfl (st_val rfl (v_moveT (.inr rfl) rfl) ?_)
     refine ⟨fun _ => Below.refl _ _, ?_⟩
     simp only [qZ]
     refine wpB_done (by kernel_rfl) ?_ _
     repeat ((fail_if_success refine sqx ?_); go_step)
     refine mqA ?_
     refine mqA ?_
     refine wqv (v_convInt rfl rfl Tryz.underlying50 Tryz.underlying39 (w_u32m _)) ?_
     refine wqv (vqI Tryz.underlying41) ?_
     refine wl_step (st_putN (i := 0) hE1 rfl rfl rfl rfl rfl (by kernel_rfl) (by first | assumption | omega | (simp only [List.length_set, List.length_replicate]; first | assumption | omega)) ?_)
     intro w2 hE2
     clear hE1
     simp only [qpB, qpC] at hE2
     simp only [qZ]
     repeat ((fail_if_success refine sqx ?_); go_step)
     refine mqA ?_
     refine wqv (v_shrC (s := 32) (d := 4294967296) rfl rfl rfl (by decide) (by decide)) ?_
     refine mqB ?_
     repeat ((fail_if_success refine sqx ?_); go_step)
     refine mqA ?_
     refine wqv (v_add (n := 1) rfl rfl rfl (w_i64 (by omega))) ?_
     refine mqB ?_
     go_wp2
     go_roundw
     case rel => exact ⟨K + 1, _, _, by omega, rfl, rfl, hu1, hF1.out, hnew, hE2⟩
     case measure => simp [intOf]; omega
    ·have hK' : K = 8 := by omega
     subst hK'
     have hs := hsum.out
     rw [← big8_eq, Nat.mod_eq_of_lt HT2.out] at hs
     have HmT : Hid ((val 4294967296 Y + big8 * u) % pN = T % pN) := Lib.hid (by rw [hs, fold_mod])
     have hu2 : u < 4294967296 := by omega
     obtain ⟨Z, hZ⟩ : ∃ Z, val 4294967296 Y + big8 * u = Z := ⟨_, rfl⟩
     rw [hZ] at HmT
     have HZ := Lib.hid hZ
     clear hs hsum hZ hK hK8
     repeat ((fail_if_success refine sqx ?_); go_step)
     refine mqA ?_
     refine wqv (v_lss (n := 8) rfl rfl rfl) ?_
     go_wp2
     go_loopg [11] (Z) (fun V uv wr => ∃ (u : Nat) (Y : List Nat), uv = .int .u64 u ∧ u < 4294967296 ∧ Fill 8 Y ∧ Hid (val 4294967296 Y + big8 * u = V) ∧ Hid (V % pN = T % pN) ∧ Env w [⟨g4, 41, ints .u32 Y⟩, ⟨g3, 112, ints .u64 X⟩, ⟨g2, 41, ints .u32 (List.replicate 8 0)⟩, ⟨g1, 41, ints .u32 (digs 4294967296 8 n)⟩, ⟨g0, 41, ints .u32 (digs 4294967296 8 m)⟩] wr)
     case atStart => exact ⟨u, Y, rfl, hu2, hF, HZ, HmT, hE0⟩
     case round =>
      clear hE0 HZ HmT hu2 hu hF hY8
      skip
      obtain ⟨u, Y, rfl, hu, hF, hsum, hmod, hE0⟩ := hrel
      have hY8 := hF.len
      have hYlt := hF.lt
      by_cases hu0 : 0 < u
      ·obtain ⟨V, hV⟩ : ∃ V, V = val 4294967296 Y := ⟨_, rfl⟩
       have hs0 := hsum.out
       rw [← hV] at hs0 hYlt
       have HV := Lib.hid hV
       have HVlt := Lib.hid hYlt
       have Hgk : Hid (V + big8 * u = gk) := Lib.hid hs0
       clear hs0 hYlt hsum hV
       repeat ((fail_if_success refine sqx ?_); go_step)
       refine mqA ?_
       refine wqv (v_gtr (n := 0) rfl rfl rfl) ?_
       repeat ((fail_if_success refine sqy ?_); go_step)
       refine cqT ?_
       skip
       repeat ((fail_if_success refine sqx ?_); go_step)
       refine mqA ?_
       refine wqv (v_mul (m := 38) rfl rfl rfl (by first | exact w_u64 (by omega) | exact w_u64m _)) ?_
       refine mqB ?_
       repeat ((fail_if_success refine sqx ?_); go_step)
       refine mqC ?_
       repeat ((fail_if_success refine sqx ?_); go_step)
       refine mqC ?_
       go_wp2
       go_loopw [14, 15] (fun cv i wr => ∃ (J c : Nat) (Y : List Nat), J ≤ 8 ∧ i = .int .i64 J ∧ cv = .int .u64 c ∧ c < 1099511627776 ∧ Fill 8 Y ∧ Hid (val 4294967296 Y + 4294967296 ^ J * c = V + 38 * u) ∧ Env w [⟨g4, 41, ints .u32 Y⟩, ⟨g3, 112, ints .u64 X⟩, ⟨g2, 41, ints .u32 (List.replicate 8 0)⟩, ⟨g1, 41, ints .u32 (digs 4294967296 8 n)⟩, ⟨g0, 41, ints .u32 (digs 4294967296 8 m)⟩] wr) (fun _ i _ => 8 - (intOf i).toNat)
       case atStart => exact ⟨0, 38 * u, Y, Nat.zero_le _, rfl, rfl, by omega, hF, Lib.hid (by rw [HV.out, Nat.pow_zero, Nat.one_mul]), hE0⟩
       case round =>
        clear hE0 hF hY8 HV
        skip
        obtain ⟨J, c, Y, hJ, rfl, rfl, hc, hF, hsum, hE0⟩ := hrel
        have hY8 := hF.len
        by_cases hJ8 : J < 8
        ·obtain ⟨y, hy⟩ : ∃ y, Y.getD J 0 = y := ⟨_, rfl⟩
         have hyl : y < 4294967296 := hy ▸ hF.dg.getD (by decide) _
         have hr := hF.carry hJ8 hy hc hsum.out
         have Hy := Lib.hid hy
         have hc1 := hr.2.1
         have HR := Lib.hid hr
         clear hy hr hsum hF
         repeat ((fail_if_success refine sqx ?_); go_step)
         refine mqA ?_
         refine wqv (v_lss (n := 8) rfl rfl rfl) ?_
         repeat ((fail_if_success refine sqx ?_); go_step)
         refine mqA ?_
         refine mqA ?_
         refine wqv (vqI Tryz.underlying41) ?_
         refine wqv (vqC 0 hE0 Tryz.underlying39) ?_
         rw [Hy.out]
         refine wqv (v_convInt rfl rfl Tryz.underlying39 Tryz.underlying50 (by first | exact w_u64 (by omega) | exact w_u64m _)) ?_
         refine wqv (v_add rfl rfl rfl (by first | exact w_u64 (by omega) | exact w_u64m _)) ?_
         refine mqB ?_
         repeat ((fail_if_success refine sqx ?_); go_step)
         refine mqA ?_
         refine mqA ?_
         refine wqv (v_convInt rfl rfl Tryz.underlying50 Tryz.underlying39 (w_u32m _)) ?_
         refine wqv (vqI Tryz.underlying41) ?_
         refine wl_step (st_putN (i := 0) hE0 rfl rfl rfl rfl rfl (by kernel_rfl) (by first | assumption | omega | (simp only [List.length_set, List.length_replicate]; first | assumption | omega)) ?_)
         intro w1 hE1
         clear hE0
         simp only [qpB, qpC] at hE1
         simp only [qZ]
         repeat ((fail_if_success refine sqx ?_); go_step)
         refine mqA ?_
         refine wqv (v_shrC (s := 32) (d := 4294967296) rfl rfl rfl (by decide) (by decide)) ?_
         refine mqB ?_
         repeat ((fail_if_success refine sqx ?_); go_step)
         refine mqA ?_
         refine wqv (v_add (n := 1) rfl rfl rfl (w_i64 (by omega))) ?_
         refine mqB ?_
         go_wp2
         go_roundw
         case rel => exact ⟨J + 1, _, _, by omega, rfl, rfl, hc1, HR.out.1, Lib.hid HR.out.2.2, hE1⟩
         case measure => simp [intOf]; omega
        ·have hJ' : J = 8 := by omega
         subst hJ'
         have hs := hsum.out
         rw [← big8_eq] at hs
         have hcs := fold_small HVlt.out hu hs
         have hnew : Hid (val 4294967296 Y + big8 * c = V + 38 * u) := Lib.hid hs
         have hmod2 : Hid ((V + 38 * u) % pN = T % pN) := Lib.hid (by rw [fold_again, Hgk.out, hmod.out])
         have hlt2 : V + 38 * u < gk := by rw [← Hgk.out]; exact fold_less hu0
         have Hlt2 := Lib.hid hlt2
         clear hs hsum hlt2
         repeat ((fail_if_success refine sqx ?_); go_step)
         refine mqA ?_
         refine wqv (v_lss (n := 8) rfl rfl rfl) ?_
         repeat ((fail_if_success refine sqx ?_); go_step)
         refine mqA ?_
         refine mqB ?_
         go_wp2
         go_roundg (V + 38 * u)
         case measure => exact Hlt2.out
         case rel => exact ⟨c, Y, rfl, hcs, hF, hnew, hmod2, hE0⟩
      ·have hu' : u = 0 := by omega
       subst hu'
       have hs0 := hsum.out
       rw [Nat.mul_zero, Nat.add_zero] at hs0
       have hXe := hF.eq
       rw [hs0] at hXe hYlt
       rw [hXe] at hE0
       have HD := fun w => down_any hYlt w
       rw [hmod.out] at HD
       have HD2 := Lib.hid HD
       have hl8 := nm_len gk
       have hl9 := nm_len (T % pN)
       clear HD hs0 hXe hYlt hsum hF hmod
       repeat ((fail_if_success refine sqx ?_); go_step)
       refine mqA ?_
       refine wqv (v_gtr (n := 0) rfl rfl rfl) ?_
       repeat ((fail_if_success refine sqy ?_); go_step)
       refine cqF ?_
       skip
       repeat ((fail_if_success refine sqx ?_); go_step)
       refine wqv (vqL 0 8 hE0 Tryz.underlying41) ?_
       refine wl_step (st_gives hE0 rfl (run_call rfl Tryz.call81) (HD2.out _) ?_)
       intro w1 hb1 hE1
       clear hE0
       simp only [qZ]
       refine wl_step (sqS 2 8 hE1 ?_)
       intro w2 hE2
       clear hE1
       simp only [qpB, qpC] at hE2
       simp only [qZ]
       repeat ((fail_if_success refine sqx ?_); go_step)
       refine bodyPost_ret (results_cell_row rfl _ _ _ _ _ (0, 0) _ rfl (hE2.get (i := 2) rfl) Tryz.underlying41 rfl (szqA (n := 8))) rfl ⟨by rw [HTe.out], hE2.below⟩
end Go.Proofs.YthddoelflmoedaaGreat
namespace Go.Proofs.YthddoelflmoedaaGreat
open Go.RowKit
set_option maxRecDepth 100000

theorem bit_of {x r : Nat} (hr : r < 8) : x % 256 / 2 ^ r % 2 = x / 2 ^ r % 2 := by
 rcases (show r = 0 ∨ r = 1 ∨ r = 2 ∨ r = 3 ∨ r = 4 ∨ r = 5 ∨ r = 6 ∨ r = 7 by omega) with rfl | rfl | rfl | rfl | rfl | rfl | rfl | rfl
 ·show x % 256 / 1 % 2 = x / 1 % 2
  omega
 ·show x % 256 / 2 % 2 = x / 2 % 2
  omega
 ·show x % 256 / 4 % 2 = x / 4 % 2
  omega
 ·show x % 256 / 8 % 2 = x / 8 % 2
  omega
 ·show x % 256 / 16 % 2 = x / 16 % 2
  omega
 ·show x % 256 / 32 % 2 = x / 32 % 2
  omega
 ·show x % 256 / 64 % 2 = x / 64 % 2
  omega
 ·show x % 256 / 128 % 2 = x / 128 % 2
  omega
theorem pow8 (K : Nat) : 2 ^ K = 256 ^ (K / 8) * 2 ^ (K % 8) := by
 have e : (256 : Nat) = 2 ^ 8 := by decide
 rw [e, ← Nat.pow_mul, ← Nat.pow_add, Nat.div_add_mod]
theorem bit_digit (E K : Nat) : E / 256 ^ (K / 8) % 256 / 2 ^ (K % 8) % 2 = E / 2 ^ K % 2 := by
 rw [bit_of (Nat.mod_lt _ (by decide)), Nat.div_div_eq_div_mul, ← pow8]
theorem pow_bit1 {x E K A B : Nat} (hA : A = x ^ (E % 2 ^ K) % pN) (hB : B = x ^ 2 ^ K % pN) (h : E / 2 ^ K % 2 = 1) : A * B % pN = x ^ (E % 2 ^ (K + 1)) % pN := by
 rw [hA, hB, ← Nat.mul_mod, ← Nat.pow_add, Nat.pow_succ 2 K, Nat.mod_mul, h, Nat.mul_one]
theorem pow_bit0 {x E K A : Nat} (hA : A = x ^ (E % 2 ^ K) % pN) (h : ¬ E / 2 ^ K % 2 = 1) : A = x ^ (E % 2 ^ (K + 1)) % pN := by
 have h0 : E / 2 ^ K % 2 = 0 := by omega
 rw [hA, Nat.pow_succ 2 K, Nat.mod_mul, h0, Nat.mul_zero, Nat.add_zero]
theorem pow_base {x K B : Nat} (hB : B = x ^ 2 ^ K % pN) : B * B % pN = x ^ 2 ^ (K + 1) % pN := by
 rw [hB, ← Nat.mul_mod, ← Nat.pow_add, Nat.pow_succ 2 K, Nat.mul_two]
theorem pN_lt : pN < big8 := by decide
theorem mod_big (n : Nat) : n % pN < big8 := Nat.lt_trans (Nat.mod_lt _ (by decide)) pN_lt

set_option maxHeartbeats 8000000 in
theorem rPow_any {x : Nat} {e : List Nat} (hx : x < pN) (he : Digs 256 e) (hlen : e.length = 32) (w : World) : Gives 82 #[nm x, .agg (ints .u8 e)] w (nm (x ^ val 256 e % pN)) := by
 have hx8 := nm_len x
 have hl1 := nm_len 1
 obtain ⟨E, hE⟩ : ∃ E, val 256 e = E := ⟨_, rfl⟩
 have HgE := Lib.hid (fun i => hE ▸ (val_div_mod he (by decide) i).symm)
 have hE256 : E < 2 ^ 256 := by
  have := val_lt he
  rw [hlen, hE] at this
  exact this
 have HE := Lib.hid hE256
 rw [hE]
 have HxB : Hid (x = x ^ 2 ^ 0 % pN) := Lib.hid (by rw [Nat.pow_zero, Nat.pow_one, Nat.mod_eq_of_lt hx])
 have HA0 : Hid (1 = x ^ (E % 2 ^ 0) % pN) := Lib.hid (by rw [Nat.pow_zero, Nat.mod_one, Nat.pow_zero]; decide)
 have Hx := Lib.hid (Nat.lt_trans hx pN_lt)
 clear hx he hE hE256
 have hE0 := Env.nil w
 go_enter Tryz.func82, Tryz.ntmps82
 repeat ((fail_if_success refine sqx ?_); go_step)
 refine wl_step (st_boxA hE0 rfl rfl rfl ?_)
 intro g0 w1 hb1 hE1
 clear hE0
 simp only [qZ]
 refine wl_step (st_boxA hE1 rfl rfl rfl ?_)
 intro g1 w2 hb2 hE2
 clear hE1
 simp only [qZ]
 refine wl_step (sqA (ints .u32 (List.replicate 8 0)) hE2 ?_)
 intro g2 w3 hb3 hE3
 clear hE2
 simp only [qZ]
 repeat ((fail_if_success refine sqx ?_); go_step)
 refine wl_step (st_gives hE3 rfl (run_call rfl Tryz.call42) (rSmall_any (n := 1) (by decide) _) ?_)
 intro w4 hb4 hE4
 clear hE3
 simp only [qZ]
 refine wl_step (sqA (ints .u32 (List.replicate 8 0)) hE4 ?_)
 intro g3 w5 hb5 hE5
 clear hE4
 simp only [qZ]
 refine wl_step (sqS 0 8 hE5 ?_)
 intro w6 hE6
 clear hE5
 simp only [qpB, qpC] at hE6
 simp only [qZ]
 repeat ((fail_if_success refine sqx ?_); go_step)
 refine mqC ?_
 go_wp2
 go_loopw [6] (fun i wr => ∃ (K A B : Nat), K ≤ 256 ∧ i = .int .i64 K ∧ Hid (A = x ^ (E % 2 ^ K) % pN) ∧ Hid (B = x ^ 2 ^ K % pN) ∧ Hid (A < big8) ∧ Hid (B < big8) ∧ Env w [⟨g3, 41, ints .u32 (digs 4294967296 8 A)⟩, ⟨g2, 41, ints .u32 (List.replicate 8 0)⟩, ⟨g1, 22, ints .u8 e⟩, ⟨g0, 41, ints .u32 (digs 4294967296 8 B)⟩] wr) (fun i _ => 256 - (intOf i).toNat)
 case atStart => exact ⟨0, 1, x, Nat.zero_le _, rfl, HA0, HxB, Lib.hid (by decide), Hx, hE6⟩
 case round =>
  clear hE6
  obtain ⟨K, A, B, hK, rfl, hA, hB, hAl, hBl, hE0⟩ := hrel
  have hA8 := nm_len A
  have hB8 := nm_len B
  by_cases hK8 : K < 256
  ·have hg := HgE.out (K / 8)
   obtain ⟨c, hc⟩ : ∃ c, E / 256 ^ (K / 8) % 256 = c := ⟨_, rfl⟩
   have hb := bit_digit E K
   rw [hc] at hg hb
   have hc8 : c < 256 := hc ▸ Nat.mod_lt _ (by decide)
   have Hg := Lib.hid hg
   have hM1 := Lib.hid (fun w => rMul_any hAl.out hBl.out w)
   have hM2 := Lib.hid (fun w => rMul_any hBl.out hBl.out w)
   have hl2 := nm_len (A * B % pN)
   have hl3 := nm_len (B * B % pN)
   have Hb := Lib.hid hb
   clear hg hc hb
   by_cases hbit : E / 2 ^ K % 2 = 1
   ·have Hbit := Lib.hid (by rw [Hb.out]; exact decide_eq_true hbit : decide (c / 2 ^ (K % 8) % 2 = 1) = true)
    have hA2 := Lib.hid (pow_bit1 hA.out hB.out hbit)
    have hB2 := Lib.hid (pow_base hB.out)
    clear hbit
    repeat ((fail_if_success refine sqx ?_); go_step)
    refine mqA ?_
    refine wqv (v_lss (n := 256) rfl rfl rfl) ?_
    repeat ((fail_if_success refine sqx ?_); go_step)
    refine mqA ?_
    refine wqv (v_quo (n := 8) rfl rfl rfl (by omega) (w_i64 (by omega))) ?_
    refine wqv (vqI Tryz.underlying22) ?_
    refine wqv (vqC 2 hE0 Tryz.underlying5) ?_
    rw [Hg.out]
    refine mqA ?_
    refine wqv (v_rem (n := 8) rfl rfl rfl (by omega)) ?_
    refine wqv (v_shr rfl rfl rfl (by simp only [IntKind.bits]; omega)) ?_
    refine wqv (v_rem (n := 2) rfl rfl rfl (by omega)) ?_
    refine wqv (v_eql (n := 1) rfl rfl rfl) ?_
    rw [Hbit.out]
    repeat ((fail_if_success refine sqy ?_); go_step)
    refine cqT ?_
    skip
    repeat ((fail_if_success refine sqx ?_); go_step)
    refine wqv (vqL 0 8 hE0 Tryz.underlying41) ?_
    refine wqv (vqL 3 8 hE0 Tryz.underlying41) ?_
    refine wl_step (st_gives hE0 rfl (run_call rfl Tryz.call43) (hM1.out _) ?_)
    intro w1 hb1 hE1
    clear hE0
    simp only [qZ]
    refine wl_step (sqS 0 8 hE1 ?_)
    intro w2 hE2
    clear hE1
    simp only [qpB, qpC] at hE2
    simp only [qZ]
    repeat ((fail_if_success refine sqx ?_); go_step)
    refine wqv (vqL 3 8 hE2 Tryz.underlying41) ?_
    refine wqv (vqL 3 8 hE2 Tryz.underlying41) ?_
    refine wl_step (st_gives hE2 rfl (run_call rfl Tryz.call43) (hM2.out _) ?_)
    intro w3 hb3 hE3
    clear hE2
    simp only [qZ]
    refine wl_step (sqS 3 8 hE3 ?_)
    intro w4 hE4
    clear hE3
    simp only [qpB, qpC] at hE4
    simp only [qZ]
    repeat ((fail_if_success refine sqx ?_); go_step)
    refine mqA ?_
    refine wqv (v_add (n := 1) rfl rfl rfl (w_i64 (by omega))) ?_
    refine mqB ?_
    go_wp2
    go_roundw
    case rel => exact ⟨K + 1, _, _, by omega, rfl, hA2, hB2, Lib.hid (mod_big _), Lib.hid (mod_big _), hE4⟩
    case measure => simp [intOf]; omega
   ·have Hbit := Lib.hid (by rw [Hb.out]; exact decide_eq_false hbit : decide (c / 2 ^ (K % 8) % 2 = 1) = false)
    have hA2 := Lib.hid (pow_bit0 hA.out hbit)
    have hB2 := Lib.hid (pow_base hB.out)
    clear hbit
    repeat ((fail_if_success refine sqx ?_); go_step)
    refine mqA ?_
    refine wqv (v_lss (n := 256) rfl rfl rfl) ?_
    repeat ((fail_if_success refine sqx ?_); go_step)
    refine mqA ?_
    refine wqv (v_quo (n := 8) rfl rfl rfl (by omega) (w_i64 (by omega))) ?_
    refine wqv (vqI Tryz.underlying22) ?_
    refine wqv (vqC 2 hE0 Tryz.underlying5) ?_
    rw [Hg.out]
    refine mqA ?_
    refine wqv (v_rem (n := 8) rfl rfl rfl (by omega)) ?_
    refine wqv (v_shr rfl rfl rfl (by simp only [IntKind.bits]; omega)) ?_
    refine wqv (v_rem (n := 2) rfl rfl rfl (by omega)) ?_
    refine wqv (v_eql (n := 1) rfl rfl rfl) ?_
    rw [Hbit.out]
    repeat ((fail_if_success refine sqy ?_); go_step)
    refine cqF ?_
    skip
    repeat ((fail_if_success refine sqx ?_); go_step)
    refine wqv (vqL 3 8 hE0 Tryz.underlying41) ?_
    refine wqv (vqL 3 8 hE0 Tryz.underlying41) ?_
    refine wl_step (st_gives hE0 rfl (run_call rfl Tryz.call43) (hM2.out _) ?_)
    intro w1 hb1 hE1
    clear hE0
    simp only [qZ]
    refine wl_step (sqS 3 8 hE1 ?_)
    intro w2 hE2
    clear hE1
    simp only [qpB, qpC] at hE2
    simp only [qZ]
    repeat ((fail_if_success refine sqx ?_); go_step)
    refine mqA ?_
    refine wqv (v_add (n := 1) rfl rfl rfl (w_i64 (by omega))) ?_
    refine mqB ?_
    go_wp2
    go_roundw
    case rel => exact ⟨K + 1, _, _, by omega, rfl, hA2, hB2, hAl, Lib.hid (mod_big _), hE2⟩
    case measure => simp [intOf]; omega
  ·have hK' : K = 256 := by omega
   subst hK'
   have hA2 := hA.out
   rw [Nat.mod_eq_of_lt HE.out] at hA2
   have HA2 := Lib.hid hA2
   clear hA2
   repeat ((fail_if_success refine sqx ?_); go_step)
   refine mqA ?_
   refine wqv (v_lss (n := 256) rfl rfl rfl) ?_
   repeat ((fail_if_success refine sqx ?_); go_step)
   refine wqv (vqL 0 8 hE0 Tryz.underlying41) ?_
   refine wl_step (sqS 1 8 hE0 ?_)
   intro w1 hE1
   clear hE0
   simp only [qpB, qpC] at hE1
   simp only [qZ]
   repeat ((fail_if_success refine sqx ?_); go_step)
   refine bodyPost_ret (results_cell_row rfl _ _ _ _ _ (0, 0) _ rfl (hE1.get (i := 1) rfl) Tryz.underlying41 rfl (szqA (n := 8))) rfl ⟨by rw [HA2.out], hE1.below⟩
end Go.Proofs.YthddoelflmoedaaGreat
namespace Go.Proofs.YthddoelflmoedaaGreat
open Go.RowKit
set_option maxRecDepth 100000

set_option maxHeartbeats 2000000 in
theorem rInvert_any {x : Nat} (hx : x < pN) (w : World) : Gives 59 #[nm x] w (nm (x ^ (pN - 2) % pN)) := by
 have hm := fun w => minus_any (m := pN) (n := 2) pN_lt (by decide) w
 have e1 : (pN + big8 - 2) % big8 = pN - 2 := by decide
 have e2 : decide (pN < 2) = false := by decide
 rw [e1, e2] at hm
 have hb := fun w => rBytes_any (n := pN - 2) (by decide) w
 have hp := fun w => rPow_any (x := x) (e := digs 256 32 (pN - 2)) hx (digs_Digs (by decide) _ _) (digs_length _ _ _) w
 have e3 : val 256 (digs 256 32 (pN - 2)) = pN - 2 := by
  rw [val_digs]
  exact Nat.mod_eq_of_lt (by decide)
 rw [e3] at hp
 have hx8 := nm_len x
 obtain ⟨Q, hQ⟩ : ∃ Q, x ^ (pN - 2) % pN = Q := ⟨_, rfl⟩
 rw [hQ] at hp ⊢
 obtain ⟨D, hD⟩ : ∃ D, pN - 2 = D := ⟨_, rfl⟩
 rw [hD] at hp hm hb
 have hl1 := nm_len D
 have hl2 := nm_len Q
 have HM := Lib.hid hm
 have HB := Lib.hid hb
 have HP := Lib.hid hp
 clear hm hb hp e1 e2 e3 hQ hD hx
 have hE0 := Env.nil w
 go_enter Tryz.func59, Tryz.ntmps59
 repeat ((fail_if_success refine sqx ?_); go_step)
 refine wl_step (st_boxA hE0 rfl rfl rfl ?_)
 intro g0 w1 hb1 hE1
 clear hE0
 simp only [qZ]
 refine wl_step (sqA (ints .u32 (List.replicate 8 0)) hE1 ?_)
 intro g1 w2 hb2 hE2
 clear hE1
 simp only [qZ]
 repeat ((fail_if_success refine sqx ?_); go_step)
 refine wl_step (st_gives hE2 rfl (run_call rfl Tryz.call39) (P_any _) ?_)
 intro w3 hb3 hE3
 clear hE2
 simp only [qZ]
 refine wl_step (st_gives hE3 rfl (run_call rfl Tryz.call42) (rSmall_any (n := 2) (by decide) _) ?_)
 intro w4 hb4 hE4
 clear hE3
 simp only [qZ]
 refine wl_step (st_gives hE4 rfl (run_call rfl Tryz.call84) (HM.out _) ?_)
 intro w5 hb5 hE5
 clear hE4
 simp only [qZ]
 refine mqA ?_
 refine wqv (v_extract rfl rfl rfl) ?_
 refine wqv (v_extract rfl rfl rfl) ?_
 refine wl_step (sqA (ints .u32 (List.replicate 8 0)) hE5 ?_)
 intro g2 w6 hb6 hE6
 clear hE5
 simp only [qZ]
 refine wl_step (sqS 0 8 hE6 ?_)
 intro w7 hE7
 clear hE6
 simp only [qpB, qpC] at hE7
 simp only [qZ]
 refine mqB ?_
 repeat ((fail_if_success refine sqx ?_); go_step)
 refine wp_region_B (n := 5) 4 (by kernel_rfl) rfl hE7 ?_
 intro w8 hb8 hE8
 clear hE7
 refine tqB 0 rfl (vqL 2 8 hE8 Tryz.underlying41) ?_
 refine tqB 1 rfl (vqL 0 8 hE8 Tryz.underlying41) ?_
 refine sqB 2 rfl (st_gives hE8 rfl (run_call rfl Tryz.call60) (HB.out _) ?_)
 intro w9 hb9 hE9
 clear hE8
 refine ⟨fun _ => hb9, ?_⟩
 simp only [qZ]
 refine sqB 3 rfl (st_gives hE9 rfl (run_call rfl Tryz.call82) (HP.out _) ?_)
 intro w10 hb10 hE10
 clear hE9
 refine ⟨fun _ => hb10, ?_⟩
 simp only [qZ]
 refine sqB 4 rfl (sqS 1 8 hE10 ?_)
 intro w11 hE11
 clear hE10
 simp only [qpB, qpC] at hE11
 refine nqB ?_
 simp only [qZ]
 refine wpB_done (by kernel_rfl) ?_ _
 repeat ((fail_if_success refine sqx ?_); go_step)
 refine bodyPost_ret (results_cell_row rfl _ _ _ _ _ (0, 0) _ rfl (hE11.get (i := 1) rfl) Tryz.underlying41 rfl (szqA (n := 8))) rfl ⟨rfl, hE11.below⟩
end Go.Proofs.YthddoelflmoedaaGreat
namespace Go.Proofs.YthddoelflmoedaaGreat
open Go.RowKit
set_option maxRecDepth 100000

def halfAt (A K : Nat) : Nat := A % 4294967296 ^ K + 4294967296 ^ K * (A / 4294967296 ^ K / 2)
theorem halfAt_start {A : Nat} (hA : A < big8) : halfAt A 8 = A := by
 unfold halfAt
 rw [← big8_eq, Nat.mod_eq_of_lt hA, Nat.div_eq_of_lt hA]
 omega
theorem halfAt_end (A : Nat) : halfAt A 0 = A / 2 := by
 unfold halfAt
 rw [Nat.pow_zero, Nat.mod_one, Nat.div_one, Nat.zero_add, Nat.one_mul]
theorem halfAt_le (A K : Nat) : halfAt A K ≤ A := by
 unfold halfAt
 have h := Nat.div_add_mod A (4294967296 ^ K)
 have h2 : 4294967296 ^ K * (A / 4294967296 ^ K / 2) ≤ 4294967296 ^ K * (A / 4294967296 ^ K) := Nat.mul_le_mul_left _ (Nat.div_le_self _ _)
 omega
theorem halfAt_digit (A K : Nat) : halfAt A (K + 1) / 4294967296 ^ K % 4294967296 = A / 4294967296 ^ K % 4294967296 := by
 unfold halfAt
 have hP : 0 < 4294967296 ^ K := Nat.pow_pos (by decide)
 rw [mod_digit, Nat.pow_succ, Nat.add_assoc, Nat.mul_assoc (4294967296 ^ K), ← Nat.mul_add, Nat.add_mul_div_left _ _ hP, Nat.div_eq_of_lt (Nat.mod_lt _ hP), Nat.zero_add, Nat.add_mul_mod_self_left, Nat.mod_mod]
theorem halfAt_step {A K a u : Nat} (hA : A < big8) (hK : K < 8) (ha : A / 4294967296 ^ K % 4294967296 = a) (hu : A / 4294967296 ^ (K + 1) % 2 = u) :
  (digs 4294967296 8 (halfAt A (K + 1))).set K (a / 2 + u * 2147483648) = digs 4294967296 8 (halfAt A K) ∧ a / 2 + u * 2147483648 < 4294967296 ∧ A / 4294967296 ^ K % 2 = a % 2 := by
 have ha2 : a < 4294967296 := ha ▸ Nat.mod_lt _ (by decide)
 have hu2 : u < 2 := hu ▸ Nat.mod_lt _ (by decide)
 have hq : A / 4294967296 ^ K = a + 4294967296 * (A / 4294967296 ^ (K + 1)) := by
  rw [← ha, Nat.pow_succ, ← Nat.div_div_eq_div_mul]
  omega
 refine ⟨?_, by omega, by rw [hq]; clear hq; omega⟩
 have hb := big8_eq
 refine digs_set (by decide) hK (hb ▸ Nat.lt_of_le_of_lt (halfAt_le _ _) hA) (hb ▸ Nat.lt_of_le_of_lt (halfAt_le _ _) hA) (by omega) ?_
 rw [halfAt_digit, ha]
 unfold halfAt
 rw [Nat.pow_succ] at hu hq
 rw [mod_digit, ha, Nat.pow_succ, hq]
 generalize A / (4294967296 ^ K * 4294967296) = Q at *
 generalize 4294967296 ^ K = P at *
 have e : (a + 4294967296 * Q) / 2 = a / 2 + 4294967296 * (Q / 2) + 2147483648 * u := by omega
 rw [e]
 simp only [Nat.mul_add, Nat.mul_assoc]
 have e2 : P * (u * 2147483648) = P * (2147483648 * u) := by rw [Nat.mul_comm u]
 omega
end Go.Proofs.YthddoelflmoedaaGreat
