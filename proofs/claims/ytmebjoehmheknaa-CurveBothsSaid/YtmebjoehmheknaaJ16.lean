/-
  Layer 4, the document's answer: the plain part of the product.
  Layer 4, the document's answer: the product.
  Layer 4, the document's answer: the power, the inverse.
  Layer 4, the document's answer: the inverse; the law's own example.
-/
import Derived.Test.YtmebjoehmheknaaJ15
namespace Go.Proofs.Ytmebjoehmheknaa
open Go.RowKit
set_option linter.unusedVariables false
set_option linter.unusedSimpArgs false

/-- The wide row: sixteen digits, of which those from i on are naught. -/
structure Wide (i : Nat) (X : List Nat) : Prop where
  len : X.length = 16
  dg : Digs 4294967296 X
  zero : ∀ j, i ≤ j → X.getD j 0 = 0
theorem Wide.start : Wide 8 (List.replicate 16 0) := ⟨rfl, Digs.replicate (by decide) _, fun j _ => by rw [List.getD_eq_getElem?_getD, List.getElem?_replicate]; split <;> rfl⟩
theorem prod_le {a b : Nat} (ha : a < 4294967296) (hb : b < 4294967296) : a * b ≤ 18446744065119617025 := Nat.mul_le_mul (Nat.le_of_lt_succ ha : a ≤ 4294967295) (Nat.le_of_lt_succ hb : b ≤ 4294967295)
theorem getD_of {X : List Nat} {i x : Nat} (hi : i < X.length) (h : X.getD i 0 = x) : X[i] = x := by
  rw [← h]
  simp [List.getD, hi]

theorem Wide.row {X : List Nat} {K J a b x u s N Mn : Nat} (hW : Wide (K + 8) X) (hK : K < 8) (hJ : J < 8) (hx : X.getD (K + J) 0 = x) (ha : a < 4294967296) (hb : b < 4294967296) (hu : u < 4294967296) (hs : s = x + a * b + u)
    (h : val 4294967296 X + 4294967296 ^ (K + J) * u = Mn + 4294967296 ^ K * (a * N)) :
    Wide (K + 8) (X.set (K + J) (s % 4294967296)) ∧ s / 4294967296 < 4294967296 ∧ val 4294967296 (X.set (K + J) (s % 4294967296)) + 4294967296 ^ (K + (J + 1)) * (s / 4294967296) = Mn + 4294967296 ^ K * (a * (N + 4294967296 ^ J * b)) := by
  have hl : K + J < X.length := by rw [hW.len]; omega
  have hxl : x < 4294967296 := hx ▸ hW.dg.getD (by decide) _
  have hab := prod_le ha hb
  have hv := val_set (B := 4294967296) X (K + J) (s % 4294967296) hl
  rw [getD_of hl hx] at hv
  refine ⟨⟨by rw [List.length_set, hW.len], hW.dg.set _ (Nat.mod_lt _ (by decide)), fun j hj => ?_⟩, by omega, ?_⟩
  · rw [List.getD_eq_getElem?_getD, List.getElem?_set_ne (by omega), ← List.getD_eq_getElem?_getD]
    exact hW.zero j hj
  · have hd : s % 4294967296 + 4294967296 * (s / 4294967296) = x + a * b + u := by rw [← hs]; omega
    have e1 : 4294967296 ^ (K + (J + 1)) = 4294967296 ^ (K + J) * 4294967296 := by rw [← Nat.add_assoc, Nat.pow_succ]
    have e2 : 4294967296 ^ K * (a * (4294967296 ^ J * b)) = 4294967296 ^ (K + J) * (a * b) := by
      rw [Nat.pow_add, Nat.mul_left_comm a, Nat.mul_assoc]
    rw [e1, Nat.mul_add a, Nat.mul_add, e2]
    generalize 4294967296 ^ (K + J) = P at *
    have e3 : P * (s % 4294967296 + 4294967296 * (s / 4294967296)) = P * (x + a * b + u) := by rw [hd]
    simp only [Nat.mul_add] at e3
    rw [← Nat.mul_assoc] at e3
    omega
theorem Wide.leave {X : List Nat} {K a u m n : Nat} (hW : Wide (K + 8) X) (hK : K < 8) (hu : u < 4294967296) (hn : n < big8) (ha : m / 4294967296 ^ K % 4294967296 = a)
    (h : val 4294967296 X + 4294967296 ^ (K + 8) * u = m % 4294967296 ^ K * n + 4294967296 ^ K * (a * (n % 4294967296 ^ 8))) :
    Wide (K + 1 + 8) (X.set (K + 8) u) ∧ val 4294967296 (X.set (K + 8) u) = m % 4294967296 ^ (K + 1) * n := by
  have hl : K + 8 < X.length := by rw [hW.len]; omega
  have hv := val_set (B := 4294967296) X (K + 8) u hl
  rw [getD_of hl (hW.zero _ (Nat.le_refl _)), Nat.mul_zero, Nat.add_zero] at hv
  refine ⟨⟨by rw [List.length_set, hW.len], hW.dg.set _ hu, fun j hj => ?_⟩, ?_⟩
  · rw [List.getD_eq_getElem?_getD, List.getElem?_set_ne (by omega), ← List.getD_eq_getElem?_getD]
    exact hW.zero j (by omega)
  · rw [← big8_eq, Nat.mod_eq_of_lt hn, ← Nat.mul_assoc, ← Nat.add_mul, ← ha, ← mod_digit] at h
    rw [hv, h]

theorem fold_digit {a b u : Nat} (ha : a < 4294967296) (hb : b < 4294967296) (hu : u < 40) : (a + 38 * b + u) % 4294967296 + 4294967296 * ((a + 38 * b + u) / 4294967296) = a + 38 * b + u ∧ (a + 38 * b + u) / 4294967296 < 40 := by omega
theorem fold_step {V A B P d a b u u' s : Nat} (h : V + P * u = A + 38 * B) (hd : d + 4294967296 * u' = s) (hs : s = a + 38 * b + u) : V + P * d + P * 4294967296 * u' = A + P * a + 38 * (B + P * b) := by
  have e : P * (d + 4294967296 * u') = P * (a + 38 * b + u) := by rw [hd, hs]
  simp only [Nat.mul_add] at e ⊢
  rw [← Nat.mul_assoc, Nat.mul_left_comm P 38] at e
  omega
theorem high_digit (T K : Nat) : T / 4294967296 ^ (K + 8) = T / 4294967296 ^ 8 / 4294967296 ^ K := by
  rw [Nat.div_div_eq_div_mul, ← Nat.pow_add, Nat.add_comm]
theorem fold_mod (T : Nat) : (T % big8 + 38 * (T / big8)) % pN = T % pN := by
  have e : T = T % big8 + big8 * (T / big8) := by rw [Nat.add_comm]; exact (Nat.div_add_mod _ _).symm
  have eb : big8 = 38 + pN * 2 := by decide
  conv => rhs; rw [e]
  generalize T / big8 = H
  generalize T % big8 = L
  rw [eb, Nat.add_mul, ← Nat.add_assoc, Nat.mul_assoc, Nat.add_mul_mod_self_left]
theorem Fill.start8 {i : Nat} {X : List Nat} (h : Fill i X) : X.length = 8 ∧ Digs 4294967296 X := ⟨h.len, h.dg⟩
theorem Fill.all {X : List Nat} (hl : X.length = 8) (hd : Digs 4294967296 X) : Fill 8 X := ⟨hl, hd, fun j hj => by simp [List.getD, List.getElem?_eq_none (by omega : X.length ≤ j)]⟩
theorem Fill.carry {X : List Nat} {J c y S : Nat} (h : Fill 8 X) (hJ : J < 8) (hy : X.getD J 0 = y) (hc : c < 1099511627776) (hS : val 4294967296 X + 4294967296 ^ J * c = S) :
    Fill 8 (X.set J ((c + y) % 4294967296)) ∧ (c + y) / 4294967296 < 1099511627776 ∧ val 4294967296 (X.set J ((c + y) % 4294967296)) + 4294967296 ^ (J + 1) * ((c + y) / 4294967296) = S := by
  have hl : J < X.length := by rw [h.len]; exact hJ
  have hyl : y < 4294967296 := hy ▸ h.dg.getD (by decide) _
  have hv := val_set (B := 4294967296) X J ((c + y) % 4294967296) hl
  rw [getD_of hl hy] at hv
  refine ⟨Fill.all (by rw [List.length_set, h.len]) (h.dg.set _ (Nat.mod_lt _ (by decide))), by omega, ?_⟩
  have hd : (c + y) % 4294967296 + 4294967296 * ((c + y) / 4294967296) = c + y := by omega
  rw [Nat.pow_succ]
  generalize 4294967296 ^ J = P at *
  have e3 : P * ((c + y) % 4294967296 + 4294967296 * ((c + y) / 4294967296)) = P * (c + y) := by rw [hd]
  simp only [Nat.mul_add] at e3
  rw [← Nat.mul_assoc] at e3
  omega
theorem fold_small {Y V u c : Nat} (hV : V < big8) (hu : u < 4294967296) (h : Y + big8 * c = V + 38 * u) : c < 4294967296 := by
  unfold big8 at *
  omega
theorem fold_less {V u : Nat} (hu : 0 < u) : V + 38 * u < V + big8 * u := by
  have : 38 * u < big8 * u := Nat.mul_lt_mul_of_pos_right (by decide) hu
  omega
theorem fold_again {V u : Nat} : (V + 38 * u) % pN = (V + big8 * u) % pN := by
  have eb : big8 = 38 + pN * 2 := by decide
  rw [eb, Nat.add_mul, ← Nat.add_assoc, Nat.mul_assoc, Nat.add_mul_mod_self_left]
end Go.Proofs.Ytmebjoehmheknaa
namespace Go.Proofs.Ytmebjoehmheknaa
open Go.RowKit
set_option linter.unusedVariables false
set_option linter.unusedSimpArgs false

set_option maxHeartbeats 16000000 in
theorem rMul_any {m n : Nat} (hm : m < big8) (hn : n < big8) (w : World) : Gives 54 #[nm m, nm n] w (nm (m * n % pN)) := by
  have hm8 := nm_len m
  have hn8 := nm_len n
  have Hgm := Lib.hid (nm_get m)
  have Hgn := Lib.hid (nm_get n)
  have Hm := Lib.hid hm
  have Hn := Lib.hid hn
  clear hm hn
  have hE0 := Env.nil w
  go_enter Try.func54, Try.ntmps54
  repeat ((fail_if_success with_reducible show wA ..); (fail_if_success with_reducible show wB ..); go_step)
  refine wl_step (st_boxA hE0 rfl rfl rfl ?_)
  intro g0 w1 hb1 hE1
  clear hE0
  simp only [Act.put, pA, pB, pC]
  refine wl_step (st_boxA hE1 rfl rfl rfl ?_)
  intro g1 w2 hb2 hE2
  clear hE1
  simp only [Act.put, pA, pB, pC]
  refine wl_step (st_alloc (zs := ints .u32 (List.replicate 8 0)) hE2 rfl rfl (fun w => by kernel_rfl) ?_)
  intro g2 w3 hb3 hE3
  clear hE2
  simp only [Act.put, pA, pB, pC]
  repeat ((fail_if_success with_reducible show wA ..); (fail_if_success with_reducible show wB ..); go_step)
  refine wl_step (st_alloc (zs := ints .u64 (List.replicate 16 0)) hE3 rfl rfl (fun w => by kernel_rfl) ?_)
  intro g3 w4 hb4 hE4
  clear hE3
  simp only [Act.put, pA, pB, pC]
  repeat ((fail_if_success with_reducible show wA ..); (fail_if_success with_reducible show wB ..); go_step)
  refine wv (v_moveC (.inr rfl)) ?_
  simp only [Act.put, pA, pB, pC]
  go_wp2
  go_loopw [6] (fun i wr => ∃ (K : Nat) (X : List Nat), K ≤ 8 ∧ i = .int .i64 K ∧ Wide (K + 8) X ∧ Hid (val 4294967296 X = m % 4294967296 ^ K * n) ∧ Env w [⟨g3, 91, ints .u64 X⟩, ⟨g2, 43, ints .u32 (List.replicate 8 0)⟩, ⟨g1, 43, ints .u32 (digs 4294967296 8 n)⟩, ⟨g0, 43, ints .u32 (digs 4294967296 8 m)⟩] wr) (fun i _ => 8 - (intOf i).toNat)
  case atStart => exact ⟨0, _, Nat.zero_le _, rfl, Wide.start, Lib.hid (by rw [val_replicate, Nat.pow_zero, Nat.mod_one, Nat.zero_mul]), hE4⟩
  case round =>
    clear hE4
    obtain ⟨K, X, hK, rfl, hW, hsum, hE0⟩ := hrel
    by_cases hK8 : K < 8
    · have hgm := Hgm.out K hK8
      have ha : m / 4294967296 ^ K % 4294967296 < 4294967296 := Nat.mod_lt _ (by decide)
      obtain ⟨a, hae⟩ : ∃ a, m / 4294967296 ^ K % 4294967296 = a := ⟨_, rfl⟩
      rw [hae] at hgm ha
      have Hae := Lib.hid hae
      have Hgk := Lib.hid hgm
      clear hae hgm
      repeat ((fail_if_success with_reducible show wA ..); (fail_if_success with_reducible show wB ..); go_step)
      refine wv (v_moveT (.inl rfl) rfl) ?_
      simp only [Act.put, pA, pB, pC]
      refine wv (v_lss (n := 8) rfl rfl rfl) ?_
      simp only [Act.put, pA, pB, pC]
      repeat ((fail_if_success with_reducible show wA ..); (fail_if_success with_reducible show wB ..); go_step)
      refine wv (v_moveC (.inr rfl)) ?_
      simp only [Act.put, pA, pB, pC]
      repeat ((fail_if_success with_reducible show wA ..); (fail_if_success with_reducible show wB ..); go_step)
      refine wv (v_moveC (.inr rfl)) ?_
      simp only [Act.put, pA, pB, pC]
      go_wp2
      go_loopw [7, 8] (fun uv i wr => ∃ (J u : Nat) (X : List Nat), J ≤ 8 ∧ i = .int .i64 J ∧ uv = .int .u64 u ∧ u < 4294967296 ∧ Wide (K + 8) X ∧ Hid (val 4294967296 X + 4294967296 ^ (K + J) * u = m % 4294967296 ^ K * n + 4294967296 ^ K * (a * (n % 4294967296 ^ J))) ∧ Env w [⟨g3, 91, ints .u64 X⟩, ⟨g2, 43, ints .u32 (List.replicate 8 0)⟩, ⟨g1, 43, ints .u32 (digs 4294967296 8 n)⟩, ⟨g0, 43, ints .u32 (digs 4294967296 8 m)⟩] wr) (fun _ i _ => 8 - (intOf i).toNat)
      case atStart => exact ⟨0, 0, _, Nat.zero_le _, rfl, rfl, by decide, hW, Lib.hid (by rw [hsum.out, Nat.pow_zero, Nat.mod_one, Nat.mul_zero, Nat.mul_zero, Nat.mul_zero]), hE0⟩
      case round =>
        clear hE0 hW hsum
        clear X
        obtain ⟨J, u, X, hJ, rfl, rfl, hu, hW, hsum, hE0⟩ := hrel
        have hX16 := hW.len
        by_cases hJ8 : J < 8
        · have hgn := Hgn.out J hJ8
          have hb : n / 4294967296 ^ J % 4294967296 < 4294967296 := Nat.mod_lt _ (by decide)
          have hn1 := mod_digit n J
          obtain ⟨b, hbe⟩ : ∃ b, n / 4294967296 ^ J % 4294967296 = b := ⟨_, rfl⟩
          rw [hbe] at hgn hb hn1
          obtain ⟨x, hx⟩ : ∃ x, X.getD (K + J) 0 = x := ⟨_, rfl⟩
          have hxl : x < 4294967296 := hx ▸ hW.dg.getD (by decide) _
          have hab := prod_le ha hb
          obtain ⟨s, hs⟩ : ∃ s, s = x + a * b + u := ⟨_, rfl⟩
          have hs64 : s < 18446744073709551616 := by omega
          have hr := hW.row hK8 hJ8 hx ha hb hu hs hsum.out
          rw [← hn1] at hr
          have Hgn2 := Lib.hid hgn
          have Hx := Lib.hid hx
          have Hs := Lib.hid hs
          have hu1 := hr.2.1
          have HR := Lib.hid hr
          clear hgn hx hs hr hbe hn1 hsum hW
          repeat ((fail_if_success with_reducible show wA ..); (fail_if_success with_reducible show wB ..); go_step)
          refine wv (v_moveT (.inl rfl) rfl) ?_
          simp only [Act.put, pA, pB, pC]
          refine wv (v_lss (n := 8) rfl rfl rfl) ?_
          simp only [Act.put, pA, pB, pC]
          repeat ((fail_if_success with_reducible show wA ..); (fail_if_success with_reducible show wB ..); go_step)
          refine wp_region_B (n := 18) 17 (by kernel_rfl) rfl hE0 ?_
          intro w1 hb1 hE1
          clear hE0
          refine wpB_take (i := 0) (by kernel_rfl) rfl (by kernel_rfl) (fun _ _ _ h => h) rfl (v_moveT (.inl rfl) rfl) ?_
          simp only [Act.put, pA, pB, pC]
          refine wpB_take (i := 1) (by kernel_rfl) rfl (by kernel_rfl) (fun _ _ _ h => h) rfl (v_moveT (.inl rfl) rfl) ?_
          simp only [Act.put, pA, pB, pC]
          refine wpB_take (i := 2) (by kernel_rfl) rfl (by kernel_rfl) (fun _ _ _ h => h) rfl (v_add rfl rfl rfl (w_i64 (by omega))) ?_
          simp only [Act.put, pA, pB, pC]
          refine wpB_take (i := 3) (by kernel_rfl) rfl (by kernel_rfl) (fun _ _ _ h => h) rfl (v_indexA0 rfl rfl rfl Try.underlying91 (by kernel_rfl) (by first | assumption | omega)) ?_
          simp only [Act.put, pA, pB, pC]
          refine wpB_take (i := 4) (by kernel_rfl) rfl (by kernel_rfl) (fun _ _ _ h => h) rfl (v_cell rfl rfl Try.underlying23 rfl (Env.cellv (i := 0) hE1 rfl (ints_get? _ _ _ (by first | assumption | omega | (simp; done) | (simp; omega))))) ?_
          simp only [Act.put, pA, pB, pC]
          rw [Hx.out]
          refine wpB_take (i := 5) (by kernel_rfl) rfl (by kernel_rfl) (fun _ _ _ h => h) rfl (v_moveT (.inl rfl) rfl) ?_
          simp only [Act.put, pA, pB, pC]
          refine wpB_take (i := 6) (by kernel_rfl) rfl (by kernel_rfl) (fun _ _ _ h => h) rfl (v_indexA0 rfl rfl rfl Try.underlying43 (by kernel_rfl) (by first | assumption | omega)) ?_
          simp only [Act.put, pA, pB, pC]
          refine wpB_take (i := 7) (by kernel_rfl) rfl (by kernel_rfl) (fun _ _ _ h => h) rfl (v_cell rfl rfl Try.underlying41 rfl (Env.cellv (i := 3) hE1 rfl (ints_get? _ _ _ (by first | assumption | omega | (simp; done) | (simp; omega))))) ?_
          simp only [Act.put, pA, pB, pC]
          rw [Hgk.out]
          refine wpB_take (i := 8) (by kernel_rfl) rfl (by kernel_rfl) (fun _ _ _ h => h) rfl (v_convInt rfl rfl Try.underlying41 Try.underlying23 (by first | exact w_u64 (by omega) | exact w_u64m _)) ?_
          simp only [Act.put, pA, pB, pC]
          refine wpB_take (i := 9) (by kernel_rfl) rfl (by kernel_rfl) (fun _ _ _ h => h) rfl (v_moveT (.inl rfl) rfl) ?_
          simp only [Act.put, pA, pB, pC]
          refine wpB_take (i := 10) (by kernel_rfl) rfl (by kernel_rfl) (fun _ _ _ h => h) rfl (v_indexA0 rfl rfl rfl Try.underlying43 (by kernel_rfl) (by first | assumption | omega)) ?_
          simp only [Act.put, pA, pB, pC]
          refine wpB_take (i := 11) (by kernel_rfl) rfl (by kernel_rfl) (fun _ _ _ h => h) rfl (v_cell rfl rfl Try.underlying41 rfl (Env.cellv (i := 2) hE1 rfl (ints_get? _ _ _ (by first | assumption | omega | (simp; done) | (simp; omega))))) ?_
          simp only [Act.put, pA, pB, pC]
          rw [Hgn2.out]
          refine wpB_take (i := 12) (by kernel_rfl) rfl (by kernel_rfl) (fun _ _ _ h => h) rfl (v_convInt rfl rfl Try.underlying41 Try.underlying23 (by first | exact w_u64 (by omega) | exact w_u64m _)) ?_
          simp only [Act.put, pA, pB, pC]
          refine wpB_take (i := 13) (by kernel_rfl) rfl (by kernel_rfl) (fun _ _ _ h => h) rfl (v_mul rfl rfl rfl (by first | exact w_u64 (by omega) | exact w_u64m _)) ?_
          simp only [Act.put, pA, pB, pC]
          refine wpB_take (i := 14) (by kernel_rfl) rfl (by kernel_rfl) (fun _ _ _ h => h) rfl (v_add rfl rfl rfl (by first | exact w_u64 (by omega) | exact w_u64m _)) ?_
          simp only [Act.put, pA, pB, pC]
          refine wpB_take (i := 15) (by kernel_rfl) rfl (by kernel_rfl) (fun _ _ _ h => h) rfl (v_moveT (.inl rfl) rfl) ?_
          simp only [Act.put, pA, pB, pC]
          refine wpB_take (i := 16) (by kernel_rfl) rfl (by kernel_rfl) (fun _ _ _ h => h) rfl (v_add rfl rfl rfl (by first | exact w_u64 (by omega) | exact w_u64m _)) ?_
          simp only [Act.put, pA, pB, pC]
          rw [← Hs.out]
          refine wpB_step (i := 17) (by kernel_rfl) rfl (st_val rfl (v_moveT (.inr rfl) rfl) ?_)
          refine ⟨fun _ => Below.refl _ _, ?_⟩
          simp only [Act.put, pA, pB, pC]
          refine wpB_done (by kernel_rfl) ?_ _
          repeat ((fail_if_success with_reducible show wA ..); (fail_if_success with_reducible show wB ..); go_step)
          refine wv (v_moveT (.inl rfl) rfl) ?_
          simp only [Act.put, pA, pB, pC]
          refine wv (v_moveT (.inl rfl) rfl) ?_
          simp only [Act.put, pA, pB, pC]
          refine wv (v_add rfl rfl rfl (w_i64 (by omega))) ?_
          simp only [Act.put, pA, pB, pC]
          refine wv (v_moveT (.inl rfl) rfl) ?_
          simp only [Act.put, pA, pB, pC]
          refine wv (v_mask (c := 4294967295) (s := 32) (d := 4294967296) rfl rfl rfl (by decide) (by decide) rfl (by simp only [IntKind.bits]; omega) (by decide)) ?_
          simp only [Act.put, pA, pB, pC]
          refine wv (v_indexA0 rfl rfl rfl Try.underlying91 (by kernel_rfl) (by first | assumption | omega)) ?_
          simp only [Act.put, pA, pB, pC]
          refine wl_step (st_putN (i := 0) hE1 rfl rfl rfl rfl rfl (by kernel_rfl) (by first | assumption | omega | (simp only [List.length_set, List.length_replicate]; first | assumption | omega)) ?_)
          intro w2 hE2
          clear hE1
          simp only [pB, pC] at hE2
          simp only [Act.put, pA, pB, pC]
          repeat ((fail_if_success with_reducible show wA ..); (fail_if_success with_reducible show wB ..); go_step)
          refine wv (v_moveT (.inl rfl) rfl) ?_
          simp only [Act.put, pA, pB, pC]
          refine wv (v_shrC (s := 32) (d := 4294967296) rfl rfl rfl (by decide) (by decide)) ?_
          simp only [Act.put, pA, pB, pC]
          refine wv (v_moveT (.inr rfl) rfl) ?_
          simp only [Act.put, pA, pB, pC]
          repeat ((fail_if_success with_reducible show wA ..); (fail_if_success with_reducible show wB ..); go_step)
          refine wv (v_moveT (.inl rfl) rfl) ?_
          simp only [Act.put, pA, pB, pC]
          refine wv (v_add (n := 1) rfl rfl rfl (w_i64 (by omega))) ?_
          simp only [Act.put, pA, pB, pC]
          refine wv (v_moveT (.inr rfl) rfl) ?_
          simp only [Act.put, pA, pB, pC]
          go_wp2
          go_roundw
          case rel => exact ⟨J + 1, _, _, by omega, rfl, rfl, hu1, HR.out.1, Lib.hid HR.out.2.2, hE2⟩
          case measure => simp [intOf]; omega
        · have hJ' : J = 8 := by omega
          subst hJ'
          have hl := hW.leave hK8 hu Hn.out Hae.out hsum.out
          have HL := Lib.hid hl
          clear hl hsum hW
          repeat ((fail_if_success with_reducible show wA ..); (fail_if_success with_reducible show wB ..); go_step)
          refine wv (v_moveT (.inl rfl) rfl) ?_
          simp only [Act.put, pA, pB, pC]
          refine wv (v_lss (n := 8) rfl rfl rfl) ?_
          simp only [Act.put, pA, pB, pC]
          repeat ((fail_if_success with_reducible show wA ..); (fail_if_success with_reducible show wB ..); go_step)
          refine wv (v_moveT (.inl rfl) rfl) ?_
          simp only [Act.put, pA, pB, pC]
          refine wv (v_add (n := 8) rfl rfl rfl (w_i64 (by omega))) ?_
          simp only [Act.put, pA, pB, pC]
          refine wv (v_moveT (.inl rfl) rfl) ?_
          simp only [Act.put, pA, pB, pC]
          refine wv (v_indexA0 rfl rfl rfl Try.underlying91 (by kernel_rfl) (by first | assumption | omega)) ?_
          simp only [Act.put, pA, pB, pC]
          refine wl_step (st_putN (i := 0) hE0 rfl rfl rfl rfl rfl (by kernel_rfl) (by first | assumption | omega | (simp only [List.length_set, List.length_replicate]; first | assumption | omega)) ?_)
          intro w1 hE1
          clear hE0
          simp only [pB, pC] at hE1
          simp only [Act.put, pA, pB, pC]
          repeat ((fail_if_success with_reducible show wA ..); (fail_if_success with_reducible show wB ..); go_step)
          refine wv (v_moveT (.inl rfl) rfl) ?_
          simp only [Act.put, pA, pB, pC]
          refine wv (v_add (n := 1) rfl rfl rfl (w_i64 (by omega))) ?_
          simp only [Act.put, pA, pB, pC]
          refine wv (v_moveT (.inr rfl) rfl) ?_
          simp only [Act.put, pA, pB, pC]
          go_wp2
          go_roundw
          case rel => exact ⟨K + 1, _, by omega, rfl, HL.out.1, Lib.hid HL.out.2, hE1⟩
          case measure => simp [intOf]; omega
    · have hK' : K = 8 := by omega
      subst hK'
      have hs := hsum.out
      rw [← big8_eq, Nat.mod_eq_of_lt Hm.out] at hs
      obtain ⟨T, hT⟩ : ∃ T, T = m * n := ⟨_, rfl⟩
      rw [← hT] at hs
      have HTe := Lib.hid hT
      have hT2 : T / big8 < big8 := by
        apply Nat.div_lt_of_lt_mul
        rw [hT]
        exact Nat.mul_lt_mul'' Hm.out Hn.out
      have HT2 := Lib.hid hT2
      have HgX := Lib.hid (fun i => hs ▸ (val_div_mod hW.dg (by decide) i).symm)
      have hX16 := hW.len
      clear hT2 hs hsum hW hT
      repeat ((fail_if_success with_reducible show wA ..); (fail_if_success with_reducible show wB ..); go_step)
      refine wv (v_moveT (.inl rfl) rfl) ?_
      simp only [Act.put, pA, pB, pC]
      refine wv (v_lss (n := 8) rfl rfl rfl) ?_
      simp only [Act.put, pA, pB, pC]
      repeat ((fail_if_success with_reducible show wA ..); (fail_if_success with_reducible show wB ..); go_step)
      refine wl_step (st_alloc (zs := ints .u32 (List.replicate 8 0)) hE0 rfl rfl (fun w => by kernel_rfl) ?_)
      intro g4 w1 hb1 hE1
      clear hE0
      simp only [Act.put, pA, pB, pC]
      repeat ((fail_if_success with_reducible show wA ..); (fail_if_success with_reducible show wB ..); go_step)
      refine wv (v_moveC (.inr rfl)) ?_
      simp only [Act.put, pA, pB, pC]
      repeat ((fail_if_success with_reducible show wA ..); (fail_if_success with_reducible show wB ..); go_step)
      refine wv (v_moveC (.inr rfl)) ?_
      simp only [Act.put, pA, pB, pC]
      go_wp2
      go_loopw [11, 12] (fun uv i wr => ∃ (K u : Nat) (Y : List Nat), K ≤ 8 ∧ i = .int .i64 K ∧ uv = .int .u64 u ∧ u < 40 ∧ Fill K Y ∧ Hid (val 4294967296 Y + 4294967296 ^ K * u = T % 4294967296 ^ K + 38 * (T / 4294967296 ^ 8 % 4294967296 ^ K)) ∧ Env w [⟨g4, 43, ints .u32 Y⟩, ⟨g3, 91, ints .u64 X⟩, ⟨g2, 43, ints .u32 (List.replicate 8 0)⟩, ⟨g1, 43, ints .u32 (digs 4294967296 8 n)⟩, ⟨g0, 43, ints .u32 (digs 4294967296 8 m)⟩] wr) (fun _ i _ => 8 - (intOf i).toNat)
      case atStart => exact ⟨0, 0, _, Nat.zero_le _, rfl, rfl, by decide, Fill.start, Lib.hid (by rw [val_replicate, Nat.pow_zero, Nat.mod_one, Nat.mod_one]), hE1⟩
      case round =>
        clear hE1
        obtain ⟨K, u, Y, hK, rfl, rfl, hu, hF, hsum, hE0⟩ := hrel
        have hY8 := hF.len
        by_cases hK8 : K < 8
        · have hga := HgX.out K
          have hgb := HgX.out (K + 8)
          rw [high_digit] at hgb
          have ha : T / 4294967296 ^ K % 4294967296 < 4294967296 := Nat.mod_lt _ (by decide)
          have hb : T / 4294967296 ^ 8 / 4294967296 ^ K % 4294967296 < 4294967296 := Nat.mod_lt _ (by decide)
          have hm1 := mod_digit T K
          have hn1 := mod_digit (T / 4294967296 ^ 8) K
          obtain ⟨a, hae⟩ : ∃ a, T / 4294967296 ^ K % 4294967296 = a := ⟨_, rfl⟩
          obtain ⟨b, hbe⟩ : ∃ b, T / 4294967296 ^ 8 / 4294967296 ^ K % 4294967296 = b := ⟨_, rfl⟩
          rw [hae] at hga ha hm1
          rw [hbe] at hgb hb hn1
          have hdg := fold_digit ha hb hu
          have hst := hF.step hK8 (show (a + 38 * b + u) % 4294967296 < 4294967296 from Nat.mod_lt _ (by decide))
          have hnew : Hid (val 4294967296 (Y.set K ((a + 38 * b + u) % 4294967296)) + 4294967296 ^ (K + 1) * ((a + 38 * b + u) / 4294967296) = T % 4294967296 ^ (K + 1) + 38 * (T / 4294967296 ^ 8 % 4294967296 ^ (K + 1))) := Lib.hid (by
            rw [hst.2, hm1, hn1, Nat.pow_succ]
            exact fold_step hsum.out hdg.1 rfl)
          have hF1 := Lib.hid hst.1
          have hu1 := hdg.2
          have Hga := Lib.hid hga
          have Hgb := Lib.hid hgb
          clear hdg hm1 hn1 hst hsum hF hga hgb hae hbe
          repeat ((fail_if_success with_reducible show wA ..); (fail_if_success with_reducible show wB ..); go_step)
          refine wv (v_moveT (.inl rfl) rfl) ?_
          simp only [Act.put, pA, pB, pC]
          refine wv (v_lss (n := 8) rfl rfl rfl) ?_
          simp only [Act.put, pA, pB, pC]
          repeat ((fail_if_success with_reducible show wA ..); (fail_if_success with_reducible show wB ..); go_step)
          refine wp_region_B (n := 12) 11 (by kernel_rfl) rfl hE0 ?_
          intro w1 hb1 hE1
          clear hE0
          refine wpB_take (i := 0) (by kernel_rfl) rfl (by kernel_rfl) (fun _ _ _ h => h) rfl (v_moveT (.inl rfl) rfl) ?_
          simp only [Act.put, pA, pB, pC]
          refine wpB_take (i := 1) (by kernel_rfl) rfl (by kernel_rfl) (fun _ _ _ h => h) rfl (v_indexA0 rfl rfl rfl Try.underlying91 (by kernel_rfl) (by first | assumption | omega)) ?_
          simp only [Act.put, pA, pB, pC]
          refine wpB_take (i := 2) (by kernel_rfl) rfl (by kernel_rfl) (fun _ _ _ h => h) rfl (v_cell rfl rfl Try.underlying23 rfl (Env.cellv (i := 1) hE1 rfl (ints_get? _ _ _ (by first | assumption | omega | (simp; done) | (simp; omega))))) ?_
          simp only [Act.put, pA, pB, pC]
          rw [Hga.out]
          refine wpB_take (i := 3) (by kernel_rfl) rfl (by kernel_rfl) (fun _ _ _ h => h) rfl (v_moveT (.inl rfl) rfl) ?_
          simp only [Act.put, pA, pB, pC]
          refine wpB_take (i := 4) (by kernel_rfl) rfl (by kernel_rfl) (fun _ _ _ h => h) rfl (v_add (n := 8) rfl rfl rfl (w_i64 (by omega))) ?_
          simp only [Act.put, pA, pB, pC]
          refine wpB_take (i := 5) (by kernel_rfl) rfl (by kernel_rfl) (fun _ _ _ h => h) rfl (v_indexA0 rfl rfl rfl Try.underlying91 (by kernel_rfl) (by first | assumption | omega)) ?_
          simp only [Act.put, pA, pB, pC]
          refine wpB_take (i := 6) (by kernel_rfl) rfl (by kernel_rfl) (fun _ _ _ h => h) rfl (v_cell rfl rfl Try.underlying23 rfl (Env.cellv (i := 1) hE1 rfl (ints_get? _ _ _ (by first | assumption | omega | (simp; done) | (simp; omega))))) ?_
          simp only [Act.put, pA, pB, pC]
          rw [Hgb.out]
          refine wpB_take (i := 7) (by kernel_rfl) rfl (by kernel_rfl) (fun _ _ _ h => h) rfl (v_mul (m := 38) rfl rfl rfl (by first | exact w_u64 (by omega) | exact w_u64m _)) ?_
          simp only [Act.put, pA, pB, pC]
          refine wpB_take (i := 8) (by kernel_rfl) rfl (by kernel_rfl) (fun _ _ _ h => h) rfl (v_add rfl rfl rfl (by first | exact w_u64 (by omega) | exact w_u64m _)) ?_
          simp only [Act.put, pA, pB, pC]
          refine wpB_take (i := 9) (by kernel_rfl) rfl (by kernel_rfl) (fun _ _ _ h => h) rfl (v_moveT (.inl rfl) rfl) ?_
          simp only [Act.put, pA, pB, pC]
          refine wpB_take (i := 10) (by kernel_rfl) rfl (by kernel_rfl) (fun _ _ _ h => h) rfl (v_add rfl rfl rfl (by first | exact w_u64 (by omega) | exact w_u64m _)) ?_
          simp only [Act.put, pA, pB, pC]
          refine wpB_step (i := 11) (by kernel_rfl) rfl (st_val rfl (v_moveT (.inr rfl) rfl) ?_)
          refine ⟨fun _ => Below.refl _ _, ?_⟩
          simp only [Act.put, pA, pB, pC]
          refine wpB_done (by kernel_rfl) ?_ _
          repeat ((fail_if_success with_reducible show wA ..); (fail_if_success with_reducible show wB ..); go_step)
          refine wv (v_moveT (.inl rfl) rfl) ?_
          simp only [Act.put, pA, pB, pC]
          refine wv (v_moveT (.inl rfl) rfl) ?_
          simp only [Act.put, pA, pB, pC]
          refine wv (v_convInt rfl rfl Try.underlying23 Try.underlying41 (w_u32m _)) ?_
          simp only [Act.put, pA, pB, pC]
          refine wv (v_indexA0 rfl rfl rfl Try.underlying43 (by kernel_rfl) (by first | assumption | omega)) ?_
          simp only [Act.put, pA, pB, pC]
          refine wl_step (st_putN (i := 0) hE1 rfl rfl rfl rfl rfl (by kernel_rfl) (by first | assumption | omega | (simp only [List.length_set, List.length_replicate]; first | assumption | omega)) ?_)
          intro w2 hE2
          clear hE1
          simp only [pB, pC] at hE2
          simp only [Act.put, pA, pB, pC]
          repeat ((fail_if_success with_reducible show wA ..); (fail_if_success with_reducible show wB ..); go_step)
          refine wv (v_moveT (.inl rfl) rfl) ?_
          simp only [Act.put, pA, pB, pC]
          refine wv (v_shrC (s := 32) (d := 4294967296) rfl rfl rfl (by decide) (by decide)) ?_
          simp only [Act.put, pA, pB, pC]
          refine wv (v_moveT (.inr rfl) rfl) ?_
          simp only [Act.put, pA, pB, pC]
          repeat ((fail_if_success with_reducible show wA ..); (fail_if_success with_reducible show wB ..); go_step)
          refine wv (v_moveT (.inl rfl) rfl) ?_
          simp only [Act.put, pA, pB, pC]
          refine wv (v_add (n := 1) rfl rfl rfl (w_i64 (by omega))) ?_
          simp only [Act.put, pA, pB, pC]
          refine wv (v_moveT (.inr rfl) rfl) ?_
          simp only [Act.put, pA, pB, pC]
          go_wp2
          go_roundw
          case rel => exact ⟨K + 1, _, _, by omega, rfl, rfl, hu1, hF1.out, hnew, hE2⟩
          case measure => simp [intOf]; omega
        · have hK' : K = 8 := by omega
          subst hK'
          have hs := hsum.out
          rw [← big8_eq, Nat.mod_eq_of_lt HT2.out] at hs
          have HmT : Hid ((val 4294967296 Y + big8 * u) % pN = T % pN) := Lib.hid (by rw [hs, fold_mod])
          have hu2 : u < 4294967296 := by omega
          obtain ⟨Z, hZ⟩ : ∃ Z, val 4294967296 Y + big8 * u = Z := ⟨_, rfl⟩
          rw [hZ] at HmT
          have HZ := Lib.hid hZ
          clear hs hsum hZ hK hK8
          repeat ((fail_if_success with_reducible show wA ..); (fail_if_success with_reducible show wB ..); go_step)
          refine wv (v_moveT (.inl rfl) rfl) ?_
          simp only [Act.put, pA, pB, pC]
          refine wv (v_lss (n := 8) rfl rfl rfl) ?_
          simp only [Act.put, pA, pB, pC]
          go_wp2
          go_loopg [11] (Z) (fun V uv wr => ∃ (u : Nat) (Y : List Nat), uv = .int .u64 u ∧ u < 4294967296 ∧ Fill 8 Y ∧ Hid (val 4294967296 Y + big8 * u = V) ∧ Hid (V % pN = T % pN) ∧ Env w [⟨g4, 43, ints .u32 Y⟩, ⟨g3, 91, ints .u64 X⟩, ⟨g2, 43, ints .u32 (List.replicate 8 0)⟩, ⟨g1, 43, ints .u32 (digs 4294967296 8 n)⟩, ⟨g0, 43, ints .u32 (digs 4294967296 8 m)⟩] wr)
          case atStart => exact ⟨u, Y, rfl, hu2, hF, HZ, HmT, hE0⟩
          case round =>
            clear hE0 HZ HmT hu2 hu hF hY8
            skip
            obtain ⟨u, Y, rfl, hu, hF, hsum, hmod, hE0⟩ := hrel
            have hY8 := hF.len
            have hYlt := hF.lt
            by_cases hu0 : 0 < u
            · obtain ⟨V, hV⟩ : ∃ V, V = val 4294967296 Y := ⟨_, rfl⟩
              have hs0 := hsum.out
              rw [← hV] at hs0 hYlt
              have HV := Lib.hid hV
              have HVlt := Lib.hid hYlt
              have Hgk : Hid (V + big8 * u = gk) := Lib.hid hs0
              clear hs0 hYlt hsum hV
              repeat ((fail_if_success with_reducible show wA ..); (fail_if_success with_reducible show wB ..); go_step)
              refine wv (v_moveT (.inl rfl) rfl) ?_
              simp only [Act.put, pA, pB, pC]
              refine wv (v_gtr (n := 0) rfl rfl rfl) ?_
              simp only [Act.put, pA, pB, pC]
              repeat ((fail_if_success with_reducible show wA ..); (fail_if_success with_reducible show wB ..); (fail_if_success (with_reducible show Code.wp _ (Code.cond _ _ _) _ _ _)); go_step)
              refine wp_cond_true (by first | rfl | exact congrArg Value.bool (decide_eq_true (by omega))) ?_
              skip
              repeat ((fail_if_success with_reducible show wA ..); (fail_if_success with_reducible show wB ..); go_step)
              refine wv (v_moveT (.inl rfl) rfl) ?_
              simp only [Act.put, pA, pB, pC]
              refine wv (v_mul (m := 38) rfl rfl rfl (by first | exact w_u64 (by omega) | exact w_u64m _)) ?_
              simp only [Act.put, pA, pB, pC]
              refine wv (v_moveT (.inr rfl) rfl) ?_
              simp only [Act.put, pA, pB, pC]
              repeat ((fail_if_success with_reducible show wA ..); (fail_if_success with_reducible show wB ..); go_step)
              refine wv (v_moveC (.inr rfl)) ?_
              simp only [Act.put, pA, pB, pC]
              repeat ((fail_if_success with_reducible show wA ..); (fail_if_success with_reducible show wB ..); go_step)
              refine wv (v_moveC (.inr rfl)) ?_
              simp only [Act.put, pA, pB, pC]
              go_wp2
              go_loopw [14, 15] (fun cv i wr => ∃ (J c : Nat) (Y : List Nat), J ≤ 8 ∧ i = .int .i64 J ∧ cv = .int .u64 c ∧ c < 1099511627776 ∧ Fill 8 Y ∧ Hid (val 4294967296 Y + 4294967296 ^ J * c = V + 38 * u) ∧ Env w [⟨g4, 43, ints .u32 Y⟩, ⟨g3, 91, ints .u64 X⟩, ⟨g2, 43, ints .u32 (List.replicate 8 0)⟩, ⟨g1, 43, ints .u32 (digs 4294967296 8 n)⟩, ⟨g0, 43, ints .u32 (digs 4294967296 8 m)⟩] wr) (fun _ i _ => 8 - (intOf i).toNat)
              case atStart => exact ⟨0, 38 * u, Y, Nat.zero_le _, rfl, rfl, by omega, hF, Lib.hid (by rw [HV.out, Nat.pow_zero, Nat.one_mul]), hE0⟩
              case round =>
                clear hE0 hF hY8 HV
                skip
                obtain ⟨J, c, Y, hJ, rfl, rfl, hc, hF, hsum, hE0⟩ := hrel
                have hY8 := hF.len
                by_cases hJ8 : J < 8
                · obtain ⟨y, hy⟩ : ∃ y, Y.getD J 0 = y := ⟨_, rfl⟩
                  have hyl : y < 4294967296 := hy ▸ hF.dg.getD (by decide) _
                  have hr := hF.carry hJ8 hy hc hsum.out
                  have Hy := Lib.hid hy
                  have hc1 := hr.2.1
                  have HR := Lib.hid hr
                  clear hy hr hsum hF
                  repeat ((fail_if_success with_reducible show wA ..); (fail_if_success with_reducible show wB ..); go_step)
                  refine wv (v_moveT (.inl rfl) rfl) ?_
                  simp only [Act.put, pA, pB, pC]
                  refine wv (v_lss (n := 8) rfl rfl rfl) ?_
                  simp only [Act.put, pA, pB, pC]
                  repeat ((fail_if_success with_reducible show wA ..); (fail_if_success with_reducible show wB ..); go_step)
                  refine wv (v_moveT (.inl rfl) rfl) ?_
                  simp only [Act.put, pA, pB, pC]
                  refine wv (v_moveT (.inl rfl) rfl) ?_
                  simp only [Act.put, pA, pB, pC]
                  refine wv (v_indexA0 rfl rfl rfl Try.underlying43 (by kernel_rfl) (by first | assumption | omega)) ?_
                  simp only [Act.put, pA, pB, pC]
                  refine wv (v_cell rfl rfl Try.underlying41 rfl (Env.cellv (i := 0) hE0 rfl (ints_get? _ _ _ (by first | assumption | omega | (simp; done) | (simp; omega))))) ?_
                  simp only [Act.put, pA, pB, pC]
                  rw [Hy.out]
                  refine wv (v_convInt rfl rfl Try.underlying41 Try.underlying23 (by first | exact w_u64 (by omega) | exact w_u64m _)) ?_
                  simp only [Act.put, pA, pB, pC]
                  refine wv (v_add rfl rfl rfl (by first | exact w_u64 (by omega) | exact w_u64m _)) ?_
                  simp only [Act.put, pA, pB, pC]
                  refine wv (v_moveT (.inr rfl) rfl) ?_
                  simp only [Act.put, pA, pB, pC]
                  repeat ((fail_if_success with_reducible show wA ..); (fail_if_success with_reducible show wB ..); go_step)
                  refine wv (v_moveT (.inl rfl) rfl) ?_
                  simp only [Act.put, pA, pB, pC]
                  refine wv (v_moveT (.inl rfl) rfl) ?_
                  simp only [Act.put, pA, pB, pC]
                  refine wv (v_convInt rfl rfl Try.underlying23 Try.underlying41 (w_u32m _)) ?_
                  simp only [Act.put, pA, pB, pC]
                  refine wv (v_indexA0 rfl rfl rfl Try.underlying43 (by kernel_rfl) (by first | assumption | omega)) ?_
                  simp only [Act.put, pA, pB, pC]
                  refine wl_step (st_putN (i := 0) hE0 rfl rfl rfl rfl rfl (by kernel_rfl) (by first | assumption | omega | (simp only [List.length_set, List.length_replicate]; first | assumption | omega)) ?_)
                  intro w1 hE1
                  clear hE0
                  simp only [pB, pC] at hE1
                  simp only [Act.put, pA, pB, pC]
                  repeat ((fail_if_success with_reducible show wA ..); (fail_if_success with_reducible show wB ..); go_step)
                  refine wv (v_moveT (.inl rfl) rfl) ?_
                  simp only [Act.put, pA, pB, pC]
                  refine wv (v_shrC (s := 32) (d := 4294967296) rfl rfl rfl (by decide) (by decide)) ?_
                  simp only [Act.put, pA, pB, pC]
                  refine wv (v_moveT (.inr rfl) rfl) ?_
                  simp only [Act.put, pA, pB, pC]
                  repeat ((fail_if_success with_reducible show wA ..); (fail_if_success with_reducible show wB ..); go_step)
                  refine wv (v_moveT (.inl rfl) rfl) ?_
                  simp only [Act.put, pA, pB, pC]
                  refine wv (v_add (n := 1) rfl rfl rfl (w_i64 (by omega))) ?_
                  simp only [Act.put, pA, pB, pC]
                  refine wv (v_moveT (.inr rfl) rfl) ?_
                  simp only [Act.put, pA, pB, pC]
                  go_wp2
                  go_roundw
                  case rel => exact ⟨J + 1, _, _, by omega, rfl, rfl, hc1, HR.out.1, Lib.hid HR.out.2.2, hE1⟩
                  case measure => simp [intOf]; omega
                · have hJ' : J = 8 := by omega
                  subst hJ'
                  have hs := hsum.out
                  rw [← big8_eq] at hs
                  have hcs := fold_small HVlt.out hu hs
                  have hnew : Hid (val 4294967296 Y + big8 * c = V + 38 * u) := Lib.hid hs
                  have hmod2 : Hid ((V + 38 * u) % pN = T % pN) := Lib.hid (by rw [fold_again, Hgk.out, hmod.out])
                  have hlt2 : V + 38 * u < gk := by rw [← Hgk.out]; exact fold_less hu0
                  have Hlt2 := Lib.hid hlt2
                  clear hs hsum hlt2
                  repeat ((fail_if_success with_reducible show wA ..); (fail_if_success with_reducible show wB ..); go_step)
                  refine wv (v_moveT (.inl rfl) rfl) ?_
                  simp only [Act.put, pA, pB, pC]
                  refine wv (v_lss (n := 8) rfl rfl rfl) ?_
                  simp only [Act.put, pA, pB, pC]
                  repeat ((fail_if_success with_reducible show wA ..); (fail_if_success with_reducible show wB ..); go_step)
                  refine wv (v_moveT (.inl rfl) rfl) ?_
                  simp only [Act.put, pA, pB, pC]
                  refine wv (v_moveT (.inr rfl) rfl) ?_
                  simp only [Act.put, pA, pB, pC]
                  go_wp2
                  go_roundg (V + 38 * u)
                  case measure => exact Hlt2.out
                  case rel => exact ⟨c, Y, rfl, hcs, hF, hnew, hmod2, hE0⟩
            · have hu' : u = 0 := by omega
              subst hu'
              have hs0 := hsum.out
              rw [Nat.mul_zero, Nat.add_zero] at hs0
              have hXe := hF.eq
              rw [hs0] at hXe hYlt
              rw [hXe] at hE0
              have HD := fun w => down_any hYlt w
              rw [hmod.out] at HD
              have HD2 := Lib.hid HD
              have hl8 := nm_len gk
              have hl9 := nm_len (T % pN)
              clear HD hs0 hXe hYlt hsum hF hmod
              repeat ((fail_if_success with_reducible show wA ..); (fail_if_success with_reducible show wB ..); go_step)
              refine wv (v_moveT (.inl rfl) rfl) ?_
              simp only [Act.put, pA, pB, pC]
              refine wv (v_gtr (n := 0) rfl rfl rfl) ?_
              simp only [Act.put, pA, pB, pC]
              repeat ((fail_if_success with_reducible show wA ..); (fail_if_success with_reducible show wB ..); (fail_if_success (with_reducible show Code.wp _ (Code.cond _ _ _) _ _ _)); go_step)
              refine wp_cond_false (by first | rfl | exact congrArg Value.bool (decide_eq_false (by omega))) ?_
              skip
              repeat ((fail_if_success with_reducible show wA ..); (fail_if_success with_reducible show wB ..); go_step)
              refine wv (v_load (i := 0) hE0 rfl rfl rfl Try.underlying43 rfl (szA (n := 8))) ?_
              simp only [Act.put, pA, pB, pC]
              refine wl_step (st_gives hE0 rfl (run_call rfl Try.call71) (HD2.out _) ?_)
              intro w1 hb1 hE1
              clear hE0
              simp only [Act.put, pA, pB, pC]
              refine wl_step (st_store (i := 2) hE1 rfl rfl rfl rfl rfl (szA (n := 8)) (by first | (simp only [ints_size, digs_length, List.length_replicate, List.length_cons, List.length_nil]; done) | (simp only [ints_size, digs_length, List.length_replicate, List.length_cons, List.length_nil, List.length_set, List.length_append]; omega) | rfl) (by first | exact ints_one _ _ | decide | simp [*]) ?_)
              intro w2 hE2
              clear hE1
              simp only [pB, pC] at hE2
              simp only [Act.put, pA, pB, pC]
              repeat ((fail_if_success with_reducible show wA ..); (fail_if_success with_reducible show wB ..); go_step)
              refine bodyPost_ret (results_cell_row rfl _ _ _ _ _ (0, 0) _ rfl (hE2.get (i := 2) rfl) Try.underlying43 rfl (szA (n := 8))) rfl ⟨by rw [HTe.out], hE2.below⟩
end Go.Proofs.Ytmebjoehmheknaa
namespace Go.Proofs.Ytmebjoehmheknaa
open Go.RowKit
set_option linter.unusedVariables false
set_option linter.unusedSimpArgs false

theorem bit_of {x r : Nat} (hr : r < 8) : x % 256 / 2 ^ r % 2 = x / 2 ^ r % 2 := by
  rcases (show r = 0 ∨ r = 1 ∨ r = 2 ∨ r = 3 ∨ r = 4 ∨ r = 5 ∨ r = 6 ∨ r = 7 by omega) with rfl | rfl | rfl | rfl | rfl | rfl | rfl | rfl
  · show x % 256 / 1 % 2 = x / 1 % 2
    omega
  · show x % 256 / 2 % 2 = x / 2 % 2
    omega
  · show x % 256 / 4 % 2 = x / 4 % 2
    omega
  · show x % 256 / 8 % 2 = x / 8 % 2
    omega
  · show x % 256 / 16 % 2 = x / 16 % 2
    omega
  · show x % 256 / 32 % 2 = x / 32 % 2
    omega
  · show x % 256 / 64 % 2 = x / 64 % 2
    omega
  · show x % 256 / 128 % 2 = x / 128 % 2
    omega
theorem pow8 (K : Nat) : 2 ^ K = 256 ^ (K / 8) * 2 ^ (K % 8) := by
  have e : (256 : Nat) = 2 ^ 8 := by decide
  rw [e, ← Nat.pow_mul, ← Nat.pow_add, Nat.div_add_mod]
theorem bit_digit (E K : Nat) : E / 256 ^ (K / 8) % 256 / 2 ^ (K % 8) % 2 = E / 2 ^ K % 2 := by
  rw [bit_of (Nat.mod_lt _ (by decide)), Nat.div_div_eq_div_mul, ← pow8]
theorem pow_bit1 {x E K A B : Nat} (hA : A = x ^ (E % 2 ^ K) % pN) (hB : B = x ^ 2 ^ K % pN) (h : E / 2 ^ K % 2 = 1) : A * B % pN = x ^ (E % 2 ^ (K + 1)) % pN := by
  rw [hA, hB, ← Nat.mul_mod, ← Nat.pow_add, Nat.pow_succ 2 K, Nat.mod_mul, h, Nat.mul_one]
theorem pow_bit0 {x E K A : Nat} (hA : A = x ^ (E % 2 ^ K) % pN) (h : ¬ E / 2 ^ K % 2 = 1) : A = x ^ (E % 2 ^ (K + 1)) % pN := by
  have h0 : E / 2 ^ K % 2 = 0 := by omega
  rw [hA, Nat.pow_succ 2 K, Nat.mod_mul, h0, Nat.mul_zero, Nat.add_zero]
theorem pow_base {x K B : Nat} (hB : B = x ^ 2 ^ K % pN) : B * B % pN = x ^ 2 ^ (K + 1) % pN := by
  rw [hB, ← Nat.mul_mod, ← Nat.pow_add, Nat.pow_succ 2 K, Nat.mul_two]
theorem pN_lt : pN < big8 := by decide
theorem mod_big (n : Nat) : n % pN < big8 := Nat.lt_trans (Nat.mod_lt _ (by decide)) pN_lt

set_option maxHeartbeats 8000000 in
theorem rPow_any {x : Nat} {e : List Nat} (hx : x < pN) (he : Digs 256 e) (hlen : e.length = 32) (w : World) : Gives 72 #[nm x, .agg (ints .u8 e)] w (nm (x ^ val 256 e % pN)) := by
  have hx8 := nm_len x
  have hl1 := nm_len 1
  obtain ⟨E, hE⟩ : ∃ E, val 256 e = E := ⟨_, rfl⟩
  have HgE := Lib.hid (fun i => hE ▸ (val_div_mod he (by decide) i).symm)
  have hE256 : E < 2 ^ 256 := by
    have := val_lt he
    rw [hlen, hE] at this
    exact this
  have HE := Lib.hid hE256
  rw [hE]
  have HxB : Hid (x = x ^ 2 ^ 0 % pN) := Lib.hid (by rw [Nat.pow_zero, Nat.pow_one, Nat.mod_eq_of_lt hx])
  have HA0 : Hid (1 = x ^ (E % 2 ^ 0) % pN) := Lib.hid (by rw [Nat.pow_zero, Nat.mod_one, Nat.pow_zero]; decide)
  have Hx := Lib.hid (Nat.lt_trans hx pN_lt)
  clear hx he hE hE256
  have hE0 := Env.nil w
  go_enter Try.func72, Try.ntmps72
  repeat ((fail_if_success with_reducible show wA ..); (fail_if_success with_reducible show wB ..); go_step)
  refine wl_step (st_boxA hE0 rfl rfl rfl ?_)
  intro g0 w1 hb1 hE1
  clear hE0
  simp only [Act.put, pA, pB, pC]
  refine wl_step (st_boxA hE1 rfl rfl rfl ?_)
  intro g1 w2 hb2 hE2
  clear hE1
  simp only [Act.put, pA, pB, pC]
  refine wl_step (st_alloc (zs := ints .u32 (List.replicate 8 0)) hE2 rfl rfl (fun w => by kernel_rfl) ?_)
  intro g2 w3 hb3 hE3
  clear hE2
  simp only [Act.put, pA, pB, pC]
  repeat ((fail_if_success with_reducible show wA ..); (fail_if_success with_reducible show wB ..); go_step)
  refine wl_step (st_gives hE3 rfl (run_call rfl Try.call53) (rSmall_any (n := 1) (by decide) _) ?_)
  intro w4 hb4 hE4
  clear hE3
  simp only [Act.put, pA, pB, pC]
  refine wl_step (st_alloc (zs := ints .u32 (List.replicate 8 0)) hE4 rfl rfl (fun w => by kernel_rfl) ?_)
  intro g3 w5 hb5 hE5
  clear hE4
  simp only [Act.put, pA, pB, pC]
  refine wl_step (st_store (i := 0) hE5 rfl rfl rfl rfl rfl (szA (n := 8)) (by first | (simp only [ints_size, digs_length, List.length_replicate, List.length_cons, List.length_nil]; done) | (simp only [ints_size, digs_length, List.length_replicate, List.length_cons, List.length_nil, List.length_set, List.length_append]; omega) | rfl) (by first | exact ints_one _ _ | decide | simp [*]) ?_)
  intro w6 hE6
  clear hE5
  simp only [pB, pC] at hE6
  simp only [Act.put, pA, pB, pC]
  repeat ((fail_if_success with_reducible show wA ..); (fail_if_success with_reducible show wB ..); go_step)
  refine wv (v_moveC (.inr rfl)) ?_
  simp only [Act.put, pA, pB, pC]
  go_wp2
  go_loopw [6] (fun i wr => ∃ (K A B : Nat), K ≤ 256 ∧ i = .int .i64 K ∧ Hid (A = x ^ (E % 2 ^ K) % pN) ∧ Hid (B = x ^ 2 ^ K % pN) ∧ Hid (A < big8) ∧ Hid (B < big8) ∧ Env w [⟨g3, 43, ints .u32 (digs 4294967296 8 A)⟩, ⟨g2, 43, ints .u32 (List.replicate 8 0)⟩, ⟨g1, 22, ints .u8 e⟩, ⟨g0, 43, ints .u32 (digs 4294967296 8 B)⟩] wr) (fun i _ => 256 - (intOf i).toNat)
  case atStart => exact ⟨0, 1, x, Nat.zero_le _, rfl, HA0, HxB, Lib.hid (by decide), Hx, hE6⟩
  case round =>
    clear hE6
    obtain ⟨K, A, B, hK, rfl, hA, hB, hAl, hBl, hE0⟩ := hrel
    have hA8 := nm_len A
    have hB8 := nm_len B
    by_cases hK8 : K < 256
    · have hg := HgE.out (K / 8)
      obtain ⟨c, hc⟩ : ∃ c, E / 256 ^ (K / 8) % 256 = c := ⟨_, rfl⟩
      have hb := bit_digit E K
      rw [hc] at hg hb
      have hc8 : c < 256 := hc ▸ Nat.mod_lt _ (by decide)
      have Hg := Lib.hid hg
      have hM1 := Lib.hid (fun w => rMul_any hAl.out hBl.out w)
      have hM2 := Lib.hid (fun w => rMul_any hBl.out hBl.out w)
      have hl2 := nm_len (A * B % pN)
      have hl3 := nm_len (B * B % pN)
      have Hb := Lib.hid hb
      clear hg hc hb
      by_cases hbit : E / 2 ^ K % 2 = 1
      · have Hbit := Lib.hid (by rw [Hb.out]; exact decide_eq_true hbit : decide (c / 2 ^ (K % 8) % 2 = 1) = true)
        have hA2 := Lib.hid (pow_bit1 hA.out hB.out hbit)
        have hB2 := Lib.hid (pow_base hB.out)
        clear hbit
        repeat ((fail_if_success with_reducible show wA ..); (fail_if_success with_reducible show wB ..); go_step)
        refine wv (v_moveT (.inl rfl) rfl) ?_
        simp only [Act.put, pA, pB, pC]
        refine wv (v_lss (n := 256) rfl rfl rfl) ?_
        simp only [Act.put, pA, pB, pC]
        repeat ((fail_if_success with_reducible show wA ..); (fail_if_success with_reducible show wB ..); go_step)
        refine wv (v_moveT (.inl rfl) rfl) ?_
        simp only [Act.put, pA, pB, pC]
        refine wv (v_quo (n := 8) rfl rfl rfl (by omega) (w_i64 (by omega))) ?_
        simp only [Act.put, pA, pB, pC]
        refine wv (v_indexA0 rfl rfl rfl Try.underlying22 (by kernel_rfl) (by first | assumption | omega)) ?_
        simp only [Act.put, pA, pB, pC]
        refine wv (v_cell rfl rfl Try.underlying5 rfl (Env.cellv (i := 2) hE0 rfl (ints_get? _ _ _ (by first | assumption | omega | (simp; done) | (simp; omega))))) ?_
        simp only [Act.put, pA, pB, pC]
        rw [Hg.out]
        refine wv (v_moveT (.inl rfl) rfl) ?_
        simp only [Act.put, pA, pB, pC]
        refine wv (v_rem (n := 8) rfl rfl rfl (by omega)) ?_
        simp only [Act.put, pA, pB, pC]
        refine wv (v_shr rfl rfl rfl (by simp only [IntKind.bits]; omega)) ?_
        simp only [Act.put, pA, pB, pC]
        refine wv (v_rem (n := 2) rfl rfl rfl (by omega)) ?_
        simp only [Act.put, pA, pB, pC]
        refine wv (v_eql (n := 1) rfl rfl rfl) ?_
        simp only [Act.put, pA, pB, pC]
        rw [Hbit.out]
        repeat ((fail_if_success with_reducible show wA ..); (fail_if_success with_reducible show wB ..); (fail_if_success (with_reducible show Code.wp _ (Code.cond _ _ _) _ _ _)); go_step)
        refine wp_cond_true (by first | rfl | exact congrArg Value.bool (decide_eq_true (by omega))) ?_
        skip
        repeat ((fail_if_success with_reducible show wA ..); (fail_if_success with_reducible show wB ..); go_step)
        refine wv (v_load (i := 0) hE0 rfl rfl rfl Try.underlying43 rfl (szA (n := 8))) ?_
        simp only [Act.put, pA, pB, pC]
        refine wv (v_load (i := 3) hE0 rfl rfl rfl Try.underlying43 rfl (szA (n := 8))) ?_
        simp only [Act.put, pA, pB, pC]
        refine wl_step (st_gives hE0 rfl (run_call rfl Try.call54) (hM1.out _) ?_)
        intro w1 hb1 hE1
        clear hE0
        simp only [Act.put, pA, pB, pC]
        refine wl_step (st_store (i := 0) hE1 rfl rfl rfl rfl rfl (szA (n := 8)) (by first | (simp only [ints_size, digs_length, List.length_replicate, List.length_cons, List.length_nil]; done) | (simp only [ints_size, digs_length, List.length_replicate, List.length_cons, List.length_nil, List.length_set, List.length_append]; omega) | rfl) (by first | exact ints_one _ _ | decide | simp [*]) ?_)
        intro w2 hE2
        clear hE1
        simp only [pB, pC] at hE2
        simp only [Act.put, pA, pB, pC]
        repeat ((fail_if_success with_reducible show wA ..); (fail_if_success with_reducible show wB ..); go_step)
        refine wv (v_load (i := 3) hE2 rfl rfl rfl Try.underlying43 rfl (szA (n := 8))) ?_
        simp only [Act.put, pA, pB, pC]
        refine wv (v_load (i := 3) hE2 rfl rfl rfl Try.underlying43 rfl (szA (n := 8))) ?_
        simp only [Act.put, pA, pB, pC]
        refine wl_step (st_gives hE2 rfl (run_call rfl Try.call54) (hM2.out _) ?_)
        intro w3 hb3 hE3
        clear hE2
        simp only [Act.put, pA, pB, pC]
        refine wl_step (st_store (i := 3) hE3 rfl rfl rfl rfl rfl (szA (n := 8)) (by first | (simp only [ints_size, digs_length, List.length_replicate, List.length_cons, List.length_nil]; done) | (simp only [ints_size, digs_length, List.length_replicate, List.length_cons, List.length_nil, List.length_set, List.length_append]; omega) | rfl) (by first | exact ints_one _ _ | decide | simp [*]) ?_)
        intro w4 hE4
        clear hE3
        simp only [pB, pC] at hE4
        simp only [Act.put, pA, pB, pC]
        repeat ((fail_if_success with_reducible show wA ..); (fail_if_success with_reducible show wB ..); go_step)
        refine wv (v_moveT (.inl rfl) rfl) ?_
        simp only [Act.put, pA, pB, pC]
        refine wv (v_add (n := 1) rfl rfl rfl (w_i64 (by omega))) ?_
        simp only [Act.put, pA, pB, pC]
        refine wv (v_moveT (.inr rfl) rfl) ?_
        simp only [Act.put, pA, pB, pC]
        go_wp2
        go_roundw
        case rel => exact ⟨K + 1, _, _, by omega, rfl, hA2, hB2, Lib.hid (mod_big _), Lib.hid (mod_big _), hE4⟩
        case measure => simp [intOf]; omega
      · have Hbit := Lib.hid (by rw [Hb.out]; exact decide_eq_false hbit : decide (c / 2 ^ (K % 8) % 2 = 1) = false)
        have hA2 := Lib.hid (pow_bit0 hA.out hbit)
        have hB2 := Lib.hid (pow_base hB.out)
        clear hbit
        repeat ((fail_if_success with_reducible show wA ..); (fail_if_success with_reducible show wB ..); go_step)
        refine wv (v_moveT (.inl rfl) rfl) ?_
        simp only [Act.put, pA, pB, pC]
        refine wv (v_lss (n := 256) rfl rfl rfl) ?_
        simp only [Act.put, pA, pB, pC]
        repeat ((fail_if_success with_reducible show wA ..); (fail_if_success with_reducible show wB ..); go_step)
        refine wv (v_moveT (.inl rfl) rfl) ?_
        simp only [Act.put, pA, pB, pC]
        refine wv (v_quo (n := 8) rfl rfl rfl (by omega) (w_i64 (by omega))) ?_
        simp only [Act.put, pA, pB, pC]
        refine wv (v_indexA0 rfl rfl rfl Try.underlying22 (by kernel_rfl) (by first | assumption | omega)) ?_
        simp only [Act.put, pA, pB, pC]
        refine wv (v_cell rfl rfl Try.underlying5 rfl (Env.cellv (i := 2) hE0 rfl (ints_get? _ _ _ (by first | assumption | omega | (simp; done) | (simp; omega))))) ?_
        simp only [Act.put, pA, pB, pC]
        rw [Hg.out]
        refine wv (v_moveT (.inl rfl) rfl) ?_
        simp only [Act.put, pA, pB, pC]
        refine wv (v_rem (n := 8) rfl rfl rfl (by omega)) ?_
        simp only [Act.put, pA, pB, pC]
        refine wv (v_shr rfl rfl rfl (by simp only [IntKind.bits]; omega)) ?_
        simp only [Act.put, pA, pB, pC]
        refine wv (v_rem (n := 2) rfl rfl rfl (by omega)) ?_
        simp only [Act.put, pA, pB, pC]
        refine wv (v_eql (n := 1) rfl rfl rfl) ?_
        simp only [Act.put, pA, pB, pC]
        rw [Hbit.out]
        repeat ((fail_if_success with_reducible show wA ..); (fail_if_success with_reducible show wB ..); (fail_if_success (with_reducible show Code.wp _ (Code.cond _ _ _) _ _ _)); go_step)
        refine wp_cond_false (by first | rfl | exact congrArg Value.bool (decide_eq_false (by omega))) ?_
        skip
        repeat ((fail_if_success with_reducible show wA ..); (fail_if_success with_reducible show wB ..); go_step)
        refine wv (v_load (i := 3) hE0 rfl rfl rfl Try.underlying43 rfl (szA (n := 8))) ?_
        simp only [Act.put, pA, pB, pC]
        refine wv (v_load (i := 3) hE0 rfl rfl rfl Try.underlying43 rfl (szA (n := 8))) ?_
        simp only [Act.put, pA, pB, pC]
        refine wl_step (st_gives hE0 rfl (run_call rfl Try.call54) (hM2.out _) ?_)
        intro w1 hb1 hE1
        clear hE0
        simp only [Act.put, pA, pB, pC]
        refine wl_step (st_store (i := 3) hE1 rfl rfl rfl rfl rfl (szA (n := 8)) (by first | (simp only [ints_size, digs_length, List.length_replicate, List.length_cons, List.length_nil]; done) | (simp only [ints_size, digs_length, List.length_replicate, List.length_cons, List.length_nil, List.length_set, List.length_append]; omega) | rfl) (by first | exact ints_one _ _ | decide | simp [*]) ?_)
        intro w2 hE2
        clear hE1
        simp only [pB, pC] at hE2
        simp only [Act.put, pA, pB, pC]
        repeat ((fail_if_success with_reducible show wA ..); (fail_if_success with_reducible show wB ..); go_step)
        refine wv (v_moveT (.inl rfl) rfl) ?_
        simp only [Act.put, pA, pB, pC]
        refine wv (v_add (n := 1) rfl rfl rfl (w_i64 (by omega))) ?_
        simp only [Act.put, pA, pB, pC]
        refine wv (v_moveT (.inr rfl) rfl) ?_
        simp only [Act.put, pA, pB, pC]
        go_wp2
        go_roundw
        case rel => exact ⟨K + 1, _, _, by omega, rfl, hA2, hB2, hAl, Lib.hid (mod_big _), hE2⟩
        case measure => simp [intOf]; omega
    · have hK' : K = 256 := by omega
      subst hK'
      have hA2 := hA.out
      rw [Nat.mod_eq_of_lt HE.out] at hA2
      have HA2 := Lib.hid hA2
      clear hA2
      repeat ((fail_if_success with_reducible show wA ..); (fail_if_success with_reducible show wB ..); go_step)
      refine wv (v_moveT (.inl rfl) rfl) ?_
      simp only [Act.put, pA, pB, pC]
      refine wv (v_lss (n := 256) rfl rfl rfl) ?_
      simp only [Act.put, pA, pB, pC]
      repeat ((fail_if_success with_reducible show wA ..); (fail_if_success with_reducible show wB ..); go_step)
      refine wv (v_load (i := 0) hE0 rfl rfl rfl Try.underlying43 rfl (szA (n := 8))) ?_
      simp only [Act.put, pA, pB, pC]
      refine wl_step (st_store (i := 1) hE0 rfl rfl rfl rfl rfl (szA (n := 8)) (by first | (simp only [ints_size, digs_length, List.length_replicate, List.length_cons, List.length_nil]; done) | (simp only [ints_size, digs_length, List.length_replicate, List.length_cons, List.length_nil, List.length_set, List.length_append]; omega) | rfl) (by first | exact ints_one _ _ | decide | simp [*]) ?_)
      intro w1 hE1
      clear hE0
      simp only [pB, pC] at hE1
      simp only [Act.put, pA, pB, pC]
      repeat ((fail_if_success with_reducible show wA ..); (fail_if_success with_reducible show wB ..); go_step)
      refine bodyPost_ret (results_cell_row rfl _ _ _ _ _ (0, 0) _ rfl (hE1.get (i := 1) rfl) Try.underlying43 rfl (szA (n := 8))) rfl ⟨by rw [HA2.out], hE1.below⟩
end Go.Proofs.Ytmebjoehmheknaa
namespace Go.Proofs.Ytmebjoehmheknaa
open Go.RowKit
set_option linter.unusedVariables false
set_option linter.unusedSimpArgs false

/-- A power, modulo p, by squares. -/
def powM (p : Nat) : Nat → Nat → Nat → Nat
  | 0, _, _ => 1 % p
  | f + 1, b, e => if e % 2 = 1 then b * powM p f (b * b % p) (e / 2) % p else powM p f (b * b % p) (e / 2)
theorem powM_eq (p : Nat) : ∀ (f b e : Nat), e < 2 ^ f → powM p f b e = b ^ e % p
  | 0, b, e, h => by
    have : e = 0 := by rw [Nat.pow_zero] at h; omega
    subst this
    rfl
  | f + 1, b, e, h => by
    have h2 : e / 2 < 2 ^ f := by rw [Nat.pow_succ] at h; omega
    have ih := powM_eq p f (b * b % p) (e / 2) h2
    have e1 : (b * b % p) ^ (e / 2) % p = b ^ (2 * (e / 2)) % p := by
      rw [← Nat.pow_mod, Nat.pow_mul, Nat.pow_two]
    unfold powM
    rw [ih, e1]
    split
    · rename_i h1
      have : e = 2 * (e / 2) + 1 := by omega
      conv => rhs; rw [this, Nat.pow_succ, Nat.mul_comm]
      exact (Nat.mul_mod_mod _ _ _)
    · rename_i h1
      have : e = 2 * (e / 2) := by omega
      conv => rhs; rw [this]
theorem powM_mul {b e c p f : Nat} (h : e < 2 ^ f) : b ^ e * c % p = powM p f b e * (c % p) % p := by rw [Nat.mul_mod, powM_eq p f b e h]
theorem mul_powM {b e c p f : Nat} (h : e < 2 ^ f) : c * b ^ e % p = (c % p) * powM p f b e % p := by rw [Nat.mul_mod, powM_eq p f b e h]
theorem half_mod : 2 ^ (pN - 2) * 2 % pN = 1 % pN := (powM_mul (f := 255) (of_decide_eq_true (by kernel_rfl))).trans (by kernel_rfl)
theorem rootR_one (U : Nat) : rootR U 1 = U * U ^ ((pN - 5) / 8) % pN := by
  unfold rootR
  simp only [Nat.one_pow, Nat.mul_one]
theorem rootR41 : rootR 4 1 = 39362322753415011913614158609977084030892133031847780325488042146247659569504 := (rootR_one 4).trans ((mul_powM (f := 255) (of_decide_eq_true (by kernel_rfl))).trans (by kernel_rfl))
theorem rootN41 : rootN 4 1 = (2, true) := by
  unfold rootN
  rw [rootR41]
  kernel_rfl

set_option maxHeartbeats 2000000 in
theorem rInvert_any {x : Nat} (hx : x < pN) (w : World) : Gives 58 #[nm x] w (nm (x ^ (pN - 2) % pN)) := by
  have hm := fun w => minus_any (m := pN) (n := 2) pN_lt (by decide) w
  have e1 : (pN + big8 - 2) % big8 = pN - 2 := by decide
  have e2 : decide (pN < 2) = false := by decide
  rw [e1, e2] at hm
  have hb := fun w => rBytes_any (n := pN - 2) (by decide) w
  have hp := fun w => rPow_any (x := x) (e := digs 256 32 (pN - 2)) hx (digs_Digs (by decide) _ _) (digs_length _ _ _) w
  have e3 : val 256 (digs 256 32 (pN - 2)) = pN - 2 := by
    rw [val_digs]
    exact Nat.mod_eq_of_lt (by decide)
  rw [e3] at hp
  have hx8 := nm_len x
  obtain ⟨Q, hQ⟩ : ∃ Q, x ^ (pN - 2) % pN = Q := ⟨_, rfl⟩
  rw [hQ] at hp ⊢
  obtain ⟨D, hD⟩ : ∃ D, pN - 2 = D := ⟨_, rfl⟩
  rw [hD] at hp hm hb
  have hl1 := nm_len D
  have hl2 := nm_len Q
  have HM := Lib.hid hm
  have HB := Lib.hid hb
  have HP := Lib.hid hp
  clear hm hb hp e1 e2 e3 hQ hD hx
  have hE0 := Env.nil w
  go_enter Try.func58, Try.ntmps58
  repeat ((fail_if_success with_reducible show wA ..); (fail_if_success with_reducible show wB ..); go_step)
  refine wl_step (st_boxA hE0 rfl rfl rfl ?_)
  intro g0 w1 hb1 hE1
  clear hE0
  simp only [Act.put, pA, pB, pC]
  refine wl_step (st_alloc (zs := ints .u32 (List.replicate 8 0)) hE1 rfl rfl (fun w => by kernel_rfl) ?_)
  intro g1 w2 hb2 hE2
  clear hE1
  simp only [Act.put, pA, pB, pC]
  repeat ((fail_if_success with_reducible show wA ..); (fail_if_success with_reducible show wB ..); go_step)
  refine wl_step (st_gives hE2 rfl (run_call rfl Try.call50) (P_any _) ?_)
  intro w3 hb3 hE3
  clear hE2
  simp only [Act.put, pA, pB, pC]
  refine wl_step (st_gives hE3 rfl (run_call rfl Try.call53) (rSmall_any (n := 2) (by decide) _) ?_)
  intro w4 hb4 hE4
  clear hE3
  simp only [Act.put, pA, pB, pC]
  refine wl_step (st_gives hE4 rfl (run_call rfl Try.call74) (HM.out _) ?_)
  intro w5 hb5 hE5
  clear hE4
  simp only [Act.put, pA, pB, pC]
  refine wv (v_moveT (.inl rfl) rfl) ?_
  simp only [Act.put, pA, pB, pC]
  refine wv (v_extract rfl rfl rfl) ?_
  simp only [Act.put, pA, pB, pC]
  refine wv (v_extract rfl rfl rfl) ?_
  simp only [Act.put, pA, pB, pC]
  refine wl_step (st_alloc (zs := ints .u32 (List.replicate 8 0)) hE5 rfl rfl (fun w => by kernel_rfl) ?_)
  intro g2 w6 hb6 hE6
  clear hE5
  simp only [Act.put, pA, pB, pC]
  refine wl_step (st_store (i := 0) hE6 rfl rfl rfl rfl rfl (szA (n := 8)) (by first | (simp only [ints_size, digs_length, List.length_replicate, List.length_cons, List.length_nil]; done) | (simp only [ints_size, digs_length, List.length_replicate, List.length_cons, List.length_nil, List.length_set, List.length_append]; omega) | rfl) (by first | exact ints_one _ _ | decide | simp [*]) ?_)
  intro w7 hE7
  clear hE6
  simp only [pB, pC] at hE7
  simp only [Act.put, pA, pB, pC]
  refine wv (v_moveT (.inr rfl) rfl) ?_
  simp only [Act.put, pA, pB, pC]
  repeat ((fail_if_success with_reducible show wA ..); (fail_if_success with_reducible show wB ..); go_step)
  refine wp_region_B (n := 5) 4 (by kernel_rfl) rfl hE7 ?_
  intro w8 hb8 hE8
  clear hE7
  refine wpB_take (i := 0) (by kernel_rfl) rfl (by kernel_rfl) (fun _ _ _ h => h) rfl (v_load (i := 2) hE8 rfl rfl rfl Try.underlying43 rfl (szA (n := 8))) ?_
  simp only [Act.put, pA, pB, pC]
  refine wpB_take (i := 1) (by kernel_rfl) rfl (by kernel_rfl) (fun _ _ _ h => h) rfl (v_load (i := 0) hE8 rfl rfl rfl Try.underlying43 rfl (szA (n := 8))) ?_
  simp only [Act.put, pA, pB, pC]
  refine wpB_step (i := 2) (by kernel_rfl) rfl (st_gives hE8 rfl (run_call rfl Try.call59) (HB.out _) ?_)
  intro w9 hb9 hE9
  clear hE8
  refine ⟨fun _ => hb9, ?_⟩
  simp only [Act.put, pA, pB, pC]
  refine wpB_step (i := 3) (by kernel_rfl) rfl (st_gives hE9 rfl (run_call rfl Try.call72) (HP.out _) ?_)
  intro w10 hb10 hE10
  clear hE9
  refine ⟨fun _ => hb10, ?_⟩
  simp only [Act.put, pA, pB, pC]
  refine wpB_step (i := 4) (by kernel_rfl) rfl (st_store (i := 1) hE10 rfl rfl rfl rfl rfl (szA (n := 8)) (by first | (simp only [ints_size, digs_length, List.length_replicate, List.length_cons, List.length_nil]; done) | (simp only [ints_size, digs_length, List.length_replicate, List.length_cons, List.length_nil, List.length_set, List.length_append]; omega) | rfl) (by first | exact ints_one _ _ | decide | simp [*]) ?_)
  intro w11 hE11
  clear hE10
  simp only [pB, pC] at hE11
  refine ⟨fun h => absurd h (by decide), ?_⟩
  simp only [Act.put, pA, pB, pC]
  refine wpB_done (by kernel_rfl) ?_ _
  repeat ((fail_if_success with_reducible show wA ..); (fail_if_success with_reducible show wB ..); go_step)
  refine bodyPost_ret (results_cell_row rfl _ _ _ _ _ (0, 0) _ rfl (hE11.get (i := 1) rfl) Try.underlying43 rfl (szA (n := 8))) rfl ⟨rfl, hE11.below⟩
end Go.Proofs.Ytmebjoehmheknaa
