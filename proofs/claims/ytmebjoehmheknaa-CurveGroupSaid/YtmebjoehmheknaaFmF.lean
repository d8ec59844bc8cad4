/-
  Layer 4, the document's answer: the product.
-/
import Derived.Test.YtmebjoehmheknaaFmE
namespace Go.Proofs.Ytmebjoehmheknaa
open Go.RowKit
set_option linter.unusedVariables false
set_option linter.unusedSimpArgs false

set_option maxHeartbeats 16000000 in
theorem rMul_any {m n : Nat} (hm : m < big8) (hn : n < big8) (w : World) : Gives 54 #[nm m, nm n] w (nm (m * n % pN)) := by
  have hm8 := nm_len m
  have hn8 := nm_len n
  have Hgm := Lib.hid (nm_get m)
  have Hgn := Lib.hid (nm_get n)
  have Hm := Lib.hid hm
  have Hn := Lib.hid hn
  clear hm hn
  have hE0 := Env.nil w
  go_enter Try.func54, Try.ntmps54
  repeat ((fail_if_success (with_reducible show wpList _ _ _ (List.cons _ _) _ _)); (fail_if_success (with_reducible show Code.wp _ (Code.region _ _ true) _ _ _)); go_step)
  refine wl_step (st_boxA hE0 rfl rfl rfl ?_)
  intro g0 w1 hb1 hE1
  clear hE0
  simp only [Act.put, List.setIfInBounds_toArray, List.set_cons_zero, List.set_cons_succ]
  refine wl_step (st_boxA hE1 rfl rfl rfl ?_)
  intro g1 w2 hb2 hE2
  clear hE1
  simp only [Act.put, List.setIfInBounds_toArray, List.set_cons_zero, List.set_cons_succ]
  refine wl_step (st_alloc (zs := ints .u32 (List.replicate 8 0)) hE2 rfl rfl (fun w => by kernel_rfl) ?_)
  intro g2 w3 hb3 hE3
  clear hE2
  simp only [Act.put, List.setIfInBounds_toArray, List.set_cons_zero, List.set_cons_succ]
  repeat ((fail_if_success (with_reducible show wpList _ _ _ (List.cons _ _) _ _)); (fail_if_success (with_reducible show Code.wp _ (Code.region _ _ true) _ _ _)); go_step)
  refine wl_step (st_alloc (zs := ints .u64 (List.replicate 16 0)) hE3 rfl rfl (fun w => by kernel_rfl) ?_)
  intro g3 w4 hb4 hE4
  clear hE3
  simp only [Act.put, List.setIfInBounds_toArray, List.set_cons_zero, List.set_cons_succ]
  repeat ((fail_if_success (with_reducible show wpList _ _ _ (List.cons _ _) _ _)); (fail_if_success (with_reducible show Code.wp _ (Code.region _ _ true) _ _ _)); go_step)
  refine wl_step (st_val rfl (v_moveC (.inr rfl)) ?_)
  simp only [Act.put, List.setIfInBounds_toArray, List.set_cons_zero, List.set_cons_succ]
  go_wp2
  go_loopw [6] (fun i wr => ∃ (K : Nat) (X : List Nat), K ≤ 8 ∧ i = .int .i64 K ∧ Wide (K + 8) X ∧ Hid (val 4294967296 X = m % 4294967296 ^ K * n) ∧ Env w [⟨g3, 91, ints .u64 X⟩, ⟨g2, 43, ints .u32 (List.replicate 8 0)⟩, ⟨g1, 43, ints .u32 (digs 4294967296 8 n)⟩, ⟨g0, 43, ints .u32 (digs 4294967296 8 m)⟩] wr) (fun i _ => 8 - (intOf i).toNat)
  case atStart => exact ⟨0, _, Nat.zero_le _, rfl, Wide.start, Lib.hid (by rw [val_replicate, Nat.pow_zero, Nat.mod_one, Nat.zero_mul]), hE4⟩
  case round =>
    clear hE4
    obtain ⟨K, X, hK, rfl, hW, hsum, hE0⟩ := hrel
    by_cases hK8 : K < 8
    · have hgm := Hgm.out K hK8
      have ha : m / 4294967296 ^ K % 4294967296 < 4294967296 := Nat.mod_lt _ (by decide)
      obtain ⟨a, hae⟩ : ∃ a, m / 4294967296 ^ K % 4294967296 = a := ⟨_, rfl⟩
      rw [hae] at hgm ha
      have Hae := Lib.hid hae
      have Hgk := Lib.hid hgm
      clear hae hgm
      repeat ((fail_if_success (with_reducible show wpList _ _ _ (List.cons _ _) _ _)); (fail_if_success (with_reducible show Code.wp _ (Code.region _ _ true) _ _ _)); go_step)
      refine wl_step (st_val rfl (v_moveT (.inl rfl) rfl) ?_)
      simp only [Act.put, List.setIfInBounds_toArray, List.set_cons_zero, List.set_cons_succ]
      refine wl_step (st_val rfl (v_lss (n := 8) rfl rfl rfl) ?_)
      simp only [Act.put, List.setIfInBounds_toArray, List.set_cons_zero, List.set_cons_succ]
      repeat ((fail_if_success (with_reducible show wpList _ _ _ (List.cons _ _) _ _)); (fail_if_success (with_reducible show Code.wp _ (Code.region _ _ true) _ _ _)); go_step)
      refine wl_step (st_val rfl (v_moveC (.inr rfl)) ?_)
      simp only [Act.put, List.setIfInBounds_toArray, List.set_cons_zero, List.set_cons_succ]
      repeat ((fail_if_success (with_reducible show wpList _ _ _ (List.cons _ _) _ _)); (fail_if_success (with_reducible show Code.wp _ (Code.region _ _ true) _ _ _)); go_step)
      refine wl_step (st_val rfl (v_moveC (.inr rfl)) ?_)
      simp only [Act.put, List.setIfInBounds_toArray, List.set_cons_zero, List.set_cons_succ]
      go_wp2
      go_loopw [7, 8] (fun uv i wr => ∃ (J u : Nat) (X : List Nat), J ≤ 8 ∧ i = .int .i64 J ∧ uv = .int .u64 u ∧ u < 4294967296 ∧ Wide (K + 8) X ∧ Hid (val 4294967296 X + 4294967296 ^ (K + J) * u = m % 4294967296 ^ K * n + 4294967296 ^ K * (a * (n % 4294967296 ^ J))) ∧ Env w [⟨g3, 91, ints .u64 X⟩, ⟨g2, 43, ints .u32 (List.replicate 8 0)⟩, ⟨g1, 43, ints .u32 (digs 4294967296 8 n)⟩, ⟨g0, 43, ints .u32 (digs 4294967296 8 m)⟩] wr) (fun _ i _ => 8 - (intOf i).toNat)
      case atStart => exact ⟨0, 0, _, Nat.zero_le _, rfl, rfl, by decide, hW, Lib.hid (by rw [hsum.out, Nat.pow_zero, Nat.mod_one, Nat.mul_zero, Nat.mul_zero, Nat.mul_zero]), hE0⟩
      case round =>
        clear hE0 hW hsum
        clear X
        obtain ⟨J, u, X, hJ, rfl, rfl, hu, hW, hsum, hE0⟩ := hrel
        have hX16 := hW.len
        by_cases hJ8 : J < 8
        · have hgn := Hgn.out J hJ8
          have hb : n / 4294967296 ^ J % 4294967296 < 4294967296 := Nat.mod_lt _ (by decide)
          have hn1 := mod_digit n J
          obtain ⟨b, hbe⟩ : ∃ b, n / 4294967296 ^ J % 4294967296 = b := ⟨_, rfl⟩
          rw [hbe] at hgn hb hn1
          obtain ⟨x, hx⟩ : ∃ x, X.getD (K + J) 0 = x := ⟨_, rfl⟩
          have hxl : x < 4294967296 := hx ▸ hW.dg.getD (by decide) _
          have hab := prod_le ha hb
          obtain ⟨s, hs⟩ : ∃ s, s = x + a * b + u := ⟨_, rfl⟩
          have hs64 : s < 18446744073709551616 := by omega
          have hr := hW.row hK8 hJ8 hx ha hb hu hs hsum.out
          rw [← hn1] at hr
          have Hgn2 := Lib.hid hgn
          have Hx := Lib.hid hx
          have Hs := Lib.hid hs
          have hu1 := hr.2.1
          have HR := Lib.hid hr
          clear hgn hx hs hr hbe hn1 hsum hW
          repeat ((fail_if_success (with_reducible show wpList _ _ _ (List.cons _ _) _ _)); (fail_if_success (with_reducible show Code.wp _ (Code.region _ _ true) _ _ _)); go_step)
          refine wl_step (st_val rfl (v_moveT (.inl rfl) rfl) ?_)
          simp only [Act.put, List.setIfInBounds_toArray, List.set_cons_zero, List.set_cons_succ]
          refine wl_step (st_val rfl (v_lss (n := 8) rfl rfl rfl) ?_)
          simp only [Act.put, List.setIfInBounds_toArray, List.set_cons_zero, List.set_cons_succ]
          repeat ((fail_if_success (with_reducible show wpList _ _ _ (List.cons _ _) _ _)); (fail_if_success (with_reducible show Code.wp _ (Code.region _ _ true) _ _ _)); go_step)
          refine wp_region_B (n := 18) 17 (by kernel_rfl) rfl hE0 ?_
          intro w1 hb1 hE1
          clear hE0
          refine wpB_take (i := 0) (by kernel_rfl) rfl (by kernel_rfl) (fun _ _ _ h => h) rfl (v_moveT (.inl rfl) rfl) ?_
          simp only [Act.put, List.setIfInBounds_toArray, List.set_cons_zero, List.set_cons_succ]
          refine wpB_take (i := 1) (by kernel_rfl) rfl (by kernel_rfl) (fun _ _ _ h => h) rfl (v_moveT (.inl rfl) rfl) ?_
          simp only [Act.put, List.setIfInBounds_toArray, List.set_cons_zero, List.set_cons_succ]
          refine wpB_take (i := 2) (by kernel_rfl) rfl (by kernel_rfl) (fun _ _ _ h => h) rfl (v_add rfl rfl rfl (w_i64 (by omega))) ?_
          simp only [Act.put, List.setIfInBounds_toArray, List.set_cons_zero, List.set_cons_succ]
          refine wpB_take (i := 3) (by kernel_rfl) rfl (by kernel_rfl) (fun _ _ _ h => h) rfl (v_indexA0 rfl rfl rfl Try.underlying91 (by kernel_rfl) (by first | assumption | omega)) ?_
          simp only [Act.put, List.setIfInBounds_toArray, List.set_cons_zero, List.set_cons_succ]
          refine wpB_take (i := 4) (by kernel_rfl) rfl (by kernel_rfl) (fun _ _ _ h => h) rfl (v_cell rfl rfl Try.underlying23 rfl (Env.cellv (i := 0) hE1 rfl (ints_get? _ _ _ (by first | assumption | omega | (simp; done) | (simp; omega))))) ?_
          simp only [Act.put, List.setIfInBounds_toArray, List.set_cons_zero, List.set_cons_succ]
          rw [Hx.out]
          refine wpB_take (i := 5) (by kernel_rfl) rfl (by kernel_rfl) (fun _ _ _ h => h) rfl (v_moveT (.inl rfl) rfl) ?_
          simp only [Act.put, List.setIfInBounds_toArray, List.set_cons_zero, List.set_cons_succ]
          refine wpB_take (i := 6) (by kernel_rfl) rfl (by kernel_rfl) (fun _ _ _ h => h) rfl (v_indexA0 rfl rfl rfl Try.underlying43 (by kernel_rfl) (by first | assumption | omega)) ?_
          simp only [Act.put, List.setIfInBounds_toArray, List.set_cons_zero, List.set_cons_succ]
          refine wpB_take (i := 7) (by kernel_rfl) rfl (by kernel_rfl) (fun _ _ _ h => h) rfl (v_cell rfl rfl Try.underlying41 rfl (Env.cellv (i := 3) hE1 rfl (ints_get? _ _ _ (by first | assumption | omega | (simp; done) | (simp; omega))))) ?_
          simp only [Act.put, List.setIfInBounds_toArray, List.set_cons_zero, List.set_cons_succ]
          rw [Hgk.out]
          refine wpB_take (i := 8) (by kernel_rfl) rfl (by kernel_rfl) (fun _ _ _ h => h) rfl (v_convInt rfl rfl Try.underlying41 Try.underlying23 (by first | exact w_u64 (by omega) | exact w_u64m _)) ?_
          simp only [Act.put, List.setIfInBounds_toArray, List.set_cons_zero, List.set_cons_succ]
          refine wpB_take (i := 9) (by kernel_rfl) rfl (by kernel_rfl) (fun _ _ _ h => h) rfl (v_moveT (.inl rfl) rfl) ?_
          simp only [Act.put, List.setIfInBounds_toArray, List.set_cons_zero, List.set_cons_succ]
          refine wpB_take (i := 10) (by kernel_rfl) rfl (by kernel_rfl) (fun _ _ _ h => h) rfl (v_indexA0 rfl rfl rfl Try.underlying43 (by kernel_rfl) (by first | assumption | omega)) ?_
          simp only [Act.put, List.setIfInBounds_toArray, List.set_cons_zero, List.set_cons_succ]
          refine wpB_take (i := 11) (by kernel_rfl) rfl (by kernel_rfl) (fun _ _ _ h => h) rfl (v_cell rfl rfl Try.underlying41 rfl (Env.cellv (i := 2) hE1 rfl (ints_get? _ _ _ (by first | assumption | omega | (simp; done) | (simp; omega))))) ?_
          simp only [Act.put, List.setIfInBounds_toArray, List.set_cons_zero, List.set_cons_succ]
          rw [Hgn2.out]
          refine wpB_take (i := 12) (by kernel_rfl) rfl (by kernel_rfl) (fun _ _ _ h => h) rfl (v_convInt rfl rfl Try.underlying41 Try.underlying23 (by first | exact w_u64 (by omega) | exact w_u64m _)) ?_
          simp only [Act.put, List.setIfInBounds_toArray, List.set_cons_zero, List.set_cons_succ]
          refine wpB_take (i := 13) (by kernel_rfl) rfl (by kernel_rfl) (fun _ _ _ h => h) rfl (v_mul rfl rfl rfl (by first | exact w_u64 (by omega) | exact w_u64m _)) ?_
          simp only [Act.put, List.setIfInBounds_toArray, List.set_cons_zero, List.set_cons_succ]
          refine wpB_take (i := 14) (by kernel_rfl) rfl (by kernel_rfl) (fun _ _ _ h => h) rfl (v_add rfl rfl rfl (by first | exact w_u64 (by omega) | exact w_u64m _)) ?_
          simp only [Act.put, List.setIfInBounds_toArray, List.set_cons_zero, List.set_cons_succ]
          refine wpB_take (i := 15) (by kernel_rfl) rfl (by kernel_rfl) (fun _ _ _ h => h) rfl (v_moveT (.inl rfl) rfl) ?_
          simp only [Act.put, List.setIfInBounds_toArray, List.set_cons_zero, List.set_cons_succ]
          refine wpB_take (i := 16) (by kernel_rfl) rfl (by kernel_rfl) (fun _ _ _ h => h) rfl (v_add rfl rfl rfl (by first | exact w_u64 (by omega) | exact w_u64m _)) ?_
          simp only [Act.put, List.setIfInBounds_toArray, List.set_cons_zero, List.set_cons_succ]
          rw [← Hs.out]
          refine wpB_step (i := 17) (by kernel_rfl) rfl (st_val rfl (v_moveT (.inr rfl) rfl) ?_)
          refine ⟨fun _ => Below.refl _ _, ?_⟩
          simp only [Act.put, List.setIfInBounds_toArray, List.set_cons_zero, List.set_cons_succ]
          refine wpB_done (by kernel_rfl) ?_ _
          repeat ((fail_if_success (with_reducible show wpList _ _ _ (List.cons _ _) _ _)); (fail_if_success (with_reducible show Code.wp _ (Code.region _ _ true) _ _ _)); go_step)
          refine wl_step (st_val rfl (v_moveT (.inl rfl) rfl) ?_)
          simp only [Act.put, List.setIfInBounds_toArray, List.set_cons_zero, List.set_cons_succ]
          refine wl_step (st_val rfl (v_moveT (.inl rfl) rfl) ?_)
          simp only [Act.put, List.setIfInBounds_toArray, List.set_cons_zero, List.set_cons_succ]
          refine wl_step (st_val rfl (v_add rfl rfl rfl (w_i64 (by omega))) ?_)
          simp only [Act.put, List.setIfInBounds_toArray, List.set_cons_zero, List.set_cons_succ]
          refine wl_step (st_val rfl (v_moveT (.inl rfl) rfl) ?_)
          simp only [Act.put, List.setIfInBounds_toArray, List.set_cons_zero, List.set_cons_succ]
          refine wl_step (st_val rfl (v_mask (c := 4294967295) (s := 32) (d := 4294967296) rfl rfl rfl (by decide) (by decide) rfl (by simp only [IntKind.bits]; omega) (by decide)) ?_)
          simp only [Act.put, List.setIfInBounds_toArray, List.set_cons_zero, List.set_cons_succ]
          refine wl_step (st_val rfl (v_indexA0 rfl rfl rfl Try.underlying91 (by kernel_rfl) (by first | assumption | omega)) ?_)
          simp only [Act.put, List.setIfInBounds_toArray, List.set_cons_zero, List.set_cons_succ]
          refine wl_step (st_putN (i := 0) hE1 rfl rfl rfl rfl rfl (by kernel_rfl) (by first | assumption | omega | (simp only [List.length_set, List.length_replicate]; first | assumption | omega)) ?_)
          intro w2 hE2
          clear hE1
          simp only [List.set_cons_zero, List.set_cons_succ] at hE2
          simp only [Act.put, List.setIfInBounds_toArray, List.set_cons_zero, List.set_cons_succ]
          repeat ((fail_if_success (with_reducible show wpList _ _ _ (List.cons _ _) _ _)); (fail_if_success (with_reducible show Code.wp _ (Code.region _ _ true) _ _ _)); go_step)
          refine wl_step (st_val rfl (v_moveT (.inl rfl) rfl) ?_)
          simp only [Act.put, List.setIfInBounds_toArray, List.set_cons_zero, List.set_cons_succ]
          refine wl_step (st_val rfl (v_shrC (s := 32) (d := 4294967296) rfl rfl rfl (by decide) (by decide)) ?_)
          simp only [Act.put, List.setIfInBounds_toArray, List.set_cons_zero, List.set_cons_succ]
          refine wl_step (st_val rfl (v_moveT (.inr rfl) rfl) ?_)
          simp only [Act.put, List.setIfInBounds_toArray, List.set_cons_zero, List.set_cons_succ]
          repeat ((fail_if_success (with_reducible show wpList _ _ _ (List.cons _ _) _ _)); (fail_if_success (with_reducible show Code.wp _ (Code.region _ _ true) _ _ _)); go_step)
          refine wl_step (st_val rfl (v_moveT (.inl rfl) rfl) ?_)
          simp only [Act.put, List.setIfInBounds_toArray, List.set_cons_zero, List.set_cons_succ]
          refine wl_step (st_val rfl (v_add (n := 1) rfl rfl rfl (w_i64 (by omega))) ?_)
          simp only [Act.put, List.setIfInBounds_toArray, List.set_cons_zero, List.set_cons_succ]
          refine wl_step (st_val rfl (v_moveT (.inr rfl) rfl) ?_)
          simp only [Act.put, List.setIfInBounds_toArray, List.set_cons_zero, List.set_cons_succ]
          go_wp2
          go_roundw
          case rel => exact ⟨J + 1, _, _, by omega, rfl, rfl, hu1, HR.out.1, Lib.hid HR.out.2.2, hE2⟩
          case measure => simp [intOf]; omega
        · have hJ' : J = 8 := by omega
          subst hJ'
          have hl := hW.leave hK8 hu Hn.out Hae.out hsum.out
          have HL := Lib.hid hl
          clear hl hsum hW
          repeat ((fail_if_success (with_reducible show wpList _ _ _ (List.cons _ _) _ _)); (fail_if_success (with_reducible show Code.wp _ (Code.region _ _ true) _ _ _)); go_step)
          refine wl_step (st_val rfl (v_moveT (.inl rfl) rfl) ?_)
          simp only [Act.put, List.setIfInBounds_toArray, List.set_cons_zero, List.set_cons_succ]
          refine wl_step (st_val rfl (v_lss (n := 8) rfl rfl rfl) ?_)
          simp only [Act.put, List.setIfInBounds_toArray, List.set_cons_zero, List.set_cons_succ]
          repeat ((fail_if_success (with_reducible show wpList _ _ _ (List.cons _ _) _ _)); (fail_if_success (with_reducible show Code.wp _ (Code.region _ _ true) _ _ _)); go_step)
          refine wl_step (st_val rfl (v_moveT (.inl rfl) rfl) ?_)
          simp only [Act.put, List.setIfInBounds_toArray, List.set_cons_zero, List.set_cons_succ]
          refine wl_step (st_val rfl (v_add (n := 8) rfl rfl rfl (w_i64 (by omega))) ?_)
          simp only [Act.put, List.setIfInBounds_toArray, List.set_cons_zero, List.set_cons_succ]
          refine wl_step (st_val rfl (v_moveT (.inl rfl) rfl) ?_)
          simp only [Act.put, List.setIfInBounds_toArray, List.set_cons_zero, List.set_cons_succ]
          refine wl_step (st_val rfl (v_indexA0 rfl rfl rfl Try.underlying91 (by kernel_rfl) (by first | assumption | omega)) ?_)
          simp only [Act.put, List.setIfInBounds_toArray, List.set_cons_zero, List.set_cons_succ]
          refine wl_step (st_putN (i := 0) hE0 rfl rfl rfl rfl rfl (by kernel_rfl) (by first | assumption | omega | (simp only [List.length_set, List.length_replicate]; first | assumption | omega)) ?_)
          intro w1 hE1
          clear hE0
          simp only [List.set_cons_zero, List.set_cons_succ] at hE1
          simp only [Act.put, List.setIfInBounds_toArray, List.set_cons_zero, List.set_cons_succ]
          repeat ((fail_if_success (with_reducible show wpList _ _ _ (List.cons _ _) _ _)); (fail_if_success (with_reducible show Code.wp _ (Code.region _ _ true) _ _ _)); go_step)
          refine wl_step (st_val rfl (v_moveT (.inl rfl) rfl) ?_)
          simp only [Act.put, List.setIfInBounds_toArray, List.set_cons_zero, List.set_cons_succ]
          refine wl_step (st_val rfl (v_add (n := 1) rfl rfl rfl (w_i64 (by omega))) ?_)
          simp only [Act.put, List.setIfInBounds_toArray, List.set_cons_zero, List.set_cons_succ]
          refine wl_step (st_val rfl (v_moveT (.inr rfl) rfl) ?_)
          simp only [Act.put, List.setIfInBounds_toArray, List.set_cons_zero, List.set_cons_succ]
          go_wp2
          go_roundw
          case rel => exact ⟨K + 1, _, by omega, rfl, HL.out.1, Lib.hid HL.out.2, hE1⟩
          case measure => simp [intOf]; omega
    · have hK' : K = 8 := by omega
      subst hK'
      have hs := hsum.out
      rw [← big8_eq, Nat.mod_eq_of_lt Hm.out] at hs
      obtain ⟨T, hT⟩ : ∃ T, T = m * n := ⟨_, rfl⟩
      rw [← hT] at hs
      have HTe := Lib.hid hT
      have hT2 : T / big8 < big8 := by
        apply Nat.div_lt_of_lt_mul
        rw [hT]
        exact Nat.mul_lt_mul'' Hm.out Hn.out
      have HT2 := Lib.hid hT2
      have HgX := Lib.hid (fun i => hs ▸ (val_div_mod hW.dg (by decide) i).symm)
      have hX16 := hW.len
      clear hT2 hs hsum hW hT
      repeat ((fail_if_success (with_reducible show wpList _ _ _ (List.cons _ _) _ _)); (fail_if_success (with_reducible show Code.wp _ (Code.region _ _ true) _ _ _)); go_step)
      refine wl_step (st_val rfl (v_moveT (.inl rfl) rfl) ?_)
      simp only [Act.put, List.setIfInBounds_toArray, List.set_cons_zero, List.set_cons_succ]
      refine wl_step (st_val rfl (v_lss (n := 8) rfl rfl rfl) ?_)
      simp only [Act.put, List.setIfInBounds_toArray, List.set_cons_zero, List.set_cons_succ]
      repeat ((fail_if_success (with_reducible show wpList _ _ _ (List.cons _ _) _ _)); (fail_if_success (with_reducible show Code.wp _ (Code.region _ _ true) _ _ _)); go_step)
      refine wl_step (st_alloc (zs := ints .u32 (List.replicate 8 0)) hE0 rfl rfl (fun w => by kernel_rfl) ?_)
      intro g4 w1 hb1 hE1
      clear hE0
      simp only [Act.put, List.setIfInBounds_toArray, List.set_cons_zero, List.set_cons_succ]
      repeat ((fail_if_success (with_reducible show wpList _ _ _ (List.cons _ _) _ _)); (fail_if_success (with_reducible show Code.wp _ (Code.region _ _ true) _ _ _)); go_step)
      refine wl_step (st_val rfl (v_moveC (.inr rfl)) ?_)
      simp only [Act.put, List.setIfInBounds_toArray, List.set_cons_zero, List.set_cons_succ]
      repeat ((fail_if_success (with_reducible show wpList _ _ _ (List.cons _ _) _ _)); (fail_if_success (with_reducible show Code.wp _ (Code.region _ _ true) _ _ _)); go_step)
      refine wl_step (st_val rfl (v_moveC (.inr rfl)) ?_)
      simp only [Act.put, List.setIfInBounds_toArray, List.set_cons_zero, List.set_cons_succ]
      go_wp2
      go_loopw [11, 12] (fun uv i wr => ∃ (K u : Nat) (Y : List Nat), K ≤ 8 ∧ i = .int .i64 K ∧ uv = .int .u64 u ∧ u < 40 ∧ Fill K Y ∧ Hid (val 4294967296 Y + 4294967296 ^ K * u = T % 4294967296 ^ K + 38 * (T / 4294967296 ^ 8 % 4294967296 ^ K)) ∧ Env w [⟨g4, 43, ints .u32 Y⟩, ⟨g3, 91, ints .u64 X⟩, ⟨g2, 43, ints .u32 (List.replicate 8 0)⟩, ⟨g1, 43, ints .u32 (digs 4294967296 8 n)⟩, ⟨g0, 43, ints .u32 (digs 4294967296 8 m)⟩] wr) (fun _ i _ => 8 - (intOf i).toNat)
      case atStart => exact ⟨0, 0, _, Nat.zero_le _, rfl, rfl, by decide, Fill.start, Lib.hid (by rw [val_replicate, Nat.pow_zero, Nat.mod_one, Nat.mod_one]), hE1⟩
      case round =>
        clear hE1
        obtain ⟨K, u, Y, hK, rfl, rfl, hu, hF, hsum, hE0⟩ := hrel
        have hY8 := hF.len
        by_cases hK8 : K < 8
        · have hga := HgX.out K
          have hgb := HgX.out (K + 8)
          rw [high_digit] at hgb
          have ha : T / 4294967296 ^ K % 4294967296 < 4294967296 := Nat.mod_lt _ (by decide)
          have hb : T / 4294967296 ^ 8 / 4294967296 ^ K % 4294967296 < 4294967296 := Nat.mod_lt _ (by decide)
          have hm1 := mod_digit T K
          have hn1 := mod_digit (T / 4294967296 ^ 8) K
          obtain ⟨a, hae⟩ : ∃ a, T / 4294967296 ^ K % 4294967296 = a := ⟨_, rfl⟩
          obtain ⟨b, hbe⟩ : ∃ b, T / 4294967296 ^ 8 / 4294967296 ^ K % 4294967296 = b := ⟨_, rfl⟩
          rw [hae] at hga ha hm1
          rw [hbe] at hgb hb hn1
          have hdg := fold_digit ha hb hu
          have hst := hF.step hK8 (show (a + 38 * b + u) % 4294967296 < 4294967296 from Nat.mod_lt _ (by decide))
          have hnew : Hid (val 4294967296 (Y.set K ((a + 38 * b + u) % 4294967296)) + 4294967296 ^ (K + 1) * ((a + 38 * b + u) / 4294967296) = T % 4294967296 ^ (K + 1) + 38 * (T / 4294967296 ^ 8 % 4294967296 ^ (K + 1))) := Lib.hid (by
            rw [hst.2, hm1, hn1, Nat.pow_succ]
            exact fold_step hsum.out hdg.1 rfl)
          have hF1 := Lib.hid hst.1
          have hu1 := hdg.2
          have Hga := Lib.hid hga
          have Hgb := Lib.hid hgb
          clear hdg hm1 hn1 hst hsum hF hga hgb hae hbe
          repeat ((fail_if_success (with_reducible show wpList _ _ _ (List.cons _ _) _ _)); (fail_if_success (with_reducible show Code.wp _ (Code.region _ _ true) _ _ _)); go_step)
          refine wl_step (st_val rfl (v_moveT (.inl rfl) rfl) ?_)
          simp only [Act.put, List.setIfInBounds_toArray, List.set_cons_zero, List.set_cons_succ]
          refine wl_step (st_val rfl (v_lss (n := 8) rfl rfl rfl) ?_)
          simp only [Act.put, List.setIfInBounds_toArray, List.set_cons_zero, List.set_cons_succ]
          repeat ((fail_if_success (with_reducible show wpList _ _ _ (List.cons _ _) _ _)); (fail_if_success (with_reducible show Code.wp _ (Code.region _ _ true) _ _ _)); go_step)
          refine wp_region_B (n := 12) 11 (by kernel_rfl) rfl hE0 ?_
          intro w1 hb1 hE1
          clear hE0
          refine wpB_take (i := 0) (by kernel_rfl) rfl (by kernel_rfl) (fun _ _ _ h => h) rfl (v_moveT (.inl rfl) rfl) ?_
          simp only [Act.put, List.setIfInBounds_toArray, List.set_cons_zero, List.set_cons_succ]
          refine wpB_take (i := 1) (by kernel_rfl) rfl (by kernel_rfl) (fun _ _ _ h => h) rfl (v_indexA0 rfl rfl rfl Try.underlying91 (by kernel_rfl) (by first | assumption | omega)) ?_
          simp only [Act.put, List.setIfInBounds_toArray, List.set_cons_zero, List.set_cons_succ]
          refine wpB_take (i := 2) (by kernel_rfl) rfl (by kernel_rfl) (fun _ _ _ h => h) rfl (v_cell rfl rfl Try.underlying23 rfl (Env.cellv (i := 1) hE1 rfl (ints_get? _ _ _ (by first | assumption | omega | (simp; done) | (simp; omega))))) ?_
          simp only [Act.put, List.setIfInBounds_toArray, List.set_cons_zero, List.set_cons_succ]
          rw [Hga.out]
          refine wpB_take (i := 3) (by kernel_rfl) rfl (by kernel_rfl) (fun _ _ _ h => h) rfl (v_moveT (.inl rfl) rfl) ?_
          simp only [Act.put, List.setIfInBounds_toArray, List.set_cons_zero, List.set_cons_succ]
          refine wpB_take (i := 4) (by kernel_rfl) rfl (by kernel_rfl) (fun _ _ _ h => h) rfl (v_add (n := 8) rfl rfl rfl (w_i64 (by omega))) ?_
          simp only [Act.put, List.setIfInBounds_toArray, List.set_cons_zero, List.set_cons_succ]
          refine wpB_take (i := 5) (by kernel_rfl) rfl (by kernel_rfl) (fun _ _ _ h => h) rfl (v_indexA0 rfl rfl rfl Try.underlying91 (by kernel_rfl) (by first | assumption | omega)) ?_
          simp only [Act.put, List.setIfInBounds_toArray, List.set_cons_zero, List.set_cons_succ]
          refine wpB_take (i := 6) (by kernel_rfl) rfl (by kernel_rfl) (fun _ _ _ h => h) rfl (v_cell rfl rfl Try.underlying23 rfl (Env.cellv (i := 1) hE1 rfl (ints_get? _ _ _ (by first | assumption | omega | (simp; done) | (simp; omega))))) ?_
          simp only [Act.put, List.setIfInBounds_toArray, List.set_cons_zero, List.set_cons_succ]
          rw [Hgb.out]
          refine wpB_take (i := 7) (by kernel_rfl) rfl (by kernel_rfl) (fun _ _ _ h => h) rfl (v_mul (m := 38) rfl rfl rfl (by first | exact w_u64 (by omega) | exact w_u64m _)) ?_
          simp only [Act.put, List.setIfInBounds_toArray, List.set_cons_zero, List.set_cons_succ]
          refine wpB_take (i := 8) (by kernel_rfl) rfl (by kernel_rfl) (fun _ _ _ h => h) rfl (v_add rfl rfl rfl (by first | exact w_u64 (by omega) | exact w_u64m _)) ?_
          simp only [Act.put, List.setIfInBounds_toArray, List.set_cons_zero, List.set_cons_succ]
          refine wpB_take (i := 9) (by kernel_rfl) rfl (by kernel_rfl) (fun _ _ _ h => h) rfl (v_moveT (.inl rfl) rfl) ?_
          simp only [Act.put, List.setIfInBounds_toArray, List.set_cons_zero, List.set_cons_succ]
          refine wpB_take (i := 10) (by kernel_rfl) rfl (by kernel_rfl) (fun _ _ _ h => h) rfl (v_add rfl rfl rfl (by first | exact w_u64 (by omega) | exact w_u64m _)) ?_
          simp only [Act.put, List.setIfInBounds_toArray, List.set_cons_zero, List.set_cons_succ]
          refine wpB_step (i := 11) (by kernel_rfl) rfl (st_val rfl (v_moveT (.inr rfl) rfl) ?_)
          refine ⟨fun _ => Below.refl _ _, ?_⟩
          simp only [Act.put, List.setIfInBounds_toArray, List.set_cons_zero, List.set_cons_succ]
          refine wpB_done (by kernel_rfl) ?_ _
          repeat ((fail_if_success (with_reducible show wpList _ _ _ (List.cons _ _) _ _)); (fail_if_success (with_reducible show Code.wp _ (Code.region _ _ true) _ _ _)); go_step)
          refine wl_step (st_val rfl (v_moveT (.inl rfl) rfl) ?_)
          simp only [Act.put, List.setIfInBounds_toArray, List.set_cons_zero, List.set_cons_succ]
          refine wl_step (st_val rfl (v_moveT (.inl rfl) rfl) ?_)
          simp only [Act.put, List.setIfInBounds_toArray, List.set_cons_zero, List.set_cons_succ]
          refine wl_step (st_val rfl (v_convInt rfl rfl Try.underlying23 Try.underlying41 (w_u32m _)) ?_)
          simp only [Act.put, List.setIfInBounds_toArray, List.set_cons_zero, List.set_cons_succ]
          refine wl_step (st_val rfl (v_indexA0 rfl rfl rfl Try.underlying43 (by kernel_rfl) (by first | assumption | omega)) ?_)
          simp only [Act.put, List.setIfInBounds_toArray, List.set_cons_zero, List.set_cons_succ]
          refine wl_step (st_putN (i := 0) hE1 rfl rfl rfl rfl rfl (by kernel_rfl) (by first | assumption | omega | (simp only [List.length_set, List.length_replicate]; first | assumption | omega)) ?_)
          intro w2 hE2
          clear hE1
          simp only [List.set_cons_zero, List.set_cons_succ] at hE2
          simp only [Act.put, List.setIfInBounds_toArray, List.set_cons_zero, List.set_cons_succ]
          repeat ((fail_if_success (with_reducible show wpList _ _ _ (List.cons _ _) _ _)); (fail_if_success (with_reducible show Code.wp _ (Code.region _ _ true) _ _ _)); go_step)
          refine wl_step (st_val rfl (v_moveT (.inl rfl) rfl) ?_)
          simp only [Act.put, List.setIfInBounds_toArray, List.set_cons_zero, List.set_cons_succ]
          refine wl_step (st_val rfl (v_shrC (s := 32) (d := 4294967296) rfl rfl rfl (by decide) (by decide)) ?_)
          simp only [Act.put, List.setIfInBounds_toArray, List.set_cons_zero, List.set_cons_succ]
          refine wl_step (st_val rfl (v_moveT (.inr rfl) rfl) ?_)
          simp only [Act.put, List.setIfInBounds_toArray, List.set_cons_zero, List.set_cons_succ]
          repeat ((fail_if_success (with_reducible show wpList _ _ _ (List.cons _ _) _ _)); (fail_if_success (with_reducible show Code.wp _ (Code.region _ _ true) _ _ _)); go_step)
          refine wl_step (st_val rfl (v_moveT (.inl rfl) rfl) ?_)
          simp only [Act.put, List.setIfInBounds_toArray, List.set_cons_zero, List.set_cons_succ]
          refine wl_step (st_val rfl (v_add (n := 1) rfl rfl rfl (w_i64 (by omega))) ?_)
          simp only [Act.put, List.setIfInBounds_toArray, List.set_cons_zero, List.set_cons_succ]
          refine wl_step (st_val rfl (v_moveT (.inr rfl) rfl) ?_)
          simp only [Act.put, List.setIfInBounds_toArray, List.set_cons_zero, List.set_cons_succ]
          go_wp2
          go_roundw
          case rel => exact ⟨K + 1, _, _, by omega, rfl, rfl, hu1, hF1.out, hnew, hE2⟩
          case measure => simp [intOf]; omega
        · have hK' : K = 8 := by omega
          subst hK'
          have hs := hsum.out
          rw [← big8_eq, Nat.mod_eq_of_lt HT2.out] at hs
          have HmT : Hid ((val 4294967296 Y + big8 * u) % pN = T % pN) := Lib.hid (by rw [hs, fold_mod])
          have hu2 : u < 4294967296 := by omega
          obtain ⟨Z, hZ⟩ : ∃ Z, val 4294967296 Y + big8 * u = Z := ⟨_, rfl⟩
          rw [hZ] at HmT
          have HZ := Lib.hid hZ
          clear hs hsum hZ hK hK8
          repeat ((fail_if_success (with_reducible show wpList _ _ _ (List.cons _ _) _ _)); (fail_if_success (with_reducible show Code.wp _ (Code.region _ _ true) _ _ _)); go_step)
          refine wl_step (st_val rfl (v_moveT (.inl rfl) rfl) ?_)
          simp only [Act.put, List.setIfInBounds_toArray, List.set_cons_zero, List.set_cons_succ]
          refine wl_step (st_val rfl (v_lss (n := 8) rfl rfl rfl) ?_)
          simp only [Act.put, List.setIfInBounds_toArray, List.set_cons_zero, List.set_cons_succ]
          go_wp2
          go_loopg [11] (Z) (fun V uv wr => ∃ (u : Nat) (Y : List Nat), uv = .int .u64 u ∧ u < 4294967296 ∧ Fill 8 Y ∧ Hid (val 4294967296 Y + big8 * u = V) ∧ Hid (V % pN = T % pN) ∧ Env w [⟨g4, 43, ints .u32 Y⟩, ⟨g3, 91, ints .u64 X⟩, ⟨g2, 43, ints .u32 (List.replicate 8 0)⟩, ⟨g1, 43, ints .u32 (digs 4294967296 8 n)⟩, ⟨g0, 43, ints .u32 (digs 4294967296 8 m)⟩] wr)
          case atStart => exact ⟨u, Y, rfl, hu2, hF, HZ, HmT, hE0⟩
          case round =>
            clear hE0 HZ HmT hu2 hu hF hY8
            skip
            obtain ⟨u, Y, rfl, hu, hF, hsum, hmod, hE0⟩ := hrel
            have hY8 := hF.len
            have hYlt := hF.lt
            by_cases hu0 : 0 < u
            · obtain ⟨V, hV⟩ : ∃ V, V = val 4294967296 Y := ⟨_, rfl⟩
              have hs0 := hsum.out
              rw [← hV] at hs0 hYlt
              have HV := Lib.hid hV
              have HVlt := Lib.hid hYlt
              have Hgk : Hid (V + big8 * u = gk) := Lib.hid hs0
              clear hs0 hYlt hsum hV
              repeat ((fail_if_success (with_reducible show wpList _ _ _ (List.cons _ _) _ _)); (fail_if_success (with_reducible show Code.wp _ (Code.region _ _ true) _ _ _)); go_step)
              refine wl_step (st_val rfl (v_moveT (.inl rfl) rfl) ?_)
              simp only [Act.put, List.setIfInBounds_toArray, List.set_cons_zero, List.set_cons_succ]
              refine wl_step (st_val rfl (v_gtr (n := 0) rfl rfl rfl) ?_)
              simp only [Act.put, List.setIfInBounds_toArray, List.set_cons_zero, List.set_cons_succ]
              repeat ((fail_if_success (with_reducible show wpList _ _ _ (List.cons _ _) _ _)); (fail_if_success (with_reducible show Code.wp _ (Code.region _ _ true) _ _ _)); (fail_if_success (with_reducible show Code.wp _ (Code.cond _ _ _) _ _ _)); go_step)
              refine wp_cond_true (by first | rfl | exact congrArg Value.bool (decide_eq_true (by omega))) ?_
              skip
              repeat ((fail_if_success (with_reducible show wpList _ _ _ (List.cons _ _) _ _)); (fail_if_success (with_reducible show Code.wp _ (Code.region _ _ true) _ _ _)); go_step)
              refine wl_step (st_val rfl (v_moveT (.inl rfl) rfl) ?_)
              simp only [Act.put, List.setIfInBounds_toArray, List.set_cons_zero, List.set_cons_succ]
              refine wl_step (st_val rfl (v_mul (m := 38) rfl rfl rfl (by first | exact w_u64 (by omega) | exact w_u64m _)) ?_)
              simp only [Act.put, List.setIfInBounds_toArray, List.set_cons_zero, List.set_cons_succ]
              refine wl_step (st_val rfl (v_moveT (.inr rfl) rfl) ?_)
              simp only [Act.put, List.setIfInBounds_toArray, List.set_cons_zero, List.set_cons_succ]
              repeat ((fail_if_success (with_reducible show wpList _ _ _ (List.cons _ _) _ _)); (fail_if_success (with_reducible show Code.wp _ (Code.region _ _ true) _ _ _)); go_step)
              refine wl_step (st_val rfl (v_moveC (.inr rfl)) ?_)
              simp only [Act.put, List.setIfInBounds_toArray, List.set_cons_zero, List.set_cons_succ]
              repeat ((fail_if_success (with_reducible show wpList _ _ _ (List.cons _ _) _ _)); (fail_if_success (with_reducible show Code.wp _ (Code.region _ _ true) _ _ _)); go_step)
              refine wl_step (st_val rfl (v_moveC (.inr rfl)) ?_)
              simp only [Act.put, List.setIfInBounds_toArray, List.set_cons_zero, List.set_cons_succ]
              go_wp2
              go_loopw [14, 15] (fun cv i wr => ∃ (J c : Nat) (Y : List Nat), J ≤ 8 ∧ i = .int .i64 J ∧ cv = .int .u64 c ∧ c < 1099511627776 ∧ Fill 8 Y ∧ Hid (val 4294967296 Y + 4294967296 ^ J * c = V + 38 * u) ∧ Env w [⟨g4, 43, ints .u32 Y⟩, ⟨g3, 91, ints .u64 X⟩, ⟨g2, 43, ints .u32 (List.replicate 8 0)⟩, ⟨g1, 43, ints .u32 (digs 4294967296 8 n)⟩, ⟨g0, 43, ints .u32 (digs 4294967296 8 m)⟩] wr) (fun _ i _ => 8 - (intOf i).toNat)
              case atStart => exact ⟨0, 38 * u, Y, Nat.zero_le _, rfl, rfl, by omega, hF, Lib.hid (by rw [HV.out, Nat.pow_zero, Nat.one_mul]), hE0⟩
              case round =>
                clear hE0 hF hY8 HV
                skip
                obtain ⟨J, c, Y, hJ, rfl, rfl, hc, hF, hsum, hE0⟩ := hrel
                have hY8 := hF.len
                by_cases hJ8 : J < 8
                · obtain ⟨y, hy⟩ : ∃ y, Y.getD J 0 = y := ⟨_, rfl⟩
                  have hyl : y < 4294967296 := hy ▸ hF.dg.getD (by decide) _
                  have hr := hF.carry hJ8 hy hc hsum.out
                  have Hy := Lib.hid hy
                  have hc1 := hr.2.1
                  have HR := Lib.hid hr
                  clear hy hr hsum hF
                  repeat ((fail_if_success (with_reducible show wpList _ _ _ (List.cons _ _) _ _)); (fail_if_success (with_reducible show Code.wp _ (Code.region _ _ true) _ _ _)); go_step)
                  refine wl_step (st_val rfl (v_moveT (.inl rfl) rfl) ?_)
                  simp only [Act.put, List.setIfInBounds_toArray, List.set_cons_zero, List.set_cons_succ]
                  refine wl_step (st_val rfl (v_lss (n := 8) rfl rfl rfl) ?_)
                  simp only [Act.put, List.setIfInBounds_toArray, List.set_cons_zero, List.set_cons_succ]
                  repeat ((fail_if_success (with_reducible show wpList _ _ _ (List.cons _ _) _ _)); (fail_if_success (with_reducible show Code.wp _ (Code.region _ _ true) _ _ _)); go_step)
                  refine wl_step (st_val rfl (v_moveT (.inl rfl) rfl) ?_)
                  simp only [Act.put, List.setIfInBounds_toArray, List.set_cons_zero, List.set_cons_succ]
                  refine wl_step (st_val rfl (v_moveT (.inl rfl) rfl) ?_)
                  simp only [Act.put, List.setIfInBounds_toArray, List.set_cons_zero, List.set_cons_succ]
                  refine wl_step (st_val rfl (v_indexA0 rfl rfl rfl Try.underlying43 (by kernel_rfl) (by first | assumption | omega)) ?_)
                  simp only [Act.put, List.setIfInBounds_toArray, List.set_cons_zero, List.set_cons_succ]
                  refine wl_step (st_val rfl (v_cell rfl rfl Try.underlying41 rfl (Env.cellv (i := 0) hE0 rfl (ints_get? _ _ _ (by first | assumption | omega | (simp; done) | (simp; omega))))) ?_)
                  simp only [Act.put, List.setIfInBounds_toArray, List.set_cons_zero, List.set_cons_succ]
                  rw [Hy.out]
                  refine wl_step (st_val rfl (v_convInt rfl rfl Try.underlying41 Try.underlying23 (by first | exact w_u64 (by omega) | exact w_u64m _)) ?_)
                  simp only [Act.put, List.setIfInBounds_toArray, List.set_cons_zero, List.set_cons_succ]
                  refine wl_step (st_val rfl (v_add rfl rfl rfl (by first | exact w_u64 (by omega) | exact w_u64m _)) ?_)
                  simp only [Act.put, List.setIfInBounds_toArray, List.set_cons_zero, List.set_cons_succ]
                  refine wl_step (st_val rfl (v_moveT (.inr rfl) rfl) ?_)
                  simp only [Act.put, List.setIfInBounds_toArray, List.set_cons_zero, List.set_cons_succ]
                  repeat ((fail_if_success (with_reducible show wpList _ _ _ (List.cons _ _) _ _)); (fail_if_success (with_reducible show Code.wp _ (Code.region _ _ true) _ _ _)); go_step)
                  refine wl_step (st_val rfl (v_moveT (.inl rfl) rfl) ?_)
                  simp only [Act.put, List.setIfInBounds_toArray, List.set_cons_zero, List.set_cons_succ]
                  refine wl_step (st_val rfl (v_moveT (.inl rfl) rfl) ?_)
                  simp only [Act.put, List.setIfInBounds_toArray, List.set_cons_zero, List.set_cons_succ]
                  refine wl_step (st_val rfl (v_convInt rfl rfl Try.underlying23 Try.underlying41 (w_u32m _)) ?_)
                  simp only [Act.put, List.setIfInBounds_toArray, List.set_cons_zero, List.set_cons_succ]
                  refine wl_step (st_val rfl (v_indexA0 rfl rfl rfl Try.underlying43 (by kernel_rfl) (by first | assumption | omega)) ?_)
                  simp only [Act.put, List.setIfInBounds_toArray, List.set_cons_zero, List.set_cons_succ]
                  refine wl_step (st_putN (i := 0) hE0 rfl rfl rfl rfl rfl (by kernel_rfl) (by first | assumption | omega | (simp only [List.length_set, List.length_replicate]; first | assumption | omega)) ?_)
                  intro w1 hE1
                  clear hE0
                  simp only [List.set_cons_zero, List.set_cons_succ] at hE1
                  simp only [Act.put, List.setIfInBounds_toArray, List.set_cons_zero, List.set_cons_succ]
                  repeat ((fail_if_success (with_reducible show wpList _ _ _ (List.cons _ _) _ _)); (fail_if_success (with_reducible show Code.wp _ (Code.region _ _ true) _ _ _)); go_step)
                  refine wl_step (st_val rfl (v_moveT (.inl rfl) rfl) ?_)
                  simp only [Act.put, List.setIfInBounds_toArray, List.set_cons_zero, List.set_cons_succ]
                  refine wl_step (st_val rfl (v_shrC (s := 32) (d := 4294967296) rfl rfl rfl (by decide) (by decide)) ?_)
                  simp only [Act.put, List.setIfInBounds_toArray, List.set_cons_zero, List.set_cons_succ]
                  refine wl_step (st_val rfl (v_moveT (.inr rfl) rfl) ?_)
                  simp only [Act.put, List.setIfInBounds_toArray, List.set_cons_zero, List.set_cons_succ]
                  repeat ((fail_if_success (with_reducible show wpList _ _ _ (List.cons _ _) _ _)); (fail_if_success (with_reducible show Code.wp _ (Code.region _ _ true) _ _ _)); go_step)
                  refine wl_step (st_val rfl (v_moveT (.inl rfl) rfl) ?_)
                  simp only [Act.put, List.setIfInBounds_toArray, List.set_cons_zero, List.set_cons_succ]
                  refine wl_step (st_val rfl (v_add (n := 1) rfl rfl rfl (w_i64 (by omega))) ?_)
                  simp only [Act.put, List.setIfInBounds_toArray, List.set_cons_zero, List.set_cons_succ]
                  refine wl_step (st_val rfl (v_moveT (.inr rfl) rfl) ?_)
                  simp only [Act.put, List.setIfInBounds_toArray, List.set_cons_zero, List.set_cons_succ]
                  go_wp2
                  go_roundw
                  case rel => exact ⟨J + 1, _, _, by omega, rfl, rfl, hc1, HR.out.1, Lib.hid HR.out.2.2, hE1⟩
                  case measure => simp [intOf]; omega
                · have hJ' : J = 8 := by omega
                  subst hJ'
                  have hs := hsum.out
                  rw [← big8_eq] at hs
                  have hcs := fold_small HVlt.out hu hs
                  have hnew : Hid (val 4294967296 Y + big8 * c = V + 38 * u) := Lib.hid hs
                  have hmod2 : Hid ((V + 38 * u) % pN = T % pN) := Lib.hid (by rw [fold_again, Hgk.out, hmod.out])
                  have hlt2 : V + 38 * u < gk := by rw [← Hgk.out]; exact fold_less hu0
                  have Hlt2 := Lib.hid hlt2
                  clear hs hsum hlt2
                  repeat ((fail_if_success (with_reducible show wpList _ _ _ (List.cons _ _) _ _)); (fail_if_success (with_reducible show Code.wp _ (Code.region _ _ true) _ _ _)); go_step)
                  refine wl_step (st_val rfl (v_moveT (.inl rfl) rfl) ?_)
                  simp only [Act.put, List.setIfInBounds_toArray, List.set_cons_zero, List.set_cons_succ]
                  refine wl_step (st_val rfl (v_lss (n := 8) rfl rfl rfl) ?_)
                  simp only [Act.put, List.setIfInBounds_toArray, List.set_cons_zero, List.set_cons_succ]
                  repeat ((fail_if_success (with_reducible show wpList _ _ _ (List.cons _ _) _ _)); (fail_if_success (with_reducible show Code.wp _ (Code.region _ _ true) _ _ _)); go_step)
                  refine wl_step (st_val rfl (v_moveT (.inl rfl) rfl) ?_)
                  simp only [Act.put, List.setIfInBounds_toArray, List.set_cons_zero, List.set_cons_succ]
                  refine wl_step (st_val rfl (v_moveT (.inr rfl) rfl) ?_)
                  simp only [Act.put, List.setIfInBounds_toArray, List.set_cons_zero, List.set_cons_succ]
                  go_wp2
                  go_roundg (V + 38 * u)
                  case measure => exact Hlt2.out
                  case rel => exact ⟨c, Y, rfl, hcs, hF, hnew, hmod2, hE0⟩
            · have hu' : u = 0 := by omega
              subst hu'
              have hs0 := hsum.out
              rw [Nat.mul_zero, Nat.add_zero] at hs0
              have hXe := hF.eq
              rw [hs0] at hXe hYlt
              rw [hXe] at hE0
              have HD := fun w => down_any hYlt w
              rw [hmod.out] at HD
              have HD2 := Lib.hid HD
              have hl8 := nm_len gk
              have hl9 := nm_len (T % pN)
              clear HD hs0 hXe hYlt hsum hF hmod
              repeat ((fail_if_success (with_reducible show wpList _ _ _ (List.cons _ _) _ _)); (fail_if_success (with_reducible show Code.wp _ (Code.region _ _ true) _ _ _)); go_step)
              refine wl_step (st_val rfl (v_moveT (.inl rfl) rfl) ?_)
              simp only [Act.put, List.setIfInBounds_toArray, List.set_cons_zero, List.set_cons_succ]
              refine wl_step (st_val rfl (v_gtr (n := 0) rfl rfl rfl) ?_)
              simp only [Act.put, List.setIfInBounds_toArray, List.set_cons_zero, List.set_cons_succ]
              repeat ((fail_if_success (with_reducible show wpList _ _ _ (List.cons _ _) _ _)); (fail_if_success (with_reducible show Code.wp _ (Code.region _ _ true) _ _ _)); (fail_if_success (with_reducible show Code.wp _ (Code.cond _ _ _) _ _ _)); go_step)
              refine wp_cond_false (by first | rfl | exact congrArg Value.bool (decide_eq_false (by omega))) ?_
              skip
              repeat ((fail_if_success (with_reducible show wpList _ _ _ (List.cons _ _) _ _)); (fail_if_success (with_reducible show Code.wp _ (Code.region _ _ true) _ _ _)); go_step)
              refine wl_step (st_val rfl (v_load (i := 0) hE0 rfl rfl rfl Try.underlying43 rfl (sz_of (n := 8) (by kernel_rfl) (by first | (simp only [ints_size, digs_length, List.length_replicate, List.length_cons, List.length_nil]; done) | (simp only [ints_size, digs_length, List.length_replicate, List.length_cons, List.length_nil, List.length_set, List.length_append]; omega) | rfl))) ?_)
              simp only [Act.put, List.setIfInBounds_toArray, List.set_cons_zero, List.set_cons_succ]
              refine wl_step (st_gives hE0 rfl (run_call rfl Try.call71) (HD2.out _) ?_)
              intro w1 hb1 hE1
              clear hE0
              simp only [Act.put, List.setIfInBounds_toArray, List.set_cons_zero, List.set_cons_succ]
              refine wl_step (st_store (i := 2) hE1 rfl rfl rfl rfl rfl (sz_of (n := 8) (by kernel_rfl) (by first | (simp only [ints_size, digs_length, List.length_replicate, List.length_cons, List.length_nil]; done) | (simp only [ints_size, digs_length, List.length_replicate, List.length_cons, List.length_nil, List.length_set, List.length_append]; omega) | rfl)) (by first | (simp only [ints_size, digs_length, List.length_replicate, List.length_cons, List.length_nil]; done) | (simp only [ints_size, digs_length, List.length_replicate, List.length_cons, List.length_nil, List.length_set, List.length_append]; omega) | rfl) (by first | exact ints_one _ _ | decide | simp [*]) ?_)
              intro w2 hE2
              clear hE1
              simp only [List.set_cons_zero, List.set_cons_succ] at hE2
              simp only [Act.put, List.setIfInBounds_toArray, List.set_cons_zero, List.set_cons_succ]
              repeat ((fail_if_success (with_reducible show wpList _ _ _ (List.cons _ _) _ _)); (fail_if_success (with_reducible show Code.wp _ (Code.region _ _ true) _ _ _)); go_step)
              refine bodyPost_ret (results_cell_row rfl _ _ _ _ _ (0, 0) _ rfl (hE2.get (i := 2) rfl) Try.underlying43 rfl (sz_of (n := 8) (by kernel_rfl) (by first | (simp only [ints_size, digs_length, List.length_replicate, List.length_cons, List.length_nil]; done) | (simp only [ints_size, digs_length, List.length_replicate, List.length_cons, List.length_nil, List.length_set, List.length_append]; omega) | rfl))) rfl ⟨by rw [HTe.out], hE2.below⟩
end Go.Proofs.Ytmebjoehmheknaa
