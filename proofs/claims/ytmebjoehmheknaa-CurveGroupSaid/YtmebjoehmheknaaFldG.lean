/-
  Layer 4: a number's bytes; whether it is odd, 0; whether two are the same; whether bytes are those of a number below p.
-/
import Derived.Test.YtmebjoehmheknaaFldF
import Derived.Test.YtmebjoehmheknaaEq
namespace Go.Proofs.Ytmebjoehmheknaa
open Go.RowKit
set_option linter.unusedVariables false
set_option linter.unusedSimpArgs false

/-- A bit. -/
def bitF (N p : Nat) : Nat := N / 2 ^ p % 2
theorem bitF_le (N p : Nat) : bitF N p ≤ 1 := by unfold bitF; omega
theorem byte_low (N p : Nat) : N % 2 ^ p / 256 ^ (p / 8) < 2 ^ (p % 8) := by
  rw [Nat.div_lt_iff_lt_mul (Nat.pow_pos (by decide)), show (256 : Nat) = 2 ^ 8 from rfl, ← Nat.pow_mul, ← Nat.pow_add, show p % 8 + 8 * (p / 8) = p by omega]
  exact Nat.mod_lt _ (Nat.pow_pos (by decide))
theorem byte_old {N p : Nat} (hp : p < 256) : (digs 256 32 (N % 2 ^ p)).getD (p / 8) 0 = N % 2 ^ p / 256 ^ (p / 8) := by
  rw [digs_getD _ _ _ _ (by omega)]
  have h1 := byte_low N p
  have h2 : 2 ^ (p % 8) ≤ 2 ^ 7 := Nat.pow_le_pow_right (by decide) (by omega)
  exact Nat.mod_eq_of_lt (by omega)
theorem bit_fits (N p : Nat) : bitF N p * 2 ^ (p % 8) < 256 := by
  have h1 := bitF_le N p
  have h2 : 2 ^ (p % 8) ≤ 2 ^ 7 := Nat.pow_le_pow_right (by decide) (by omega)
  have h3 := Nat.mul_le_mul h1 h2
  omega
theorem byte_new (N p : Nat) : N % 2 ^ p / 256 ^ (p / 8) + bitF N p * 2 ^ (p % 8) < 256 := by
  have h1 := byte_low N p
  have h2 := bitF_le N p
  have h3 : 2 ^ (p % 8) ≤ 2 ^ 7 := Nat.pow_le_pow_right (by decide) (by omega)
  have h4 := Nat.mul_le_mul h2 (Nat.le_refl (2 ^ (p % 8)))
  omega
theorem bytes_step {N p : Nat} (hp : p < 256) : (digs 256 32 (N % 2 ^ p)).set (p / 8) (N % 2 ^ p / 256 ^ (p / 8) + bitF N p * 2 ^ (p % 8)) = digs 256 32 (N % 2 ^ (p + 1)) := by
  have hj : p / 8 < (digs 256 32 (N % 2 ^ p)).length := by rw [digs_length]; omega
  refine val_inj (B := 256) ((digs_Digs (by decide) 32 _).set _ (byte_new N p)) (digs_Digs (by decide) 32 _) (by rw [List.length_set, digs_length, digs_length]) ?_
  have h := val_set (B := 256) (digs 256 32 (N % 2 ^ p)) (p / 8) (N % 2 ^ p / 256 ^ (p / 8) + bitF N p * 2 ^ (p % 8)) hj
  have e : (digs 256 32 (N % 2 ^ p))[p / 8] = N % 2 ^ p / 256 ^ (p / 8) := by
    rw [← byte_old hp]
    simp [List.getD, hj]
  have b1 : N % 2 ^ p < 256 ^ 32 := Nat.lt_of_lt_of_le (Nat.mod_lt _ (Nat.pow_pos (by decide))) (by rw [show (256 : Nat) ^ 32 = 2 ^ 256 from rfl]; exact Nat.pow_le_pow_right (by decide) (by omega))
  have b2 : N % 2 ^ (p + 1) < 256 ^ 32 := Nat.lt_of_lt_of_le (Nat.mod_lt _ (Nat.pow_pos (by decide))) (by rw [show (256 : Nat) ^ 32 = 2 ^ 256 from rfl]; exact Nat.pow_le_pow_right (by decide) (by omega))
  rw [e, val_digs, Nat.mod_eq_of_lt b1, Nat.mul_add] at h
  rw [val_digs, Nat.mod_eq_of_lt b2, Nat.pow_succ, Nat.mod_mul]
  have e2 : 256 ^ (p / 8) * (bitF N p * 2 ^ (p % 8)) = 2 ^ p * (N / 2 ^ p % 2) := by
    rw [bitF, show (256 : Nat) = 2 ^ 8 from rfl, ← Nat.pow_mul, Nat.mul_comm (N / 2 ^ p % 2), ← Nat.mul_assoc, ← Nat.pow_add, show 8 * (p / 8) + p % 8 = p by omega]
  rw [e2] at h
  omega
theorem bit_of_limb {N I K : Nat} (hK : K < 51) : N / 2251799813685248 ^ I % 2251799813685248 / 2 ^ K % 2 = bitF N (51 * I + K) := by
  unfold bitF
  rw [show (2251799813685248 : Nat) = 2 ^ 51 from rfl, ← Nat.pow_mul, mod_pow_div_mod (B := 2) _ 51 K hK, Nat.div_div_eq_div_mul, ← Nat.pow_add]

set_option maxRecDepth 100000 in
set_option maxHeartbeats 4000000 in
theorem Bytes_any {l : List Nat} (hl : Fe l) (w : World) : Gives 41 #[elem l] w (.agg (ints .u8 (digs 256 32 (fval l % pN)))) := by
  have hleast := Lib.hid (fun w => least_any hl w)
  have hl5 := hl.1
  have hN : fval l % pN < pN := Nat.mod_lt _ (by decide)
  obtain ⟨N, hNe⟩ : ∃ N, N = fval l % pN := ⟨_, rfl⟩
  rw [← hNe] at hleast hN ⊢
  have hlim : (digs 2251799813685248 5 N).length = 5 := digs_length _ _ _
  have hfin : digs 256 32 (N % 2 ^ 255) = digs 256 32 N := by rw [Nat.mod_eq_of_lt (Nat.lt_trans hN (by decide))]
  have hini : digs 256 32 (N % 2 ^ 0) = List.replicate 32 0 := by rw [Nat.pow_zero, Nat.mod_one]; decide
  have Hfin := Lib.hid hfin
  have Hini := Lib.hid hini
  have hblen : ∀ p, (digs 256 32 (N % 2 ^ p)).length = 32 := fun _ => digs_length _ _ _
  have Hblen := Lib.hid hblen
  clear hl hNe hN hfin hini hblen
  have hE0 := Env.nil w
  go_enter Try.func41, Try.ntmps41
  repeat ((fail_if_success (with_reducible show wpList _ _ _ (List.cons _ _) _ _)); (fail_if_success (with_reducible show Code.wp _ (Code.region _ _ true) _ _ _)); go_step)
  refine wl_step (st_boxA hE0 rfl rfl rfl ?_)
  intro g0 w1 hb1 hE1
  clear hE0
  simp only [Act.put, List.setIfInBounds_toArray, List.set_cons_zero, List.set_cons_succ]
  refine wl_step (st_alloc (zs := ints .u8 (List.replicate 32 0)) hE1 rfl rfl (fun w => by kernel_rfl) ?_)
  intro g1 w2 hb2 hE2
  clear hE1
  simp only [Act.put, List.setIfInBounds_toArray, List.set_cons_zero, List.set_cons_succ]
  repeat ((fail_if_success (with_reducible show wpList _ _ _ (List.cons _ _) _ _)); (fail_if_success (with_reducible show Code.wp _ (Code.region _ _ true) _ _ _)); go_step)
  refine wl_step (st_alloc (zs := ints .u8 (List.replicate 32 0)) hE2 rfl rfl (fun w => by kernel_rfl) ?_)
  intro g2 w3 hb3 hE3
  clear hE2
  simp only [Act.put, List.setIfInBounds_toArray, List.set_cons_zero, List.set_cons_succ]
  repeat ((fail_if_success (with_reducible show wpList _ _ _ (List.cons _ _) _ _)); (fail_if_success (with_reducible show Code.wp _ (Code.region _ _ true) _ _ _)); go_step)
  refine wl_step (st_val rfl (v_load (i := 2) hE3 rfl rfl rfl Try.underlying26 rfl (sz_of (n := 5) (by kernel_rfl) (by first | (simp only [ints_size, digs_length, List.length_replicate, List.length_cons, List.length_nil]; done) | (simp only [ints_size, digs_length, List.length_replicate, List.length_cons, List.length_nil, List.length_set, List.length_append]; omega) | rfl))) ?_)
  simp only [Act.put, List.setIfInBounds_toArray, List.set_cons_zero, List.set_cons_succ]
  refine wl_step (st_gives hE3 rfl (run_call rfl Try.call66) (hleast.out _) ?_)
  intro w4 hb4 hE4
  clear hE3
  simp only [Act.put, List.setIfInBounds_toArray, List.set_cons_zero, List.set_cons_succ]
  refine wl_step (st_val rfl (v_fieldW (n := 5) rfl rfl Try.underlying26 rfl rfl (Try.isAgg24) (by kernel_rfl) (by first | assumption | rfl)) ?_)
  simp only [Act.put, List.setIfInBounds_toArray, List.set_cons_zero, List.set_cons_succ]
  refine wl_step (st_val rfl (v_moveC (.inl rfl)) ?_)
  simp only [Act.put, List.setIfInBounds_toArray, List.set_cons_zero, List.set_cons_succ]
  go_wp2
  go_loopw [11] (fun i wr => ∃ I : Nat, I ≤ 5 ∧ i = .int .i64 I ∧ Env w [⟨g2, 22, ints .u8 (digs 256 32 (N % 2 ^ (51 * I)))⟩, ⟨g1, 22, ints .u8 (List.replicate 32 0)⟩, ⟨g0, 26, ints .u64 l⟩] wr) (fun i _ => 5 - (intOf i).toNat)
  case atStart => exact ⟨0, Nat.zero_le _, rfl, by rw [Nat.mul_zero, Hini.out]; exact hE4⟩
  case round =>
    clear hE4
    obtain ⟨I, hI, rfl, hE0⟩ := hrel
    by_cases hI5 : I < 5
    · have Hx := Lib.hid (digs_getD 2251799813685248 5 N I hI5)
      have hx64 : N / 2251799813685248 ^ I % 2251799813685248 < 2251799813685248 := Nat.mod_lt _ (by decide)
      have Hbit := Lib.hid (fun K (h : K < 51) => bit_of_limb (N := N) (I := I) h)
      obtain ⟨x, hxe⟩ : ∃ x, x = N / 2251799813685248 ^ I % 2251799813685248 := ⟨_, rfl⟩
      rw [← hxe] at Hx hx64 Hbit
      clear hxe
      repeat ((fail_if_success (with_reducible show wpList _ _ _ (List.cons _ _) _ _)); (fail_if_success (with_reducible show Code.wp _ (Code.region _ _ true) _ _ _)); go_step)
      refine wl_step (st_val rfl (v_lss (n := 5) rfl rfl rfl) ?_)
      simp only [Act.put, List.setIfInBounds_toArray, List.set_cons_zero, List.set_cons_succ]
      repeat ((fail_if_success (with_reducible show wpList _ _ _ (List.cons _ _) _ _)); (fail_if_success (with_reducible show Code.wp _ (Code.region _ _ true) _ _ _)); go_step)
      refine wl_step (st_val rfl (v_moveT (.inl rfl) rfl) ?_)
      simp only [Act.put, List.setIfInBounds_toArray, List.set_cons_zero, List.set_cons_succ]
      refine wl_step (st_val rfl (v_idx rfl rfl rfl Try.underlying24 (by kernel_rfl : _ = some Try.t23) rfl Try.underlying23 (by first | assumption | simp) (by first | assumption | omega)) ?_)
      simp only [Act.put, List.setIfInBounds_toArray, List.set_cons_zero, List.set_cons_succ]
      rw [Hx.out]
      refine wl_step (st_val rfl (v_moveT (.inr rfl) rfl) ?_)
      simp only [Act.put, List.setIfInBounds_toArray, List.set_cons_zero, List.set_cons_succ]
      refine wl_step (st_val rfl (v_moveT (.inr rfl) rfl) ?_)
      simp only [Act.put, List.setIfInBounds_toArray, List.set_cons_zero, List.set_cons_succ]
      repeat ((fail_if_success (with_reducible show wpList _ _ _ (List.cons _ _) _ _)); (fail_if_success (with_reducible show Code.wp _ (Code.region _ _ true) _ _ _)); go_step)
      refine wl_step (st_val rfl (v_moveC (.inr rfl)) ?_)
      simp only [Act.put, List.setIfInBounds_toArray, List.set_cons_zero, List.set_cons_succ]
      go_wp2
      go_loopw [6] (fun i wr => ∃ K : Nat, K ≤ 51 ∧ i = .int .i64 K ∧ Env w [⟨g2, 22, ints .u8 (digs 256 32 (N % 2 ^ (51 * I + K)))⟩, ⟨g1, 22, ints .u8 (List.replicate 32 0)⟩, ⟨g0, 26, ints .u64 l⟩] wr) (fun i _ => 51 - (intOf i).toNat)
      case atStart => exact ⟨0, Nat.zero_le _, rfl, hE0⟩
      case round =>
        clear hE0
        obtain ⟨K, hK, rfl, hE0⟩ := hrel
        by_cases hK5 : K < 51
        · have Hb := Lib.hid (Hbit.out K hK5)
          have hp : 51 * I + K < 256 := by omega
          have hbl := Hblen.out (51 * I + K)
          have Hold := Lib.hid (byte_old (N := N) hp)
          have Hstep := Lib.hid (bytes_step (N := N) hp)
          have hbit := bitF_le N (51 * I + K)
          have hfit := bit_fits N (51 * I + K)
          have hlow := byte_low N (51 * I + K)
          have hsp : 2 ^ ((51 * I + K) % 8) ≤ 2 ^ IntKind.u8.bits := Nat.pow_le_pow_right (by decide) (by simp only [IntKind.bits]; omega)
          have hshift : x / 2 ^ K < 2 ^ IntKind.u64.bits := by
            have := Nat.div_le_self x (2 ^ K)
            simp only [IntKind.bits]
            omega
          have hm2 : x / 2 ^ K % 2 < 256 := by omega
          have h9 : (51 * I + K) % 8 ≤ IntKind.u8.bits := by simp only [IntKind.bits]; omega
          repeat ((fail_if_success (with_reducible show wpList _ _ _ (List.cons _ _) _ _)); (fail_if_success (with_reducible show Code.wp _ (Code.region _ _ true) _ _ _)); go_step)
          refine wl_step (st_val rfl (v_moveT (.inl rfl) rfl) ?_)
          simp only [Act.put, List.setIfInBounds_toArray, List.set_cons_zero, List.set_cons_succ]
          refine wl_step (st_val rfl (v_lss (n := 51) rfl rfl rfl) ?_)
          simp only [Act.put, List.setIfInBounds_toArray, List.set_cons_zero, List.set_cons_succ]
          repeat ((fail_if_success (with_reducible show wpList _ _ _ (List.cons _ _) _ _)); (fail_if_success (with_reducible show Code.wp _ (Code.region _ _ true) _ _ _)); go_step)
          refine wl_step (st_val rfl (v_moveT (.inl rfl) rfl) ?_)
          simp only [Act.put, List.setIfInBounds_toArray, List.set_cons_zero, List.set_cons_succ]
          refine wl_step (st_val rfl (v_mul (m := 51) rfl rfl rfl (w_i64 (by omega))) ?_)
          simp only [Act.put, List.setIfInBounds_toArray, List.set_cons_zero, List.set_cons_succ]
          refine wl_step (st_val rfl (v_moveT (.inl rfl) rfl) ?_)
          simp only [Act.put, List.setIfInBounds_toArray, List.set_cons_zero, List.set_cons_succ]
          refine wl_step (st_val rfl (v_add rfl rfl rfl (w_i64 (by omega))) ?_)
          simp only [Act.put, List.setIfInBounds_toArray, List.set_cons_zero, List.set_cons_succ]
          refine wl_step (st_val rfl (v_moveT (.inr rfl) rfl) ?_)
          simp only [Act.put, List.setIfInBounds_toArray, List.set_cons_zero, List.set_cons_succ]
          repeat ((fail_if_success (with_reducible show wpList _ _ _ (List.cons _ _) _ _)); (fail_if_success (with_reducible show Code.wp _ (Code.region _ _ true) _ _ _)); go_step)
          refine wp_region_B (n := 15) 14 (by kernel_rfl) rfl hE0 ?_
          intro w1 hb1 hE1
          clear hE0
          refine wpB_take (i := 0) (by kernel_rfl) rfl (by kernel_rfl) (fun _ _ _ h => h) rfl (v_moveT (.inl rfl) rfl) ?_
          simp only [Act.put, List.setIfInBounds_toArray, List.set_cons_zero, List.set_cons_succ]
          refine wpB_take (i := 1) (by kernel_rfl) rfl (by kernel_rfl) (fun _ _ _ h => h) rfl (v_quo (n := 8) rfl rfl rfl (by omega) (w_i64 (by omega))) ?_
          simp only [Act.put, List.setIfInBounds_toArray, List.set_cons_zero, List.set_cons_succ]
          refine wpB_take (i := 2) (by kernel_rfl) rfl (by kernel_rfl) (fun _ _ _ h => h) rfl (v_indexA0 rfl rfl rfl Try.underlying22 (by kernel_rfl) (by first | assumption | omega)) ?_
          simp only [Act.put, List.setIfInBounds_toArray, List.set_cons_zero, List.set_cons_succ]
          refine wpB_take (i := 3) (by kernel_rfl) rfl (by kernel_rfl) (fun _ _ _ h => h) rfl (v_cell rfl rfl Try.underlying5 rfl (Env.cellv (i := 0) hE1 rfl (ints_get? _ _ _ (by first | assumption | omega | (simp; done) | (simp; omega))))) ?_
          simp only [Act.put, List.setIfInBounds_toArray, List.set_cons_zero, List.set_cons_succ]
          rw [Hold.out]
          refine wpB_take (i := 4) (by kernel_rfl) rfl (by kernel_rfl) (fun _ _ _ h => h) rfl (v_moveT (.inl rfl) rfl) ?_
          simp only [Act.put, List.setIfInBounds_toArray, List.set_cons_zero, List.set_cons_succ]
          refine wpB_take (i := 5) (by kernel_rfl) rfl (by kernel_rfl) (fun _ _ _ h => h) rfl (v_moveT (.inl rfl) rfl) ?_
          simp only [Act.put, List.setIfInBounds_toArray, List.set_cons_zero, List.set_cons_succ]
          refine wpB_take (i := 6) (by kernel_rfl) rfl (by kernel_rfl) (fun _ _ _ h => h) rfl (v_shr rfl rfl rfl (by simp only [IntKind.bits]; omega)) ?_
          simp only [Act.put, List.setIfInBounds_toArray, List.set_cons_zero, List.set_cons_succ]
          refine wpB_take (i := 7) (by kernel_rfl) rfl (by kernel_rfl) (fun _ _ _ h => h) rfl (v_mask (c := 1) (s := 1) (d := 2) rfl rfl rfl (by decide) (by decide) rfl hshift (by decide)) ?_
          simp only [Act.put, List.setIfInBounds_toArray, List.set_cons_zero, List.set_cons_succ]
          refine wpB_take (i := 8) (by kernel_rfl) rfl (by kernel_rfl) (fun _ _ _ h => h) rfl (v_convInt rfl rfl Try.underlying23 Try.underlying5 (by first | exact w_u8 (by omega) | exact w_u8m _)) ?_
          simp only [Act.put, List.setIfInBounds_toArray, List.set_cons_zero, List.set_cons_succ]
          rw [Hb.out]
          refine wpB_take (i := 9) (by kernel_rfl) rfl (by kernel_rfl) (fun _ _ _ h => h) rfl (v_moveT (.inl rfl) rfl) ?_
          simp only [Act.put, List.setIfInBounds_toArray, List.set_cons_zero, List.set_cons_succ]
          refine wpB_take (i := 10) (by kernel_rfl) rfl (by kernel_rfl) (fun _ _ _ h => h) rfl (v_rem (n := 8) rfl rfl rfl (by omega)) ?_
          simp only [Act.put, List.setIfInBounds_toArray, List.set_cons_zero, List.set_cons_succ]
          refine wpB_take (i := 11) (by kernel_rfl) rfl (by kernel_rfl) (fun _ _ _ h => h) rfl (v_shl rfl rfl rfl h9 (w_u8 hfit)) ?_
          simp only [Act.put, List.setIfInBounds_toArray, List.set_cons_zero, List.set_cons_succ]
          refine wpB_take (i := 12) (by kernel_rfl) rfl (by kernel_rfl) (fun _ _ _ h => h) rfl (v_orShift rfl rfl rfl rfl hlow hsp hfit) ?_
          simp only [Act.put, List.setIfInBounds_toArray, List.set_cons_zero, List.set_cons_succ]
          refine wpB_take (i := 13) (by kernel_rfl) rfl (by kernel_rfl) (fun _ _ _ h => h) rfl (v_indexA0 rfl rfl rfl Try.underlying22 (by kernel_rfl) (by first | assumption | omega)) ?_
          simp only [Act.put, List.setIfInBounds_toArray, List.set_cons_zero, List.set_cons_succ]
          refine wpB_step (i := 14) (by kernel_rfl) rfl (st_putN (i := 0) hE1 rfl rfl rfl rfl rfl (by kernel_rfl) (by first | assumption | omega | (simp only [List.length_set, List.length_replicate]; first | assumption | omega)) ?_)
          intro w2 hE2
          clear hE1
          simp only [List.set_cons_zero, List.set_cons_succ] at hE2
          refine ⟨fun h => absurd h (by decide), ?_⟩
          simp only [Act.put, List.setIfInBounds_toArray, List.set_cons_zero, List.set_cons_succ]
          refine wpB_done (by kernel_rfl) ?_ _
          rw [Hstep.out] at hE2
          repeat ((fail_if_success (with_reducible show wpList _ _ _ (List.cons _ _) _ _)); (fail_if_success (with_reducible show Code.wp _ (Code.region _ _ true) _ _ _)); go_step)
          refine wl_step (st_val rfl (v_moveT (.inl rfl) rfl) ?_)
          simp only [Act.put, List.setIfInBounds_toArray, List.set_cons_zero, List.set_cons_succ]
          refine wl_step (st_val rfl (v_add (n := 1) rfl rfl rfl (w_i64 (by omega))) ?_)
          simp only [Act.put, List.setIfInBounds_toArray, List.set_cons_zero, List.set_cons_succ]
          refine wl_step (st_val rfl (v_moveT (.inr rfl) rfl) ?_)
          simp only [Act.put, List.setIfInBounds_toArray, List.set_cons_zero, List.set_cons_succ]
          go_wp2
          go_roundw
          case rel => exact ⟨K + 1, by omega, rfl, hE2⟩
          case measure => simp [intOf]; omega
        · have hK' : K = 51 := by omega
          subst hK'
          repeat ((fail_if_success (with_reducible show wpList _ _ _ (List.cons _ _) _ _)); (fail_if_success (with_reducible show Code.wp _ (Code.region _ _ true) _ _ _)); go_step)
          refine wl_step (st_val rfl (v_moveT (.inl rfl) rfl) ?_)
          simp only [Act.put, List.setIfInBounds_toArray, List.set_cons_zero, List.set_cons_succ]
          refine wl_step (st_val rfl (v_lss (n := 51) rfl rfl rfl) ?_)
          simp only [Act.put, List.setIfInBounds_toArray, List.set_cons_zero, List.set_cons_succ]
          repeat ((fail_if_success (with_reducible show wpList _ _ _ (List.cons _ _) _ _)); (fail_if_success (with_reducible show Code.wp _ (Code.region _ _ true) _ _ _)); go_step)
          refine wl_step (st_val rfl (v_add (n := 1) rfl rfl rfl (w_i64 (by omega))) ?_)
          simp only [Act.put, List.setIfInBounds_toArray, List.set_cons_zero, List.set_cons_succ]
          refine wl_step (st_val rfl (v_moveT (.inl rfl) rfl) ?_)
          simp only [Act.put, List.setIfInBounds_toArray, List.set_cons_zero, List.set_cons_succ]
          go_wp2
          go_roundw
          case rel => exact ⟨I + 1, by omega, rfl, by rw [show 51 * (I + 1) = 51 * I + 51 by omega]; exact hE0⟩
          case measure => simp [intOf]; omega
    · have hI' : I = 5 := by omega
      subst hI'
      have hE1 : Env w [⟨g2, 22, ints .u8 (digs 256 32 N)⟩, ⟨g1, 22, ints .u8 (List.replicate 32 0)⟩, ⟨g0, 26, ints .u64 l⟩] wr := by rw [← Hfin.out]; exact hE0
      have hbl : (digs 256 32 N).length = 32 := digs_length _ _ _
      clear hE0
      repeat ((fail_if_success (with_reducible show wpList _ _ _ (List.cons _ _) _ _)); (fail_if_success (with_reducible show Code.wp _ (Code.region _ _ true) _ _ _)); go_step)
      refine wl_step (st_val rfl (v_lss (n := 5) rfl rfl rfl) ?_)
      simp only [Act.put, List.setIfInBounds_toArray, List.set_cons_zero, List.set_cons_succ]
      repeat ((fail_if_success (with_reducible show wpList _ _ _ (List.cons _ _) _ _)); (fail_if_success (with_reducible show Code.wp _ (Code.region _ _ true) _ _ _)); go_step)
      refine wl_step (st_val rfl (v_load (i := 0) hE1 rfl rfl rfl Try.underlying22 rfl (sz_of (n := 32) (by kernel_rfl) (by first | (simp only [ints_size, digs_length, List.length_replicate, List.length_cons, List.length_nil]; done) | (simp only [ints_size, digs_length, List.length_replicate, List.length_cons, List.length_nil, List.length_set, List.length_append]; omega) | rfl))) ?_)
      simp only [Act.put, List.setIfInBounds_toArray, List.set_cons_zero, List.set_cons_succ]
      refine wl_step (st_store (i := 1) hE1 rfl rfl rfl rfl rfl (sz_of (n := 32) (by kernel_rfl) (by first | (simp only [ints_size, digs_length, List.length_replicate, List.length_cons, List.length_nil]; done) | (simp only [ints_size, digs_length, List.length_replicate, List.length_cons, List.length_nil, List.length_set, List.length_append]; omega) | rfl)) (by first | (simp only [ints_size, digs_length, List.length_replicate, List.length_cons, List.length_nil]; done) | (simp only [ints_size, digs_length, List.length_replicate, List.length_cons, List.length_nil, List.length_set, List.length_append]; omega) | rfl) (by first | exact ints_one _ _ | decide | simp [*]) ?_)
      intro w2 hE2
      clear hE1
      simp only [List.set_cons_zero, List.set_cons_succ] at hE2
      simp only [Act.put, List.setIfInBounds_toArray, List.set_cons_zero, List.set_cons_succ]
      repeat ((fail_if_success (with_reducible show wpList _ _ _ (List.cons _ _) _ _)); (fail_if_success (with_reducible show Code.wp _ (Code.region _ _ true) _ _ _)); go_step)
      refine bodyPost_ret (results_cell_row rfl _ _ _ _ _ (0, 0) _ rfl (hE2.get (i := 1) rfl) Try.underlying22 rfl (sz_of (n := 32) (by kernel_rfl) (by first | (simp only [ints_size, digs_length, List.length_replicate, List.length_cons, List.length_nil]; done) | (simp only [ints_size, digs_length, List.length_replicate, List.length_cons, List.length_nil, List.length_set, List.length_append]; omega) | rfl))) rfl ⟨rfl, hE2.below⟩
end Go.Proofs.Ytmebjoehmheknaa
