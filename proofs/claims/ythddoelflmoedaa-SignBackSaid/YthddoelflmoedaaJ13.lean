/-
  Layer 4: a number's bytes; whether it is odd, 0; whether two are the same; whether bytes are those of a number below p.
  Layer 4: whether a number is odd, 0; whether two are the same; whether bytes are those of a number below p.
  Layer 4: powers, inverses; roots.
  Two results, of which the first lies in memory; function values.
  Layer 4: any power, the inverse, the root.
-/
import Derived.Test.YthddoelflmoedaaJ07
import Derived.Test.YthddoelflmoedaaJ11
import Derived.Test.YthddoelflmoedaaJ12
namespace Go.Proofs.Ythddoelflmoedaa
open Go.RowKit
set_option maxRecDepth 100000
set_option linter.unusedVariables false
set_option linter.unusedSimpArgs false

/-- A bit. -/
def bitF (N p : Nat) : Nat := N / 2 ^ p % 2
theorem bitF_le (N p : Nat) : bitF N p ≤ 1 := by unfold bitF; omega
theorem byte_low (N p : Nat) : N % 2 ^ p / 256 ^ (p / 8) < 2 ^ (p % 8) := by
  rw [Nat.div_lt_iff_lt_mul (Nat.pow_pos (by decide)), show (256 : Nat) = 2 ^ 8 from rfl, ← Nat.pow_mul, ← Nat.pow_add, show p % 8 + 8 * (p / 8) = p by omega]
  exact Nat.mod_lt _ (Nat.pow_pos (by decide))
theorem byte_old {N p : Nat} (hp : p < 256) : (digs 256 32 (N % 2 ^ p)).getD (p / 8) 0 = N % 2 ^ p / 256 ^ (p / 8) := by
  rw [digs_getD _ _ _ _ (by omega)]
  have h1 := byte_low N p
  have h2 : 2 ^ (p % 8) ≤ 2 ^ 7 := Nat.pow_le_pow_right (by decide) (by omega)
  exact Nat.mod_eq_of_lt (by omega)
theorem bit_fits (N p : Nat) : bitF N p * 2 ^ (p % 8) < 256 := by
  have h1 := bitF_le N p
  have h2 : 2 ^ (p % 8) ≤ 2 ^ 7 := Nat.pow_le_pow_right (by decide) (by omega)
  have h3 := Nat.mul_le_mul h1 h2
  omega
theorem byte_new (N p : Nat) : N % 2 ^ p / 256 ^ (p / 8) + bitF N p * 2 ^ (p % 8) < 256 := by
  have h1 := byte_low N p
  have h2 := bitF_le N p
  have h3 : 2 ^ (p % 8) ≤ 2 ^ 7 := Nat.pow_le_pow_right (by decide) (by omega)
  have h4 := Nat.mul_le_mul h2 (Nat.le_refl (2 ^ (p % 8)))
  omega
theorem bytes_step {N p : Nat} (hp : p < 256) : (digs 256 32 (N % 2 ^ p)).set (p / 8) (N % 2 ^ p / 256 ^ (p / 8) + bitF N p * 2 ^ (p % 8)) = digs 256 32 (N % 2 ^ (p + 1)) := by
  have hj : p / 8 < (digs 256 32 (N % 2 ^ p)).length := by rw [digs_length]; omega
  refine val_inj (B := 256) ((digs_Digs (by decide) 32 _).set _ (byte_new N p)) (digs_Digs (by decide) 32 _) (by rw [List.length_set, digs_length, digs_length]) ?_
  have h := val_set (B := 256) (digs 256 32 (N % 2 ^ p)) (p / 8) (N % 2 ^ p / 256 ^ (p / 8) + bitF N p * 2 ^ (p % 8)) hj
  have e : (digs 256 32 (N % 2 ^ p))[p / 8] = N % 2 ^ p / 256 ^ (p / 8) := by
    rw [← byte_old hp]
    simp [List.getD, hj]
  have b1 : N % 2 ^ p < 256 ^ 32 := Nat.lt_of_lt_of_le (Nat.mod_lt _ (Nat.pow_pos (by decide))) (by rw [show (256 : Nat) ^ 32 = 2 ^ 256 from rfl]; exact Nat.pow_le_pow_right (by decide) (by omega))
  have b2 : N % 2 ^ (p + 1) < 256 ^ 32 := Nat.lt_of_lt_of_le (Nat.mod_lt _ (Nat.pow_pos (by decide))) (by rw [show (256 : Nat) ^ 32 = 2 ^ 256 from rfl]; exact Nat.pow_le_pow_right (by decide) (by omega))
  rw [e, val_digs, Nat.mod_eq_of_lt b1, Nat.mul_add] at h
  rw [val_digs, Nat.mod_eq_of_lt b2, Nat.pow_succ, Nat.mod_mul]
  have e2 : 256 ^ (p / 8) * (bitF N p * 2 ^ (p % 8)) = 2 ^ p * (N / 2 ^ p % 2) := by
    rw [bitF, show (256 : Nat) = 2 ^ 8 from rfl, ← Nat.pow_mul, Nat.mul_comm (N / 2 ^ p % 2), ← Nat.mul_assoc, ← Nat.pow_add, show 8 * (p / 8) + p % 8 = p by omega]
  rw [e2] at h
  omega
theorem bit_of_limb {N I K : Nat} (hK : K < 51) : N / 2251799813685248 ^ I % 2251799813685248 / 2 ^ K % 2 = bitF N (51 * I + K) := by
  unfold bitF
  rw [show (2251799813685248 : Nat) = 2 ^ 51 from rfl, ← Nat.pow_mul, mod_pow_div_mod (B := 2) _ 51 K hK, Nat.div_div_eq_div_mul, ← Nat.pow_add]

set_option maxRecDepth 100000 in
set_option maxHeartbeats 4000000 in
theorem Bytes_any {l : List Nat} (hl : Fe l) (w : World) : Gives 31 #[elem l] w (.agg (ints .u8 (digs 256 32 (fval l % pN)))) := by
  have hleast := Lib.hid (fun w => least_any hl w)
  have hl5 := hl.1
  have hN : fval l % pN < pN := Nat.mod_lt _ (by decide)
  obtain ⟨N, hNe⟩ : ∃ N, N = fval l % pN := ⟨_, rfl⟩
  rw [← hNe] at hleast hN ⊢
  have hlim : (digs 2251799813685248 5 N).length = 5 := digs_length _ _ _
  have hfin : digs 256 32 (N % 2 ^ 255) = digs 256 32 N := by rw [Nat.mod_eq_of_lt (Nat.lt_trans hN (by decide))]
  have hini : digs 256 32 (N % 2 ^ 0) = List.replicate 32 0 := by rw [Nat.pow_zero, Nat.mod_one]; decide
  have Hfin := Lib.hid hfin
  have Hini := Lib.hid hini
  have hblen : ∀ p, (digs 256 32 (N % 2 ^ p)).length = 32 := fun _ => digs_length _ _ _
  have Hblen := Lib.hid hblen
  clear hl hNe hN hfin hini hblen
  have hE0 := Env.nil w
  go_enter Try.func31, Try.ntmps31
  repeat ((fail_if_success with_reducible show wA ..); (fail_if_success with_reducible show wB ..); go_step)
  refine wl_step (st_boxA hE0 rfl rfl rfl ?_)
  intro g0 w1 hb1 hE1
  clear hE0
  simp only [Act.put, pA, pB, pC]
  refine wl_step (st_alloc (zs := ints .u8 (List.replicate 32 0)) hE1 rfl rfl (fun w => by kernel_rfl) ?_)
  intro g1 w2 hb2 hE2
  clear hE1
  simp only [Act.put, pA, pB, pC]
  repeat ((fail_if_success with_reducible show wA ..); (fail_if_success with_reducible show wB ..); go_step)
  refine wl_step (st_alloc (zs := ints .u8 (List.replicate 32 0)) hE2 rfl rfl (fun w => by kernel_rfl) ?_)
  intro g2 w3 hb3 hE3
  clear hE2
  simp only [Act.put, pA, pB, pC]
  repeat ((fail_if_success with_reducible show wA ..); (fail_if_success with_reducible show wB ..); go_step)
  refine wv (v_load (i := 2) hE3 rfl rfl rfl Try.underlying41 rfl (szA (n := 5))) ?_
  simp only [Act.put, pA, pB, pC]
  refine wl_step (st_gives hE3 rfl (run_call rfl Try.call60) (hleast.out _) ?_)
  intro w4 hb4 hE4
  clear hE3
  simp only [Act.put, pA, pB, pC]
  refine wv (v_fieldW (n := 5) rfl rfl Try.underlying41 rfl rfl (Try.isAgg39) (by kernel_rfl) (by first | assumption | rfl)) ?_
  simp only [Act.put, pA, pB, pC]
  refine wv (v_moveC (.inl rfl)) ?_
  simp only [Act.put, pA, pB, pC]
  go_wp2
  go_loopw [11] (fun i wr => ∃ I : Nat, I ≤ 5 ∧ i = .int .i64 I ∧ Env w [⟨g2, 22, ints .u8 (digs 256 32 (N % 2 ^ (51 * I)))⟩, ⟨g1, 22, ints .u8 (List.replicate 32 0)⟩, ⟨g0, 41, ints .u64 l⟩] wr) (fun i _ => 5 - (intOf i).toNat)
  case atStart => exact ⟨0, Nat.zero_le _, rfl, by rw [Nat.mul_zero, Hini.out]; exact hE4⟩
  case round =>
    clear hE4
    obtain ⟨I, hI, rfl, hE0⟩ := hrel
    by_cases hI5 : I < 5
    · have Hx := Lib.hid (digs_getD 2251799813685248 5 N I hI5)
      have hx64 : N / 2251799813685248 ^ I % 2251799813685248 < 2251799813685248 := Nat.mod_lt _ (by decide)
      have Hbit := Lib.hid (fun K (h : K < 51) => bit_of_limb (N := N) (I := I) h)
      obtain ⟨x, hxe⟩ : ∃ x, x = N / 2251799813685248 ^ I % 2251799813685248 := ⟨_, rfl⟩
      rw [← hxe] at Hx hx64 Hbit
      clear hxe
      repeat ((fail_if_success with_reducible show wA ..); (fail_if_success with_reducible show wB ..); go_step)
      refine wv (v_lss (n := 5) rfl rfl rfl) ?_
      simp only [Act.put, pA, pB, pC]
      repeat ((fail_if_success with_reducible show wA ..); (fail_if_success with_reducible show wB ..); go_step)
      refine wv (v_moveT (.inl rfl) rfl) ?_
      simp only [Act.put, pA, pB, pC]
      refine wv (v_idx rfl rfl rfl Try.underlying39 (by kernel_rfl : _ = some Try.t38) rfl Try.underlying38 (by first | assumption | simp) (by first | assumption | omega)) ?_
      simp only [Act.put, pA, pB, pC]
      rw [Hx.out]
      refine wv (v_moveT (.inr rfl) rfl) ?_
      simp only [Act.put, pA, pB, pC]
      refine wv (v_moveT (.inr rfl) rfl) ?_
      simp only [Act.put, pA, pB, pC]
      repeat ((fail_if_success with_reducible show wA ..); (fail_if_success with_reducible show wB ..); go_step)
      refine wv (v_moveC (.inr rfl)) ?_
      simp only [Act.put, pA, pB, pC]
      go_wp2
      go_loopw [6] (fun i wr => ∃ K : Nat, K ≤ 51 ∧ i = .int .i64 K ∧ Env w [⟨g2, 22, ints .u8 (digs 256 32 (N % 2 ^ (51 * I + K)))⟩, ⟨g1, 22, ints .u8 (List.replicate 32 0)⟩, ⟨g0, 41, ints .u64 l⟩] wr) (fun i _ => 51 - (intOf i).toNat)
      case atStart => exact ⟨0, Nat.zero_le _, rfl, hE0⟩
      case round =>
        clear hE0
        obtain ⟨K, hK, rfl, hE0⟩ := hrel
        by_cases hK5 : K < 51
        · have Hb := Lib.hid (Hbit.out K hK5)
          have hp : 51 * I + K < 256 := by omega
          have hbl := Hblen.out (51 * I + K)
          have Hold := Lib.hid (byte_old (N := N) hp)
          have Hstep := Lib.hid (bytes_step (N := N) hp)
          have hbit := bitF_le N (51 * I + K)
          have hfit := bit_fits N (51 * I + K)
          have hlow := byte_low N (51 * I + K)
          have hsp : 2 ^ ((51 * I + K) % 8) ≤ 2 ^ IntKind.u8.bits := Nat.pow_le_pow_right (by decide) (by simp only [IntKind.bits]; omega)
          have hshift : x / 2 ^ K < 2 ^ IntKind.u64.bits := by
            have := Nat.div_le_self x (2 ^ K)
            simp only [IntKind.bits]
            omega
          have hm2 : x / 2 ^ K % 2 < 256 := by omega
          have h9 : (51 * I + K) % 8 ≤ IntKind.u8.bits := by simp only [IntKind.bits]; omega
          repeat ((fail_if_success with_reducible show wA ..); (fail_if_success with_reducible show wB ..); go_step)
          refine wv (v_moveT (.inl rfl) rfl) ?_
          simp only [Act.put, pA, pB, pC]
          refine wv (v_lss (n := 51) rfl rfl rfl) ?_
          simp only [Act.put, pA, pB, pC]
          repeat ((fail_if_success with_reducible show wA ..); (fail_if_success with_reducible show wB ..); go_step)
          refine wv (v_moveT (.inl rfl) rfl) ?_
          simp only [Act.put, pA, pB, pC]
          refine wv (v_mul (m := 51) rfl rfl rfl (w_i64 (by omega))) ?_
          simp only [Act.put, pA, pB, pC]
          refine wv (v_moveT (.inl rfl) rfl) ?_
          simp only [Act.put, pA, pB, pC]
          refine wv (v_add rfl rfl rfl (w_i64 (by omega))) ?_
          simp only [Act.put, pA, pB, pC]
          refine wv (v_moveT (.inr rfl) rfl) ?_
          simp only [Act.put, pA, pB, pC]
          repeat ((fail_if_success with_reducible show wA ..); (fail_if_success with_reducible show wB ..); go_step)
          refine wp_region_B (n := 15) 14 (by kernel_rfl) rfl hE0 ?_
          intro w1 hb1 hE1
          clear hE0
          refine wpB_take (i := 0) (by kernel_rfl) rfl (by kernel_rfl) (fun _ _ _ h => h) rfl (v_moveT (.inl rfl) rfl) ?_
          simp only [Act.put, pA, pB, pC]
          refine wpB_take (i := 1) (by kernel_rfl) rfl (by kernel_rfl) (fun _ _ _ h => h) rfl (v_quo (n := 8) rfl rfl rfl (by omega) (w_i64 (by omega))) ?_
          simp only [Act.put, pA, pB, pC]
          refine wpB_take (i := 2) (by kernel_rfl) rfl (by kernel_rfl) (fun _ _ _ h => h) rfl (v_indexA0 rfl rfl rfl Try.underlying22 (by kernel_rfl) (by first | assumption | omega)) ?_
          simp only [Act.put, pA, pB, pC]
          refine wpB_take (i := 3) (by kernel_rfl) rfl (by kernel_rfl) (fun _ _ _ h => h) rfl (v_cell rfl rfl Try.underlying5 rfl (Env.cellv (i := 0) hE1 rfl (ints_get? _ _ _ (by first | assumption | omega | (simp; done) | (simp; omega))))) ?_
          simp only [Act.put, pA, pB, pC]
          rw [Hold.out]
          refine wpB_take (i := 4) (by kernel_rfl) rfl (by kernel_rfl) (fun _ _ _ h => h) rfl (v_moveT (.inl rfl) rfl) ?_
          simp only [Act.put, pA, pB, pC]
          refine wpB_take (i := 5) (by kernel_rfl) rfl (by kernel_rfl) (fun _ _ _ h => h) rfl (v_moveT (.inl rfl) rfl) ?_
          simp only [Act.put, pA, pB, pC]
          refine wpB_take (i := 6) (by kernel_rfl) rfl (by kernel_rfl) (fun _ _ _ h => h) rfl (v_shr rfl rfl rfl (by simp only [IntKind.bits]; omega)) ?_
          simp only [Act.put, pA, pB, pC]
          refine wpB_take (i := 7) (by kernel_rfl) rfl (by kernel_rfl) (fun _ _ _ h => h) rfl (v_mask (c := 1) (s := 1) (d := 2) rfl rfl rfl (by decide) (by decide) rfl hshift (by decide)) ?_
          simp only [Act.put, pA, pB, pC]
          refine wpB_take (i := 8) (by kernel_rfl) rfl (by kernel_rfl) (fun _ _ _ h => h) rfl (v_convInt rfl rfl Try.underlying38 Try.underlying5 (by first | exact w_u8 (by omega) | exact w_u8m _)) ?_
          simp only [Act.put, pA, pB, pC]
          rw [Hb.out]
          refine wpB_take (i := 9) (by kernel_rfl) rfl (by kernel_rfl) (fun _ _ _ h => h) rfl (v_moveT (.inl rfl) rfl) ?_
          simp only [Act.put, pA, pB, pC]
          refine wpB_take (i := 10) (by kernel_rfl) rfl (by kernel_rfl) (fun _ _ _ h => h) rfl (v_rem (n := 8) rfl rfl rfl (by omega)) ?_
          simp only [Act.put, pA, pB, pC]
          refine wpB_take (i := 11) (by kernel_rfl) rfl (by kernel_rfl) (fun _ _ _ h => h) rfl (v_shl rfl rfl rfl h9 (w_u8 hfit)) ?_
          simp only [Act.put, pA, pB, pC]
          refine wpB_take (i := 12) (by kernel_rfl) rfl (by kernel_rfl) (fun _ _ _ h => h) rfl (v_orShift rfl rfl rfl rfl hlow hsp hfit) ?_
          simp only [Act.put, pA, pB, pC]
          refine wpB_take (i := 13) (by kernel_rfl) rfl (by kernel_rfl) (fun _ _ _ h => h) rfl (v_indexA0 rfl rfl rfl Try.underlying22 (by kernel_rfl) (by first | assumption | omega)) ?_
          simp only [Act.put, pA, pB, pC]
          refine wpB_step (i := 14) (by kernel_rfl) rfl (st_putN (i := 0) hE1 rfl rfl rfl rfl rfl (by kernel_rfl) (by first | assumption | omega | (simp only [List.length_set, List.length_replicate]; first | assumption | omega)) ?_)
          intro w2 hE2
          clear hE1
          simp only [pB, pC] at hE2
          refine ⟨fun h => absurd h (by decide), ?_⟩
          simp only [Act.put, pA, pB, pC]
          refine wpB_done (by kernel_rfl) ?_ _
          rw [Hstep.out] at hE2
          repeat ((fail_if_success with_reducible show wA ..); (fail_if_success with_reducible show wB ..); go_step)
          refine wv (v_moveT (.inl rfl) rfl) ?_
          simp only [Act.put, pA, pB, pC]
          refine wv (v_add (n := 1) rfl rfl rfl (w_i64 (by omega))) ?_
          simp only [Act.put, pA, pB, pC]
          refine wv (v_moveT (.inr rfl) rfl) ?_
          simp only [Act.put, pA, pB, pC]
          go_wp2
          go_roundw
          case rel => exact ⟨K + 1, by omega, rfl, hE2⟩
          case measure => simp [intOf]; omega
        · have hK' : K = 51 := by omega
          subst hK'
          repeat ((fail_if_success with_reducible show wA ..); (fail_if_success with_reducible show wB ..); go_step)
          refine wv (v_moveT (.inl rfl) rfl) ?_
          simp only [Act.put, pA, pB, pC]
          refine wv (v_lss (n := 51) rfl rfl rfl) ?_
          simp only [Act.put, pA, pB, pC]
          repeat ((fail_if_success with_reducible show wA ..); (fail_if_success with_reducible show wB ..); go_step)
          refine wv (v_add (n := 1) rfl rfl rfl (w_i64 (by omega))) ?_
          simp only [Act.put, pA, pB, pC]
          refine wv (v_moveT (.inl rfl) rfl) ?_
          simp only [Act.put, pA, pB, pC]
          go_wp2
          go_roundw
          case rel => exact ⟨I + 1, by omega, rfl, by rw [show 51 * (I + 1) = 51 * I + 51 by omega]; exact hE0⟩
          case measure => simp [intOf]; omega
    · have hI' : I = 5 := by omega
      subst hI'
      have hE1 : Env w [⟨g2, 22, ints .u8 (digs 256 32 N)⟩, ⟨g1, 22, ints .u8 (List.replicate 32 0)⟩, ⟨g0, 41, ints .u64 l⟩] wr := by rw [← Hfin.out]; exact hE0
      have hbl : (digs 256 32 N).length = 32 := digs_length _ _ _
      clear hE0
      repeat ((fail_if_success with_reducible show wA ..); (fail_if_success with_reducible show wB ..); go_step)
      refine wv (v_lss (n := 5) rfl rfl rfl) ?_
      simp only [Act.put, pA, pB, pC]
      repeat ((fail_if_success with_reducible show wA ..); (fail_if_success with_reducible show wB ..); go_step)
      refine wv (v_load (i := 0) hE1 rfl rfl rfl Try.underlying22 rfl (szA (n := 32))) ?_
      simp only [Act.put, pA, pB, pC]
      refine wl_step (st_store (i := 1) hE1 rfl rfl rfl rfl rfl (szA (n := 32)) (by first | (simp only [ints_size, digs_length, List.length_replicate, List.length_cons, List.length_nil]; done) | (simp only [ints_size, digs_length, List.length_replicate, List.length_cons, List.length_nil, List.length_set, List.length_append]; omega) | rfl) (by first | exact ints_one _ _ | decide | simp [*]) ?_)
      intro w2 hE2
      clear hE1
      simp only [pB, pC] at hE2
      simp only [Act.put, pA, pB, pC]
      repeat ((fail_if_success with_reducible show wA ..); (fail_if_success with_reducible show wB ..); go_step)
      refine bodyPost_ret (results_cell_row rfl _ _ _ _ _ (0, 0) _ rfl (hE2.get (i := 1) rfl) Try.underlying22 rfl (szA (n := 32))) rfl ⟨rfl, hE2.below⟩
end Go.Proofs.Ythddoelflmoedaa
namespace Go.Proofs.Ythddoelflmoedaa
open Go.RowKit
set_option maxRecDepth 100000
set_option linter.unusedVariables false
set_option linter.unusedSimpArgs false

section
variable {a : Act} {w : World} {o : Oper}
theorem v_eqElem {t' : TypeId} {x y : Operand} {l m : List Nat} (ho : o.op = .binOp .eql 41 x y t') (hx : a.eval x = .agg (ints .u64 l)) (hy : a.eval y = .agg (ints .u64 m)) (hl : l.length = 5) (hm : m.length = 5) : Val Try.prog o a (.bool (decide (l = m))) w :=
  v_eqAgg ho hx hy (Try.eqGuardType41) fun w => run_equalIn_one 9997 (u := 39) (f := ⟨_, 39, 0, _, _, _, _⟩) Try.underlying41 rfl (by kernel_rfl) (by decide) rfl rfl Try.underlying39 Try.underlying38 Try.isAgg39 Try.sizeOf39 Try.sizeOf38 hl hm w
theorem v_eq32 {t' : TypeId} {x y : Operand} {l m : List Nat} (ho : o.op = .binOp .eql 22 x y t') (hx : a.eval x = .agg (ints .u8 l)) (hy : a.eval y = .agg (ints .u8 m)) (hl : l.length = 32) (hm : m.length = 32) : Val Try.prog o a (.bool (decide (l = m))) w :=
  v_eqInts ho hx hy Try.eqGuardType22 Try.underlying22 Try.underlying5 Try.sizeOf5 hl hm
theorem v_eq32s {t' : TypeId} {x y : Operand} {l : List Nat} (ho : o.op = .binOp .eql 22 x y t') (hx : a.eval x = .agg (ints .u8 l)) (hy : a.eval y = .agg (ints .u8 l)) (hl : l.length = 32) : Val Try.prog o a (.bool true) w :=
  v_eqIntsS ho hx hy Try.eqGuardType22 Try.underlying22 Try.underlying5 Try.sizeOf5 hl
end

theorem digs_eq {m n : Nat} (hm : m < pN) (hn : n < pN) : decide (digs 2251799813685248 5 m = digs 2251799813685248 5 n) = decide (m = n) := by
  apply decide_eq_decide.2
  refine ⟨fun h => ?_, fun h => by rw [h]⟩
  have := congrArg (val 2251799813685248) h
  rw [val_digs, val_digs, Nat.mod_eq_of_lt (Nat.lt_trans hm (by decide)), Nat.mod_eq_of_lt (Nat.lt_trans hn (by decide))] at this
  exact this
theorem mod_p (n : Nat) : n % pN < pN := Nat.mod_lt _ (by decide)

set_option maxHeartbeats 1000000 in
theorem Odd_any {l : List Nat} (hl : Fe l) (w : World) : Gives 32 #[elem l] w (.bool (decide (fval l % pN % 2 = 1))) := by
  have hleast := Lib.hid (fun w => least_any hl w)
  have hl5 := hl.1
  obtain ⟨N, hNe⟩ : ∃ N, N = fval l % pN := ⟨_, rfl⟩
  rw [← hNe] at hleast ⊢
  have hlim : (digs 2251799813685248 5 N).length = 5 := digs_length _ _ _
  have Hx := Lib.hid (digs_getD 2251799813685248 5 N 0 (by decide))
  have hx64 : N / 2251799813685248 ^ 0 % 2251799813685248 < 18446744073709551616 := Nat.lt_trans (Nat.mod_lt _ (by decide)) (by decide)
  have hm : N / 2251799813685248 ^ 0 % 2251799813685248 % 2 = N % 2 := by
    rw [Nat.pow_zero, Nat.div_one]
    exact Nat.mod_mod_of_dvd _ (by decide)
  have Hm := Lib.hid hm
  clear hl hNe hm
  have hE0 := Env.nil w
  go_enter Try.func32, Try.ntmps32
  repeat ((fail_if_success with_reducible show wA ..); (fail_if_success with_reducible show wB ..); go_step)
  refine wl_step (st_boxA hE0 rfl rfl rfl ?_)
  intro g0 w1 hb1 hE1
  clear hE0
  simp only [Act.put, pA, pB, pC]
  refine wv (v_moveC (.inr rfl)) ?_
  simp only [Act.put, pA, pB, pC]
  repeat ((fail_if_success with_reducible show wA ..); (fail_if_success with_reducible show wB ..); go_step)
  refine wv (v_load (i := 0) hE1 rfl rfl rfl Try.underlying41 rfl (szA (n := 5))) ?_
  simp only [Act.put, pA, pB, pC]
  refine wl_step (st_gives hE1 rfl (run_call rfl Try.call60) (hleast.out _) ?_)
  intro w2 hb2 hE2
  clear hE1
  simp only [Act.put, pA, pB, pC]
  refine wv (v_fieldW (n := 5) rfl rfl Try.underlying41 rfl rfl (Try.isAgg39) (by kernel_rfl) (by first | assumption | rfl)) ?_
  simp only [Act.put, pA, pB, pC]
  refine wv (v_idx (j := 0) rfl rfl rfl Try.underlying39 (by kernel_rfl : _ = some Try.t38) rfl Try.underlying38 (by first | assumption | simp) (by first | assumption | omega)) ?_
  simp only [Act.put, pA, pB, pC]
  rw [Hx.out]
  refine wv (v_mask (c := 1) (s := 1) (d := 2) rfl rfl rfl (by decide) (by decide) rfl (by simp only [IntKind.bits]; omega) (by decide)) ?_
  simp only [Act.put, pA, pB, pC]
  rw [Hm.out]
  refine wv (v_eql (n := 1) rfl rfl rfl) ?_
  simp only [Act.put, pA, pB, pC]
  refine wv (v_moveT (.inr rfl) rfl) ?_
  simp only [Act.put, pA, pB, pC]
  repeat ((fail_if_success with_reducible show wA ..); (fail_if_success with_reducible show wB ..); go_step)
  go_returns
  exact ⟨rfl, hE2.below⟩
set_option maxHeartbeats 1000000 in
theorem Zero_any {l : List Nat} (hl : Fe l) (w : World) : Gives 45 #[elem l] w (.bool (decide (fval l % pN = 0))) := by
  have hleast := Lib.hid (fun w => least_any hl w)
  have hl5 := hl.1
  have he := digs_eq (mod_p (fval l)) (show 0 < pN by decide)
  rw [show digs 2251799813685248 5 0 = List.replicate 5 0 by decide] at he
  have He := Lib.hid he
  have hdl : (digs 2251799813685248 5 (fval l % pN)).length = 5 := digs_length _ _ _
  clear hl he
  have hE0 := Env.nil w
  go_enter Try.func45, Try.ntmps45
  repeat ((fail_if_success with_reducible show wA ..); (fail_if_success with_reducible show wB ..); go_step)
  refine wl_step (st_boxA hE0 rfl rfl rfl ?_)
  intro g0 w1 hb1 hE1
  clear hE0
  simp only [Act.put, pA, pB, pC]
  refine wv (v_moveC (.inr rfl)) ?_
  simp only [Act.put, pA, pB, pC]
  repeat ((fail_if_success with_reducible show wA ..); (fail_if_success with_reducible show wB ..); go_step)
  refine wv (v_load (i := 0) hE1 rfl rfl rfl Try.underlying41 rfl (szA (n := 5))) ?_
  simp only [Act.put, pA, pB, pC]
  refine wl_step (st_gives hE1 rfl (run_call rfl Try.call60) (hleast.out _) ?_)
  intro w2 hb2 hE2
  clear hE1
  simp only [Act.put, pA, pB, pC]
  refine wv (v_built (k := .u64) (l := List.replicate 5 0) rfl (fun w => by kernel_rfl)) ?_
  simp only [Act.put, pA, pB, pC]
  refine wv (v_eqElem rfl rfl rfl hdl rfl) ?_
  simp only [Act.put, pA, pB, pC]
  rw [He.out]
  refine wv (v_moveT (.inr rfl) rfl) ?_
  simp only [Act.put, pA, pB, pC]
  repeat ((fail_if_success with_reducible show wA ..); (fail_if_success with_reducible show wB ..); go_step)
  go_returns
  exact ⟨rfl, hE2.below⟩
set_option maxHeartbeats 1000000 in
theorem Same_any {l m : List Nat} (hl : Fe l) (hm : Fe m) (w : World) : Gives 66 #[elem l, elem m] w (.bool (decide (fval l % pN = fval m % pN))) := by
  have hA := Lib.hid (fun w => least_any hl w)
  have hB := Lib.hid (fun w => least_any hm w)
  have hl5 := hl.1
  have hm5 := hm.1
  have He := Lib.hid (digs_eq (mod_p (fval l)) (mod_p (fval m)))
  have hdl : (digs 2251799813685248 5 (fval l % pN)).length = 5 := digs_length _ _ _
  have hdm : (digs 2251799813685248 5 (fval m % pN)).length = 5 := digs_length _ _ _
  clear hl hm
  have hE0 := Env.nil w
  go_enter Try.func66, Try.ntmps66
  repeat ((fail_if_success with_reducible show wA ..); (fail_if_success with_reducible show wB ..); go_step)
  refine wl_step (st_boxA hE0 rfl rfl rfl ?_)
  intro g0 w1 hb1 hE1
  clear hE0
  simp only [Act.put, pA, pB, pC]
  refine wl_step (st_boxA hE1 rfl rfl rfl ?_)
  intro g1 w2 hb2 hE2
  clear hE1
  simp only [Act.put, pA, pB, pC]
  refine wv (v_moveC (.inr rfl)) ?_
  simp only [Act.put, pA, pB, pC]
  repeat ((fail_if_success with_reducible show wA ..); (fail_if_success with_reducible show wB ..); go_step)
  refine wp_region_B (n := 6) 5 (by kernel_rfl) rfl hE2 ?_
  intro w3 hb3 hE3
  clear hE2
  refine wpB_take (i := 0) (by kernel_rfl) rfl (by kernel_rfl) (fun _ _ _ h => h) rfl (v_load (i := 1) hE3 rfl rfl rfl Try.underlying41 rfl (szA (n := 5))) ?_
  simp only [Act.put, pA, pB, pC]
  refine wpB_take (i := 2) (by kernel_rfl) rfl (by kernel_rfl) (fun _ _ _ h => h) rfl (v_load (i := 0) hE3 rfl rfl rfl Try.underlying41 rfl (szA (n := 5))) ?_
  simp only [Act.put, pA, pB, pC]
  refine wpB_step (i := 1) (by kernel_rfl) rfl (st_gives hE3 rfl (run_call rfl Try.call60) (hA.out _) ?_)
  intro w4 hb4 hE4
  clear hE3
  refine ⟨fun _ => hb4, ?_⟩
  simp only [Act.put, pA, pB, pC]
  refine wpB_step (i := 3) (by kernel_rfl) rfl (st_gives hE4 rfl (run_call rfl Try.call60) (hB.out _) ?_)
  intro w5 hb5 hE5
  clear hE4
  refine ⟨fun _ => hb5, ?_⟩
  simp only [Act.put, pA, pB, pC]
  refine wpB_take (i := 4) (by kernel_rfl) rfl (by kernel_rfl) (fun _ _ _ h => h) rfl (v_eqElem rfl rfl rfl hdl hdm) ?_
  simp only [Act.put, pA, pB, pC]
  rw [He.out]
  refine wpB_step (i := 5) (by kernel_rfl) rfl (st_val rfl (v_moveT (.inr rfl) rfl) ?_)
  refine ⟨fun _ => Below.refl _ _, ?_⟩
  simp only [Act.put, pA, pB, pC]
  refine wpB_done (by kernel_rfl) ?_ _
  repeat ((fail_if_success with_reducible show wA ..); (fail_if_success with_reducible show wB ..); go_step)
  go_returns
  exact ⟨rfl, hE5.below⟩

theorem canon_key {b : List Nat} (hb : b.length = 32) (db : Digs 256 b) (h : b.getD 31 0 < 128) : val 256 b < 57896044618658097711785492504343953926634992332820282019728792003956564819968 := by
  have h1 := val_div_mod db (by decide) 31
  have h2 := val_lt db
  rw [hb] at h2
  rw [← h1] at h
  have e : (256 : Nat) ^ 32 = 256 ^ 31 * 256 := rfl
  have h3 : val 256 b / 256 ^ 31 < 256 := by
    rw [Nat.div_lt_iff_lt_mul (Nat.pow_pos (by decide)), Nat.mul_comm]
    exact h2
  rw [Nat.mod_eq_of_lt h3, Nat.div_lt_iff_lt_mul (Nat.pow_pos (by decide))] at h
  exact h
theorem canon_key' {b : List Nat} (hb : b.length = 32) (db : Digs 256 b) (h : ¬ b.getD 31 0 < 128) : ¬ val 256 b < pN := by
  have h1 := val_div_mod db (by decide) 31
  rw [← h1] at h
  intro hlt
  apply h
  refine Nat.lt_of_le_of_lt (Nat.mod_le _ _) ?_
  rw [Nat.div_lt_iff_lt_mul (Nat.pow_pos (by decide))]
  exact Nat.lt_trans hlt (by decide)

set_option maxHeartbeats 1000000 in
theorem Canonical_any {b : List Nat} (hb : b.length = 32) (db : Digs 256 b) (w : World) : Gives 39 #[.agg (ints .u8 b)] w (.bool (decide (val 256 b < pN))) := by
  have HO := Lib.hid (fun w => Of_any b hb db w)
  have HB := Lib.hid (fun w => Bytes_any (digs_Fe (val 256 b)) w)
  by_cases h : b.getD 31 0 < 128
  · have hv := canon_key hb db h
    have hf : fval (digs 2251799813685248 5 (val 256 b)) = val 256 b := by rw [digs_fval, Nat.mod_eq_of_lt hv]
    rw [hf] at HB
    have he : decide (digs 256 32 (val 256 b % pN) = b) = decide (val 256 b < pN) := by
      apply decide_eq_decide.2
      constructor
      · intro h
        have h2 := congrArg (val 256) h
        rw [val_digs, Nat.mod_eq_of_lt (Nat.lt_trans (mod_p _) (by decide))] at h2
        rw [← h2]
        exact mod_p _
      · intro h
        rw [Nat.mod_eq_of_lt h, digs_val' db hb]
    have He := Lib.hid he
    have hdl : (digs 256 32 (val 256 b % pN)).length = 32 := digs_length _ _ _
    have hd := Lib.hid (decide_eq_true h)
    clear hv hf he db
    have hE0 := Env.nil w
    go_enter Try.func39, Try.ntmps39
    repeat ((fail_if_success with_reducible show wA ..); (fail_if_success with_reducible show wB ..); go_step)
    refine wl_step (st_boxA hE0 rfl rfl rfl ?_)
    intro g0 w1 hb1 hE1
    clear hE0
    simp only [Act.put, pA, pB, pC]
    refine wv (v_moveC (.inr rfl)) ?_
    simp only [Act.put, pA, pB, pC]
    repeat ((fail_if_success with_reducible show wA ..); (fail_if_success with_reducible show wB ..); go_step)
    refine wp_region_B (n := 11) 10 (by kernel_rfl) rfl hE1 ?_
    intro w2 hb2 hE2
    clear hE1
    refine wpB_take (i := 0) (by kernel_rfl) rfl (by kernel_rfl) (fun _ _ _ h => h) rfl (v_indexA0 (j := 31) rfl rfl rfl Try.underlying22 (by kernel_rfl) (by first | assumption | omega)) ?_
    simp only [Act.put, pA, pB, pC]
    refine wpB_take (i := 1) (by kernel_rfl) rfl (by kernel_rfl) (fun _ _ _ h => h) rfl (v_cell rfl rfl Try.underlying5 rfl (Env.cellv (i := 0) hE2 rfl (ints_get? _ _ _ (by first | assumption | omega | (simp; done) | (simp; omega))))) ?_
    simp only [Act.put, pA, pB, pC]
    refine wpB_take (i := 2) (by kernel_rfl) rfl (by kernel_rfl) (fun _ _ _ h => h) rfl (v_lss (n := 128) rfl rfl rfl) ?_
    simp only [Act.put, pA, pB, pC]
    rw [hd.out]
    refine wpB_take (i := 3) (by kernel_rfl) rfl (by kernel_rfl) (fun _ _ _ h => h) rfl (v_moveT (.inl rfl) rfl) ?_
    simp only [Act.put, pA, pB, pC]
    refine wpB_take (i := 4) (by kernel_rfl) rfl (by kernel_rfl) (fun _ _ _ h => h) rfl (v_load (i := 0) hE2 rfl rfl rfl Try.underlying22 rfl (szA (n := 32))) ?_
    simp only [Act.put, pA, pB, pC]
    refine wpB_take (i := 7) (by kernel_rfl) rfl (by kernel_rfl) (fun _ _ _ h => h) rfl (v_load (i := 0) hE2 rfl rfl rfl Try.underlying22 rfl (szA (n := 32))) ?_
    simp only [Act.put, pA, pB, pC]
    refine wpB_step (i := 5) (by kernel_rfl) rfl (st_gives hE2 rfl (run_call rfl Try.call24) (HO.out _) ?_)
    intro w3 hb3 hE3
    clear hE2
    refine ⟨fun _ => hb3, ?_⟩
    simp only [Act.put, pA, pB, pC]
    refine wpB_step (i := 6) (by kernel_rfl) rfl (st_gives hE3 rfl (run_call rfl Try.call31) (HB.out _) ?_)
    intro w4 hb4 hE4
    clear hE3
    refine ⟨fun _ => hb4, ?_⟩
    simp only [Act.put, pA, pB, pC]
    refine wpB_take (i := 8) (by kernel_rfl) rfl (by kernel_rfl) (fun _ _ _ h => h) rfl (v_eq32 rfl rfl rfl hdl hb) ?_
    simp only [Act.put, pA, pB, pC]
    rw [He.out]
    refine wpB_take (i := 9) (by kernel_rfl) rfl (by kernel_rfl) (fun _ _ _ h => h) rfl (v_and rfl rfl (fun _ => rfl)) ?_
    simp only [Act.put, pA, pB, pC]
    refine wpB_step (i := 10) (by kernel_rfl) rfl (st_val rfl (v_moveT (.inr rfl) rfl) ?_)
    refine ⟨fun _ => Below.refl _ _, ?_⟩
    simp only [Act.put, pA, pB, pC]
    refine wpB_done (by kernel_rfl) ?_ _
    repeat ((fail_if_success with_reducible show wA ..); (fail_if_success with_reducible show wB ..); go_step)
    go_returns
    exact ⟨by rw [Bool.true_and]; rfl, hE4.below⟩
  · have hv := decide_eq_false (canon_key' hb db h)
    rw [hv]
    have hd := Lib.hid (decide_eq_false h)
    have Hv := Lib.hid hv
    clear hv db
    have hE0 := Env.nil w
    go_enter Try.func39, Try.ntmps39
    repeat ((fail_if_success with_reducible show wA ..); (fail_if_success with_reducible show wB ..); go_step)
    refine wl_step (st_boxA hE0 rfl rfl rfl ?_)
    intro g0 w1 hb1 hE1
    clear hE0
    simp only [Act.put, pA, pB, pC]
    refine wv (v_moveC (.inr rfl)) ?_
    simp only [Act.put, pA, pB, pC]
    repeat ((fail_if_success with_reducible show wA ..); (fail_if_success with_reducible show wB ..); go_step)
    refine wp_region_B (n := 11) 10 (by kernel_rfl) rfl hE1 ?_
    intro w2 hb2 hE2
    clear hE1
    refine wpB_take (i := 0) (by kernel_rfl) rfl (by kernel_rfl) (fun _ _ _ h => h) rfl (v_indexA0 (j := 31) rfl rfl rfl Try.underlying22 (by kernel_rfl) (by first | assumption | omega)) ?_
    simp only [Act.put, pA, pB, pC]
    refine wpB_take (i := 1) (by kernel_rfl) rfl (by kernel_rfl) (fun _ _ _ h => h) rfl (v_cell rfl rfl Try.underlying5 rfl (Env.cellv (i := 0) hE2 rfl (ints_get? _ _ _ (by first | assumption | omega | (simp; done) | (simp; omega))))) ?_
    simp only [Act.put, pA, pB, pC]
    refine wpB_take (i := 2) (by kernel_rfl) rfl (by kernel_rfl) (fun _ _ _ h => h) rfl (v_lss (n := 128) rfl rfl rfl) ?_
    simp only [Act.put, pA, pB, pC]
    rw [hd.out]
    refine wpB_take (i := 3) (by kernel_rfl) rfl (by kernel_rfl) (fun _ _ _ h => h) rfl (v_moveT (.inl rfl) rfl) ?_
    simp only [Act.put, pA, pB, pC]
    refine wpB_pass (i := 4) (by kernel_rfl) rfl (by kernel_rfl) (fun _ _ _ h => h) rfl ?_
    simp only [Act.put, pA, pB, pC]
    refine wpB_pass (i := 5) (by kernel_rfl) rfl (by kernel_rfl) (fun _ _ _ h => h) rfl ?_
    simp only [Act.put, pA, pB, pC]
    refine wpB_pass (i := 6) (by kernel_rfl) rfl (by kernel_rfl) (fun _ _ _ h => h) rfl ?_
    simp only [Act.put, pA, pB, pC]
    refine wpB_pass (i := 7) (by kernel_rfl) rfl (by kernel_rfl) (fun _ _ _ h => h) rfl ?_
    simp only [Act.put, pA, pB, pC]
    refine wpB_pass (i := 8) (by kernel_rfl) rfl (by kernel_rfl) (fun _ _ _ h => h) rfl ?_
    simp only [Act.put, pA, pB, pC]
    refine wpB_take (i := 9) (by kernel_rfl) rfl (by kernel_rfl) (fun _ _ _ h => h) rfl (v_andF rfl rfl) ?_
    simp only [Act.put, pA, pB, pC]
    refine wpB_step (i := 10) (by kernel_rfl) rfl (st_val rfl (v_moveT (.inr rfl) rfl) ?_)
    refine ⟨fun _ => Below.refl _ _, ?_⟩
    simp only [Act.put, pA, pB, pC]
    refine wpB_done (by kernel_rfl) ?_ _
    repeat ((fail_if_success with_reducible show wA ..); (fail_if_success with_reducible show wB ..); go_step)
    go_returns
    exact ⟨rfl, hE2.below⟩
end Go.Proofs.Ythddoelflmoedaa
namespace Go.Proofs.Ythddoelflmoedaa
open Go.RowKit
set_option maxRecDepth 100000
set_option linter.unusedVariables false
set_option linter.unusedSimpArgs false

/-- What bits tell, from the highest one on. -/
def bitsVal (bit : Nat → Bool) : Nat → Nat
  | 0 => 0
  | k + 1 => 2 * bitsVal bit k + if bit (255 - k) then 1 else 0

/-- A value that tells bits when it is called. -/
def TellsBits (v : Value) (bit : Nat → Bool) (S : World → Prop) : Prop :=
  ∃ f fr cap, v = .func (.func f) fr cap ∧ (∀ (args : Array Value) (w : World), (callFunc f args).run Try.prog w = .ok (.enter f args) w) ∧
    ∀ i w, i < 256 → S w → Gives f (fr ++ #[.int .i64 (i : Int)] ++ cap) w (.bool (bit i))

theorem run_callValue {P : Program} {o : Oper} {a : Act} {w : World} {x : Operand} {L : List Operand} {ts : Array TypeId} {f : FuncId} {fr cap : Array Value} (ho : o.op = .call { callee := .value x, args := L.toArray, argTypes := ts }) (hx : a.eval x = .func (.func f) fr cap)
    (hc : ∀ (args : Array Value) (w : World), (callFunc f args).run P w = .ok (.enter f args) w) : (execOp a.eval o).run P w = .ok (.enter f (fr ++ (L.map a.eval).toArray ++ cap)) w := by
  unfold execOp
  simp only [ho, resolve, hx, Deferred.ofValue, Sem.run_bind, Sem.run_pure, Result.andThen_ok, invoke]
  simp [hc, Sem.run_pure]

theorem Mul_fun : ∃ mulF : List Nat → List Nat → List Nat, ∀ l m, Fe l → Fe m → Fe (mulF l m) ∧ fval (mulF l m) % pN = fval l * fval m % pN ∧ ∀ w, Gives 30 #[elem l, elem m] w (elem (mulF l m)) := by
  exact ⟨fun l m => Classical.epsilon fun c => Fe c ∧ fval c % pN = fval l * fval m % pN ∧ ∀ w, Gives 30 #[elem l, elem m] w (elem c), fun l m hl hm => Classical.epsilon_spec (Mul_any hl hm)⟩

/-- The power's limbs, round by round. -/
def powL (mulF : List Nat → List Nat → List Nat) (l : List Nat) (bit : Nat → Bool) : Nat → List Nat
  | 0 => [1, 0, 0, 0, 0]
  | k + 1 => if bit (255 - k) then mulF (mulF (powL mulF l bit k) (powL mulF l bit k)) l else mulF (powL mulF l bit k) (powL mulF l bit k)
theorem pow_mod_mul (a b c n : Nat) (h : a % n = b % n) : a * c % n = b * c % n := by rw [Nat.mul_mod, h, ← Nat.mul_mod]
theorem powL_ok {mulF : List Nat → List Nat → List Nat} (hmul : ∀ l m, Fe l → Fe m → Fe (mulF l m) ∧ fval (mulF l m) % pN = fval l * fval m % pN) {l : List Nat} (hl : Fe l) (bit : Nat → Bool) :
    ∀ k, Fe (powL mulF l bit k) ∧ fval (powL mulF l bit k) % pN = fval l ^ bitsVal bit k % pN
  | 0 => ⟨Fe.mk (by decide) (by decide) (by decide) (by decide) (by decide), by rw [powL, fval5, bitsVal, Nat.pow_zero]⟩
  | k + 1 => by
    obtain ⟨h1, h2⟩ := powL_ok hmul hl bit k
    obtain ⟨h3, h4⟩ := hmul _ _ h1 h1
    have h5 : fval (mulF (powL mulF l bit k) (powL mulF l bit k)) % pN = fval l ^ (2 * bitsVal bit k) % pN := by
      rw [h4, Nat.mul_mod, h2, ← Nat.mul_mod, ← Nat.pow_add, Nat.two_mul]
    obtain ⟨h6, h7⟩ := hmul _ _ h3 hl
    unfold powL bitsVal
    split
    · exact ⟨h6, by rw [h7, pow_mod_mul _ _ _ _ h5, Nat.pow_succ]⟩
    · exact ⟨h3, h5⟩

set_option maxRecDepth 100000 in
set_option maxHeartbeats 4000000 in
theorem power_walk {mulF : List Nat → List Nat → List Nat} (hmul : ∀ l m, Fe l → Fe m → Fe (mulF l m) ∧ fval (mulF l m) % pN = fval l * fval m % pN) (hgiv : ∀ l m, Fe l → Fe m → ∀ w, Gives 30 #[elem l, elem m] w (elem (mulF l m)))
    {l : List Nat} (hl : Fe l) {v : Value} {bit : Nat → Bool} {S : World → Prop} (hst : ∀ W w1 : World, Below W.heap.size W w1 → S W → S w1) (hv : TellsBits v bit S) (w : World) (hS : S w) :
    Gives 54 #[elem l, v] w (elem (powL mulF l bit 256)) := by
  obtain ⟨f, fr, cap, rfl, hcf, hbit⟩ := hv
  have hok := fun k => (powL_ok hmul hl bit k).1
  have hl5 := hl.1
  have Hl := Lib.hid hl
  have Hok := Lib.hid hok
  have Hmul := Lib.hid hmul
  have Hgiv := Lib.hid hgiv
  have Hcf := Lib.hid hcf
  have Hbit := Lib.hid hbit
  have Hst := Lib.hid hst
  have HS := Lib.hid hS
  have HSm := Lib.hid ((Small_any (n := 1) (by decide)).2.2)
  clear hl hok hmul hgiv hcf hbit hst hS
  have hE0 := Env.nil w
  go_enter Try.func54, Try.ntmps54
  repeat ((fail_if_success with_reducible show wA ..); (fail_if_success with_reducible show wB ..); go_step)
  refine wl_step (st_boxA hE0 rfl rfl rfl ?_)
  intro g0 w1 hb1 hE1
  clear hE0
  simp only [Act.put, pA, pB, pC]
  refine wl_step (st_alloc (zs := ints .u64 (List.replicate 5 0)) hE1 rfl rfl (fun w => by kernel_rfl) ?_)
  intro g1 w2 hb2 hE2
  clear hE1
  simp only [Act.put, pA, pB, pC]
  repeat ((fail_if_success with_reducible show wA ..); (fail_if_success with_reducible show wB ..); go_step)
  refine wl_step (st_gives hE2 rfl (run_call rfl Try.call40) (HSm.out _) ?_)
  intro w3 hb3 hE3
  clear hE2
  simp only [Act.put, pA, pB, pC]
  refine wl_step (st_alloc (zs := ints .u64 (List.replicate 5 0)) hE3 rfl rfl (fun w => by kernel_rfl) ?_)
  intro g2 w4 hb4 hE4
  clear hE3
  simp only [Act.put, pA, pB, pC]
  refine wl_step (st_store (i := 0) hE4 rfl rfl rfl rfl rfl (szA (n := 5)) (by first | (simp only [ints_size, digs_length, List.length_replicate, List.length_cons, List.length_nil]; done) | (simp only [ints_size, digs_length, List.length_replicate, List.length_cons, List.length_nil, List.length_set, List.length_append]; omega) | rfl) (by first | exact ints_one _ _ | decide | simp [*]) ?_)
  intro w5 hE5
  clear hE4
  simp only [pB, pC] at hE5
  simp only [Act.put, pA, pB, pC]
  repeat ((fail_if_success with_reducible show wA ..); (fail_if_success with_reducible show wB ..); go_step)
  refine wv (v_moveC (.inr rfl)) ?_
  simp only [Act.put, pA, pB, pC]
  go_wp2
  go_loopw [6] (fun i wr => ∃ K : Nat, K ≤ 256 ∧ i = .int .i64 ((K : Int) - 1) ∧ Env w [⟨g2, 41, ints .u64 (powL mulF l bit (256 - K))⟩, ⟨g1, 41, ints .u64 (List.replicate 5 0)⟩, ⟨g0, 41, ints .u64 l⟩] wr) (fun i _ => (intOf i + 1).toNat)
  case atStart => exact ⟨256, Nat.le_refl _, rfl, hE5⟩
  case round =>
    clear hE5
    obtain ⟨K, hK, rfl, hE0⟩ := hrel
    have hX : (powL mulF l bit (256 - K)).length = 5 := (Hok.out _).1
    cases K with
    | zero =>
      repeat ((fail_if_success with_reducible show wA ..); (fail_if_success with_reducible show wB ..); go_step)
      refine wv (v_moveT (.inl rfl) rfl) ?_
      simp only [Act.put, pA, pB, pC]
      refine wv (v_geqI rfl rfl rfl) ?_
      simp only [Act.put, pA, pB, pC]
      repeat ((fail_if_success with_reducible show wA ..); (fail_if_success with_reducible show wB ..); go_step)
      refine wv (v_load (i := 0) hE0 rfl rfl rfl Try.underlying41 rfl (szA (n := 5))) ?_
      simp only [Act.put, pA, pB, pC]
      refine wl_step (st_store (i := 1) hE0 rfl rfl rfl rfl rfl (szA (n := 5)) (by first | (simp only [ints_size, digs_length, List.length_replicate, List.length_cons, List.length_nil]; done) | (simp only [ints_size, digs_length, List.length_replicate, List.length_cons, List.length_nil, List.length_set, List.length_append]; omega) | rfl) (by first | exact ints_one _ _ | decide | simp [*]) ?_)
      intro w1 hE1
      clear hE0
      simp only [pB, pC] at hE1
      simp only [Act.put, pA, pB, pC]
      repeat ((fail_if_success with_reducible show wA ..); (fail_if_success with_reducible show wB ..); go_step)
      refine bodyPost_ret (results_cell_row rfl _ _ _ _ _ (0, 0) _ rfl (hE1.get (i := 1) rfl) Try.underlying41 rfl (szA (n := 5))) rfl ⟨rfl, hE1.below⟩
    | succ j =>
      have hj : ((j + 1 : Nat) : Int) - 1 = (j : Int) := by omega
      rw [hj]
      clear hj
      have hk1 : 256 - (j + 1) = 255 - j := by omega
      rw [hk1] at hE0 hX
      have hk2 : 256 - j = (255 - j) + 1 := by omega
      have hbj : 255 - (255 - j) = j := by omega
      have hnext : powL mulF l bit (256 - j) = if bit j then mulF (mulF (powL mulF l bit (255 - j)) (powL mulF l bit (255 - j))) l else mulF (powL mulF l bit (255 - j)) (powL mulF l bit (255 - j)) := by
        rw [hk2, powL, hbj]
      have hXF := Hok.out (255 - j)
      obtain ⟨X, hXe⟩ : ∃ X, X = powL mulF l bit (255 - j) := ⟨_, rfl⟩
      rw [← hXe] at hE0 hX hXF hnext
      have hM1 := (Hmul.out _ _ hXF hXF).1
      have hM2 := (Hmul.out _ _ hM1 Hl.out).1
      have Hg1 := Lib.hid (Hgiv.out _ _ hXF hXF)
      have Hg2 := Lib.hid (Hgiv.out _ _ hM1 Hl.out)
      have hl1 := hM1.1
      have hl2 := hM2.1
      obtain ⟨Y, hY⟩ : ∃ Y, Y = mulF X X := ⟨_, rfl⟩
      rw [← hY] at Hg1 Hg2 hl1 hl2 hnext
      obtain ⟨Z, hZ⟩ : ∃ Z, Z = mulF Y l := ⟨_, rfl⟩
      rw [← hZ] at Hg2 hl2 hnext
      have hb := fun w hw => Hbit.out j w (by omega) hw
      obtain ⟨bb, hbb⟩ : ∃ b, b = bit j := ⟨_, rfl⟩
      rw [← hbb] at hb hnext
      have Hb := Lib.hid hb
      have Hn := Lib.hid hnext
      clear hM1 hM2 hY hZ hbb hb hnext hXF hXe hk1 hk2 hbj
      cases bb
      · have Hn0 : Hid (powL mulF l bit (256 - j) = Y) := Lib.hid (by have := Hn.out; simpa using this)
        repeat ((fail_if_success with_reducible show wA ..); (fail_if_success with_reducible show wB ..); go_step)
        refine wv (v_moveT (.inl rfl) rfl) ?_
        simp only [Act.put, pA, pB, pC]
        refine wv (v_geqI rfl rfl rfl) ?_
        simp only [Act.put, pA, pB, pC]
        repeat ((fail_if_success with_reducible show wA ..); (fail_if_success with_reducible show wB ..); go_step)
        refine wv (v_load (i := 0) hE0 rfl rfl rfl Try.underlying41 rfl (szA (n := 5))) ?_
        simp only [Act.put, pA, pB, pC]
        refine wv (v_load (i := 0) hE0 rfl rfl rfl Try.underlying41 rfl (szA (n := 5))) ?_
        simp only [Act.put, pA, pB, pC]
        refine wl_step (st_gives hE0 rfl (run_call rfl Try.call30) (Hg1.out _) ?_)
        intro w1 hb1 hE1
        clear hE0
        simp only [Act.put, pA, pB, pC]
        refine wl_step (st_store (i := 0) hE1 rfl rfl rfl rfl rfl (szA (n := 5)) (by first | (simp only [ints_size, digs_length, List.length_replicate, List.length_cons, List.length_nil]; done) | (simp only [ints_size, digs_length, List.length_replicate, List.length_cons, List.length_nil, List.length_set, List.length_append]; omega) | rfl) (by first | exact ints_one _ _ | decide | simp [*]) ?_)
        intro w2 hE2
        clear hE1
        simp only [pB, pC] at hE2
        simp only [Act.put, pA, pB, pC]
        repeat ((fail_if_success with_reducible show wA ..); (fail_if_success with_reducible show wB ..); go_step)
        refine wv (v_moveT (.inl rfl) rfl) ?_
        simp only [Act.put, pA, pB, pC]
        refine wv (v_moveT (.inl rfl) rfl) ?_
        simp only [Act.put, pA, pB, pC]
        refine wl_step (st_gives hE2 rfl (run_callValue rfl rfl Hcf.out) (Hb.out _ (Hst.out _ _ hE2.below HS.out)) ?_)
        intro w3 hb3 hE3
        clear hE2
        simp only [Act.put, pA, pB, pC]
        repeat ((fail_if_success with_reducible show wA ..); (fail_if_success with_reducible show wB ..); (fail_if_success (with_reducible show Code.wp _ (Code.cond _ _ _) _ _ _)); go_step)
        refine wp_cond_false (by first | rfl | exact congrArg Value.bool (decide_eq_false (by omega))) ?_
        skip
        repeat ((fail_if_success with_reducible show wA ..); (fail_if_success with_reducible show wB ..); go_step)
        refine wv (v_moveT (.inl rfl) rfl) ?_
        simp only [Act.put, pA, pB, pC]
        refine wv (v_sub (n := 1) rfl rfl rfl (by first | exact w_i64s (by omega) (by omega) | exact w_i64I (by omega) (by omega))) ?_
        simp only [Act.put, pA, pB, pC]
        refine wv (v_moveT (.inr rfl) rfl) ?_
        simp only [Act.put, pA, pB, pC]
        go_wp2
        go_roundw
        case rel => exact ⟨j, by omega, rfl, by rw [Hn0.out]; exact hE3⟩
        case measure => simp [intOf]
      · have Hn0 : Hid (powL mulF l bit (256 - j) = Z) := Lib.hid (by have := Hn.out; simpa using this)
        repeat ((fail_if_success with_reducible show wA ..); (fail_if_success with_reducible show wB ..); go_step)
        refine wv (v_moveT (.inl rfl) rfl) ?_
        simp only [Act.put, pA, pB, pC]
        refine wv (v_geqI rfl rfl rfl) ?_
        simp only [Act.put, pA, pB, pC]
        repeat ((fail_if_success with_reducible show wA ..); (fail_if_success with_reducible show wB ..); go_step)
        refine wv (v_load (i := 0) hE0 rfl rfl rfl Try.underlying41 rfl (szA (n := 5))) ?_
        simp only [Act.put, pA, pB, pC]
        refine wv (v_load (i := 0) hE0 rfl rfl rfl Try.underlying41 rfl (szA (n := 5))) ?_
        simp only [Act.put, pA, pB, pC]
        refine wl_step (st_gives hE0 rfl (run_call rfl Try.call30) (Hg1.out _) ?_)
        intro w1 hb1 hE1
        clear hE0
        simp only [Act.put, pA, pB, pC]
        refine wl_step (st_store (i := 0) hE1 rfl rfl rfl rfl rfl (szA (n := 5)) (by first | (simp only [ints_size, digs_length, List.length_replicate, List.length_cons, List.length_nil]; done) | (simp only [ints_size, digs_length, List.length_replicate, List.length_cons, List.length_nil, List.length_set, List.length_append]; omega) | rfl) (by first | exact ints_one _ _ | decide | simp [*]) ?_)
        intro w2 hE2
        clear hE1
        simp only [pB, pC] at hE2
        simp only [Act.put, pA, pB, pC]
        repeat ((fail_if_success with_reducible show wA ..); (fail_if_success with_reducible show wB ..); go_step)
        refine wv (v_moveT (.inl rfl) rfl) ?_
        simp only [Act.put, pA, pB, pC]
        refine wv (v_moveT (.inl rfl) rfl) ?_
        simp only [Act.put, pA, pB, pC]
        refine wl_step (st_gives hE2 rfl (run_callValue rfl rfl Hcf.out) (Hb.out _ (Hst.out _ _ hE2.below HS.out)) ?_)
        intro w3 hb3 hE3
        clear hE2
        simp only [Act.put, pA, pB, pC]
        repeat ((fail_if_success with_reducible show wA ..); (fail_if_success with_reducible show wB ..); (fail_if_success (with_reducible show Code.wp _ (Code.cond _ _ _) _ _ _)); go_step)
        refine wp_cond_true (by first | rfl | exact congrArg Value.bool (decide_eq_true (by omega))) ?_
        skip
        repeat ((fail_if_success with_reducible show wA ..); (fail_if_success with_reducible show wB ..); go_step)
        refine wv (v_load (i := 0) hE3 rfl rfl rfl Try.underlying41 rfl (szA (n := 5))) ?_
        simp only [Act.put, pA, pB, pC]
        refine wv (v_load (i := 2) hE3 rfl rfl rfl Try.underlying41 rfl (szA (n := 5))) ?_
        simp only [Act.put, pA, pB, pC]
        refine wl_step (st_gives hE3 rfl (run_call rfl Try.call30) (Hg2.out _) ?_)
        intro w4 hb4 hE4
        clear hE3
        simp only [Act.put, pA, pB, pC]
        refine wl_step (st_store (i := 0) hE4 rfl rfl rfl rfl rfl (szA (n := 5)) (by first | (simp only [ints_size, digs_length, List.length_replicate, List.length_cons, List.length_nil]; done) | (simp only [ints_size, digs_length, List.length_replicate, List.length_cons, List.length_nil, List.length_set, List.length_append]; omega) | rfl) (by first | exact ints_one _ _ | decide | simp [*]) ?_)
        intro w5 hE5
        clear hE4
        simp only [pB, pC] at hE5
        simp only [Act.put, pA, pB, pC]
        repeat ((fail_if_success with_reducible show wA ..); (fail_if_success with_reducible show wB ..); go_step)
        refine wv (v_moveT (.inl rfl) rfl) ?_
        simp only [Act.put, pA, pB, pC]
        refine wv (v_sub (n := 1) rfl rfl rfl (by first | exact w_i64s (by omega) (by omega) | exact w_i64I (by omega) (by omega))) ?_
        simp only [Act.put, pA, pB, pC]
        refine wv (v_moveT (.inr rfl) rfl) ?_
        simp only [Act.put, pA, pB, pC]
        go_wp2
        go_roundw
        case rel => exact ⟨j, by omega, rfl, by rw [Hn0.out]; exact hE5⟩
        case measure => simp [intOf]
theorem power_any {l : List Nat} (hl : Fe l) (bit : Nat → Bool) :
    ∃ c, Fe c ∧ fval c % pN = fval l ^ bitsVal bit 256 % pN ∧ ∀ (v : Value) (S : World → Prop), (∀ W w1 : World, Below W.heap.size W w1 → S W → S w1) → TellsBits v bit S → ∀ w, S w → Gives 54 #[elem l, v] w (elem c) := by
  obtain ⟨mulF, h⟩ := Mul_fun
  have hmul := fun l m hl hm => (⟨(h l m hl hm).1, (h l m hl hm).2.1⟩ : Fe (mulF l m) ∧ fval (mulF l m) % pN = fval l * fval m % pN)
  obtain ⟨h1, h2⟩ := powL_ok hmul hl bit 256
  exact ⟨_, h1, h2, fun v S hst hv => power_walk hmul (fun l m hl hm => (h l m hl hm).2.2) hl hst hv⟩
end Go.Proofs.Ythddoelflmoedaa
namespace Go.Proofs.Ythddoelflmoedaa
open Go.RowKit
set_option maxRecDepth 100000
set_option linter.unusedVariables false
set_option linter.unusedSimpArgs false

theorem results_ct {P : Program} {fn : Func} {p s : Tmp} {ty : TypeId} (h : fn.results = #[.cell p ty, .tmp s]) (tmps : Array Value) (w : World) (g : Nat) (t : TypeId) (cs : Array Value) (fr : Nat × Nat) (d : TypeDesc) {v : Value}
    (hp : tmps.getD p undef = .pointer (some ⟨g, 0, none⟩)) (hg : w.heap[g]? = some (.cells cs t fr))
    (hu : P.underlying ty = some d) (hd : (match d with | .struct _ | .array _ _ => true | _ => false) = true) (hi : (P.info? ty).map (·.size) = some cs.size) (hv : tmps.getD s undef = v) :
    (results fn tmps).run P w = .ok (.tuple #[.agg cs, v]) w := by
  have hp' : tmps[p]?.getD undef = .pointer (some ⟨g, 0, none⟩) := by simpa using hp
  have hv' : tmps[s]?.getD undef = v := by simpa using hv
  simp [results, h, hp', hv', asAddr, run_loadVar_row w g t ty cs fr d hg hu hd hi]

theorem v_makeFunc {P : Program} {o : Oper} {a : Act} {w : World} {fn : Fn} {C : List Operand} {vs : List Value} (ho : o.op = .makeFunc fn #[] C.toArray) (hv : C.map a.eval = vs) : Val P o a (.func fn #[] vs.toArray) w := v_run fun w => by
  subst hv
  unfold execOp
  simp [ho, Instr.makeFunc]
end Go.Proofs.Ythddoelflmoedaa
namespace Go.Proofs.Ythddoelflmoedaa
open Go.RowKit
set_option maxRecDepth 100000
set_option linter.unusedVariables false
set_option linter.unusedSimpArgs false

/-- A number's bits. -/
def bitOf (V i : Nat) : Bool := decide (V / 2 ^ i % 2 = 1)
theorem bitsVal_of {V : Nat} (hV : V < 2 ^ 256) : ∀ k, k ≤ 256 → bitsVal (bitOf V) k = V / 2 ^ (256 - k)
  | 0, _ => by rw [bitsVal, Nat.div_eq_of_lt hV]
  | k + 1, hk => by
    have ih := bitsVal_of hV k (by omega)
    have e : 256 - k = (255 - k) + 1 := by omega
    have e2 : 256 - (k + 1) = 255 - k := by omega
    rw [bitsVal, ih, e2, e, Nat.pow_succ, ← Nat.div_div_eq_div_mul]
    unfold bitOf
    generalize V / 2 ^ (255 - k) = x
    rcases Nat.mod_two_eq_zero_or_one x with h | h
    · rw [h, if_neg (by decide)]
      omega
    · rw [h, if_pos (by decide)]
      omega
theorem bitsVal_all {V : Nat} (hV : V < 2 ^ 256) : bitsVal (bitOf V) 256 = V := by
  rw [bitsVal_of hV 256 (Nat.le_refl _), Nat.sub_self, Nat.pow_zero, Nat.div_one]
theorem bits_congr {b c : Nat → Bool} (h : ∀ i, i < 256 → b i = c i) : ∀ k, k ≤ 256 → bitsVal b k = bitsVal c k
  | 0, _ => rfl
  | k + 1, hk => by rw [bitsVal, bitsVal, bits_congr h k (by omega), h (255 - k) (by omega)]

theorem bit_of_byte {b : List Nat} (db : Digs 256 b) (i : Nat) : b.getD (i / 8) 0 / 2 ^ (i % 8) % 2 = val 256 b / 2 ^ i % 2 := by
  rw [← val_div_mod db (by decide), show (256 : Nat) = 2 ^ 8 from rfl, ← Nat.pow_mul, mod_pow_div_mod (B := 2) _ 8 (i % 8) (Nat.mod_lt _ (by decide)), Nat.div_div_eq_div_mul, ← Nat.pow_add, show 8 * (i / 8) + i % 8 = i by omega]

/-- The bits of p - 2, and of (p - 5) / 8. -/
def invBit (i : Nat) : Bool := decide (i < 255) && decide (i ≠ 2) && decide (i ≠ 4)
def rootBit (i : Nat) : Bool := decide (i < 252) && decide (i ≠ 1)
theorem invBit_val : bitsVal invBit 256 = pN - 2 := by kernel_rfl
theorem rootBit_val : bitsVal rootBit 256 = (pN - 5) / 8 := by kernel_rfl

set_option maxHeartbeats 1000000 in
theorem invBit_any (i : Nat) (hi : i < 256) (w : World) : Gives 55 #[.int .i64 (i : Int)] w (.bool (invBit i)) := by
  by_cases h1 : i < 255
  · by_cases h2 : i = 2
    · subst h2
      have hE0 := Env.nil w
      go_enter Try.func55, Try.ntmps55
      repeat ((fail_if_success with_reducible show wA ..); (fail_if_success with_reducible show wB ..); go_step)
      refine wv (v_moveC (.inr rfl)) ?_
      simp only [Act.put, pA, pB, pC]
      repeat ((fail_if_success with_reducible show wA ..); (fail_if_success with_reducible show wB ..); go_step)
      refine wv (v_moveT (.inl rfl) rfl) ?_
      simp only [Act.put, pA, pB, pC]
      refine wv (v_lss (n := 255) rfl rfl rfl) ?_
      simp only [Act.put, pA, pB, pC]
      refine wv (v_moveT (.inl rfl) rfl) ?_
      simp only [Act.put, pA, pB, pC]
      refine wv (v_moveT (.inl rfl) rfl) ?_
      simp only [Act.put, pA, pB, pC]
      refine wv (v_neq (n := 2) rfl rfl rfl) ?_
      simp only [Act.put, pA, pB, pC]
      refine wv (v_and rfl rfl (fun _ => rfl)) ?_
      simp only [Act.put, pA, pB, pC]
      refine wv (v_moveT (.inl rfl) rfl) ?_
      simp only [Act.put, pA, pB, pC]
      refine wl_step (st_skip rfl ?_)
      simp only [Act.put, pA, pB, pC]
      refine wl_step (st_skip rfl ?_)
      simp only [Act.put, pA, pB, pC]
      refine wv (v_andF rfl rfl) ?_
      simp only [Act.put, pA, pB, pC]
      refine wv (v_moveT (.inr rfl) rfl) ?_
      simp only [Act.put, pA, pB, pC]
      repeat ((fail_if_success with_reducible show wA ..); (fail_if_success with_reducible show wB ..); go_step)
      go_returns
      exact ⟨rfl, hE0.below⟩
    · have hd1 := Lib.hid (decide_eq_true h1)
      have hd2 := Lib.hid (decide_eq_true (show i ≠ 2 from h2))
      have hE0 := Env.nil w
      go_enter Try.func55, Try.ntmps55
      repeat ((fail_if_success with_reducible show wA ..); (fail_if_success with_reducible show wB ..); go_step)
      refine wv (v_moveC (.inr rfl)) ?_
      simp only [Act.put, pA, pB, pC]
      repeat ((fail_if_success with_reducible show wA ..); (fail_if_success with_reducible show wB ..); go_step)
      refine wv (v_moveT (.inl rfl) rfl) ?_
      simp only [Act.put, pA, pB, pC]
      refine wv (v_lss (n := 255) rfl rfl rfl) ?_
      simp only [Act.put, pA, pB, pC]
      rw [hd1.out]
      refine wv (v_moveT (.inl rfl) rfl) ?_
      simp only [Act.put, pA, pB, pC]
      refine wv (v_moveT (.inl rfl) rfl) ?_
      simp only [Act.put, pA, pB, pC]
      refine wv (v_neq (n := 2) rfl rfl rfl) ?_
      simp only [Act.put, pA, pB, pC]
      rw [hd2.out]
      refine wv (v_and rfl rfl (fun _ => rfl)) ?_
      simp only [Act.put, pA, pB, pC]
      refine wv (v_moveT (.inl rfl) rfl) ?_
      simp only [Act.put, pA, pB, pC]
      refine wv (v_moveT (.inl rfl) rfl) ?_
      simp only [Act.put, pA, pB, pC]
      refine wv (v_neq (n := 4) rfl rfl rfl) ?_
      simp only [Act.put, pA, pB, pC]
      refine wv (v_and rfl rfl (fun _ => rfl)) ?_
      simp only [Act.put, pA, pB, pC]
      refine wv (v_moveT (.inr rfl) rfl) ?_
      simp only [Act.put, pA, pB, pC]
      repeat ((fail_if_success with_reducible show wA ..); (fail_if_success with_reducible show wB ..); go_step)
      go_returns
      exact ⟨by unfold invBit; rw [hd1.out, hd2.out]; rfl, hE0.below⟩
  · have hd1 := Lib.hid (decide_eq_false h1)
    have hE0 := Env.nil w
    go_enter Try.func55, Try.ntmps55
    repeat ((fail_if_success with_reducible show wA ..); (fail_if_success with_reducible show wB ..); go_step)
    refine wv (v_moveC (.inr rfl)) ?_
    simp only [Act.put, pA, pB, pC]
    repeat ((fail_if_success with_reducible show wA ..); (fail_if_success with_reducible show wB ..); go_step)
    refine wv (v_moveT (.inl rfl) rfl) ?_
    simp only [Act.put, pA, pB, pC]
    refine wv (v_lss (n := 255) rfl rfl rfl) ?_
    simp only [Act.put, pA, pB, pC]
    rw [hd1.out]
    refine wv (v_moveT (.inl rfl) rfl) ?_
    simp only [Act.put, pA, pB, pC]
    refine wl_step (st_skip rfl ?_)
    simp only [Act.put, pA, pB, pC]
    refine wl_step (st_skip rfl ?_)
    simp only [Act.put, pA, pB, pC]
    refine wv (v_andF rfl rfl) ?_
    simp only [Act.put, pA, pB, pC]
    refine wv (v_moveT (.inl rfl) rfl) ?_
    simp only [Act.put, pA, pB, pC]
    refine wl_step (st_skip rfl ?_)
    simp only [Act.put, pA, pB, pC]
    refine wl_step (st_skip rfl ?_)
    simp only [Act.put, pA, pB, pC]
    refine wv (v_andF rfl rfl) ?_
    simp only [Act.put, pA, pB, pC]
    refine wv (v_moveT (.inr rfl) rfl) ?_
    simp only [Act.put, pA, pB, pC]
    repeat ((fail_if_success with_reducible show wA ..); (fail_if_success with_reducible show wB ..); go_step)
    go_returns
    exact ⟨by unfold invBit; rw [hd1.out]; rfl, hE0.below⟩
set_option maxHeartbeats 1000000 in
theorem rootBit_any (i : Nat) (hi : i < 256) (w : World) : Gives 65 #[.int .i64 (i : Int)] w (.bool (rootBit i)) := by
  by_cases h1 : i < 252
  · have hd1 := Lib.hid (decide_eq_true h1)
    have hE0 := Env.nil w
    go_enter Try.func65, Try.ntmps65
    repeat ((fail_if_success with_reducible show wA ..); (fail_if_success with_reducible show wB ..); go_step)
    refine wv (v_moveC (.inr rfl)) ?_
    simp only [Act.put, pA, pB, pC]
    repeat ((fail_if_success with_reducible show wA ..); (fail_if_success with_reducible show wB ..); go_step)
    refine wv (v_moveT (.inl rfl) rfl) ?_
    simp only [Act.put, pA, pB, pC]
    refine wv (v_lss (n := 252) rfl rfl rfl) ?_
    simp only [Act.put, pA, pB, pC]
    rw [hd1.out]
    refine wv (v_moveT (.inl rfl) rfl) ?_
    simp only [Act.put, pA, pB, pC]
    refine wv (v_moveT (.inl rfl) rfl) ?_
    simp only [Act.put, pA, pB, pC]
    refine wv (v_neq (n := 1) rfl rfl rfl) ?_
    simp only [Act.put, pA, pB, pC]
    refine wv (v_and rfl rfl (fun _ => rfl)) ?_
    simp only [Act.put, pA, pB, pC]
    refine wv (v_moveT (.inr rfl) rfl) ?_
    simp only [Act.put, pA, pB, pC]
    repeat ((fail_if_success with_reducible show wA ..); (fail_if_success with_reducible show wB ..); go_step)
    go_returns
    exact ⟨by unfold rootBit; rw [hd1.out]; rfl, hE0.below⟩
  · have hd1 := Lib.hid (decide_eq_false h1)
    have hE0 := Env.nil w
    go_enter Try.func65, Try.ntmps65
    repeat ((fail_if_success with_reducible show wA ..); (fail_if_success with_reducible show wB ..); go_step)
    refine wv (v_moveC (.inr rfl)) ?_
    simp only [Act.put, pA, pB, pC]
    repeat ((fail_if_success with_reducible show wA ..); (fail_if_success with_reducible show wB ..); go_step)
    refine wv (v_moveT (.inl rfl) rfl) ?_
    simp only [Act.put, pA, pB, pC]
    refine wv (v_lss (n := 252) rfl rfl rfl) ?_
    simp only [Act.put, pA, pB, pC]
    rw [hd1.out]
    refine wv (v_moveT (.inl rfl) rfl) ?_
    simp only [Act.put, pA, pB, pC]
    refine wl_step (st_skip rfl ?_)
    simp only [Act.put, pA, pB, pC]
    refine wl_step (st_skip rfl ?_)
    simp only [Act.put, pA, pB, pC]
    refine wv (v_andF rfl rfl) ?_
    simp only [Act.put, pA, pB, pC]
    refine wv (v_moveT (.inr rfl) rfl) ?_
    simp only [Act.put, pA, pB, pC]
    repeat ((fail_if_success with_reducible show wA ..); (fail_if_success with_reducible show wB ..); go_step)
    go_returns
    exact ⟨by unfold rootBit; rw [hd1.out]; rfl, hE0.below⟩
theorem powFun_any {l : List Nat} (hl : Fe l) {f : Nat} {bit : Nat → Bool} (hc : ∀ (args : Array Value) (w : World), (callFunc f args).run Try.prog w = .ok (.enter f args) w) (hb : ∀ i : Nat, i < 256 → ∀ w, Gives f #[.int .i64 (i : Int)] w (.bool (bit i))) :
    ∃ c, Fe c ∧ fval c % pN = fval l ^ bitsVal bit 256 % pN ∧ ∀ w, Gives 54 #[elem l, .func (.func f) #[] #[]] w (elem c) := by
  obtain ⟨c, h1, h2, h3⟩ := power_any hl bit
  exact ⟨c, h1, h2, fun w => h3 _ (fun _ => True) (fun _ _ _ _ => trivial) ⟨f, #[], #[], rfl, hc, fun i w hi _ => hb i hi w⟩ w trivial⟩
set_option maxHeartbeats 1000000 in
theorem Invert_any {l : List Nat} (hl : Fe l) : ∃ c, Fe c ∧ fval c % pN = fval l ^ (pN - 2) % pN ∧ ∀ w, Gives 29 #[elem l] w (elem c) := by
  obtain ⟨c, h1, h2, h3⟩ := powFun_any hl Try.call55 invBit_any
  refine ⟨c, h1, by rw [h2, invBit_val], fun w => ?_⟩
  have Hp := Lib.hid h3
  have hl5 := hl.1
  have hc5 := h1.1
  clear h3 h2 h1 hl
  have hE0 := Env.nil w
  go_enter Try.func29, Try.ntmps29
  repeat ((fail_if_success with_reducible show wA ..); (fail_if_success with_reducible show wB ..); go_step)
  refine wl_step (st_boxA hE0 rfl rfl rfl ?_)
  intro g0 w1 hb1 hE1
  clear hE0
  simp only [Act.put, pA, pB, pC]
  refine wl_step (st_alloc (zs := ints .u64 (List.replicate 5 0)) hE1 rfl rfl (fun w => by kernel_rfl) ?_)
  intro g1 w2 hb2 hE2
  clear hE1
  simp only [Act.put, pA, pB, pC]
  repeat ((fail_if_success with_reducible show wA ..); (fail_if_success with_reducible show wB ..); go_step)
  refine wv (v_load (i := 1) hE2 rfl rfl rfl Try.underlying41 rfl (szA (n := 5))) ?_
  simp only [Act.put, pA, pB, pC]
  refine wl_step (st_gives hE2 rfl (run_call rfl Try.call54) (Hp.out _) ?_)
  intro w3 hb3 hE3
  clear hE2
  simp only [Act.put, pA, pB, pC]
  refine wl_step (st_store (i := 0) hE3 rfl rfl rfl rfl rfl (szA (n := 5)) (by first | (simp only [ints_size, digs_length, List.length_replicate, List.length_cons, List.length_nil]; done) | (simp only [ints_size, digs_length, List.length_replicate, List.length_cons, List.length_nil, List.length_set, List.length_append]; omega) | rfl) (by first | exact ints_one _ _ | decide | simp [*]) ?_)
  intro w4 hE4
  clear hE3
  simp only [pB, pC] at hE4
  simp only [Act.put, pA, pB, pC]
  repeat ((fail_if_success with_reducible show wA ..); (fail_if_success with_reducible show wB ..); go_step)
  refine bodyPost_ret (results_cell_row rfl _ _ _ _ _ (0, 0) _ rfl (hE4.get (i := 0) rfl) Try.underlying41 rfl (szA (n := 5))) rfl ⟨rfl, hE4.below⟩

/-- A root of -1, its bytes. -/
def unitB : List Nat := [0xb0, 0xa0, 0x0e, 0x4a, 0x27, 0x1b, 0xee, 0xc4, 0x78, 0xe4, 0x2f, 0xad, 0x06, 0x18, 0x43, 0x2f, 0xa7, 0xd7, 0xfb, 0x3d, 0x99, 0x00, 0x4d, 0x2b, 0x0b, 0xdf, 0xc1, 0x4f, 0x80, 0x24, 0x83, 0x2b]
def unitN : Nat := val 256 unitB
theorem unitN_lt : unitN < pN := of_decide_eq_true (by kernel_rfl)
set_option maxHeartbeats 1000000 in
theorem unit_any : ∃ c, Fe c ∧ fval c = unitN ∧ ∀ w, Gives 67 #[] w (elem c) := by
  refine ⟨_, digs_Fe unitN, by rw [digs_fval, Nat.mod_eq_of_lt (Nat.lt_trans unitN_lt (by decide))], fun w => ?_⟩
  have hO := Lib.hid (fun w => Of_any unitB rfl (by unfold Digs unitB; decide) w)
  have hdl : (digs 2251799813685248 5 unitN).length = 5 := digs_length _ _ _
  have hE0 := Env.nil w
  go_enter Try.func67, Try.ntmps67
  repeat ((fail_if_success with_reducible show wA ..); (fail_if_success with_reducible show wB ..); go_step)
  refine wl_step (st_alloc (zs := ints .u64 (List.replicate 5 0)) hE0 rfl rfl (fun w => by kernel_rfl) ?_)
  intro g0 w1 hb1 hE1
  clear hE0
  simp only [Act.put, pA, pB, pC]
  repeat ((fail_if_success with_reducible show wA ..); (fail_if_success with_reducible show wB ..); go_step)
  refine wv (v_built (k := .u8) (l := unitB) rfl (fun w => by kernel_rfl)) ?_
  simp only [Act.put, pA, pB, pC]
  refine wl_step (st_gives hE1 rfl (run_call rfl Try.call24) (hO.out _) ?_)
  intro w2 hb2 hE2
  clear hE1
  simp only [Act.put, pA, pB, pC]
  refine wl_step (st_store (i := 0) hE2 rfl rfl rfl rfl rfl (szA (n := 5)) (by first | (simp only [ints_size, digs_length, List.length_replicate, List.length_cons, List.length_nil]; done) | (simp only [ints_size, digs_length, List.length_replicate, List.length_cons, List.length_nil, List.length_set, List.length_append]; omega) | rfl) (by first | exact ints_one _ _ | decide | simp [*]) ?_)
  intro w3 hE3
  clear hE2
  simp only [pB, pC] at hE3
  simp only [Act.put, pA, pB, pC]
  repeat ((fail_if_success with_reducible show wA ..); (fail_if_success with_reducible show wB ..); go_step)
  refine bodyPost_ret (results_cell_row rfl _ _ _ _ _ (0, 0) _ rfl (hE3.get (i := 0) rfl) Try.underlying41 rfl (szA (n := 5))) rfl ⟨rfl, hE3.below⟩
end Go.Proofs.Ythddoelflmoedaa
