/-
  Layer 4: a number's bytes; whether it is odd, 0; whether two are the same; whether bytes are those of a number below p.
  Layer 4: whether a number is odd, 0; whether two are the same; whether bytes are those of a number below p.
  Layer 4: powers, inverses; roots.
  Two results, of which the first lies in memory; function values.
  Layer 4: any power, the inverse, the root.
  Layer 4: the root of a quotient.
-/
import Derived.Test.YthddoelflmoedaaGreatJ07
import Derived.Test.YthddoelflmoedaaGreatJ10
import Derived.Test.YthddoelflmoedaaGreatJ11
set_option linter.unusedVariables false
set_option linter.unusedSimpArgs false
namespace Go.Proofs.YthddoelflmoedaaGreat
open Go.RowKit
set_option maxRecDepth 100000

def bitF (N p : Nat) : Nat := N / 2 ^ p % 2
theorem bitF_le (N p : Nat) : bitF N p ≤ 1 := by unfold bitF; omega
theorem byte_low (N p : Nat) : N % 2 ^ p / 256 ^ (p / 8) < 2 ^ (p % 8) := by
 rw [Nat.div_lt_iff_lt_mul (Nat.pow_pos (by decide)), show (256 : Nat) = 2 ^ 8 from rfl, ← Nat.pow_mul, ← Nat.pow_add, show p % 8 + 8 * (p / 8) = p by omega]
 exact Nat.mod_lt _ (Nat.pow_pos (by decide))
theorem byte_old {N p : Nat} (hp : p < 256) : (digs 256 32 (N % 2 ^ p)).getD (p / 8) 0 = N % 2 ^ p / 256 ^ (p / 8) := by
 rw [digs_getD _ _ _ _ (by omega)]
 have h1 := byte_low N p
 have h2 : 2 ^ (p % 8) ≤ 2 ^ 7 := Nat.pow_le_pow_right (by decide) (by omega)
 exact Nat.mod_eq_of_lt (by omega)
theorem bit_fits (N p : Nat) : bitF N p * 2 ^ (p % 8) < 256 := by
 have h1 := bitF_le N p
 have h2 : 2 ^ (p % 8) ≤ 2 ^ 7 := Nat.pow_le_pow_right (by decide) (by omega)
 have h3 := Nat.mul_le_mul h1 h2
 omega
theorem byte_new (N p : Nat) : N % 2 ^ p / 256 ^ (p / 8) + bitF N p * 2 ^ (p % 8) < 256 := by
 have h1 := byte_low N p
 have h2 := bitF_le N p
 have h3 : 2 ^ (p % 8) ≤ 2 ^ 7 := Nat.pow_le_pow_right (by decide) (by omega)
 have h4 := Nat.mul_le_mul h2 (Nat.le_refl (2 ^ (p % 8)))
 omega
theorem bytes_step {N p : Nat} (hp : p < 256) : (digs 256 32 (N % 2 ^ p)).set (p / 8) (N % 2 ^ p / 256 ^ (p / 8) + bitF N p * 2 ^ (p % 8)) = digs 256 32 (N % 2 ^ (p + 1)) := by
 have hj : p / 8 < (digs 256 32 (N % 2 ^ p)).length := by rw [digs_length]; omega
 refine val_inj (B := 256) ((digs_Digs (by decide) 32 _).set _ (byte_new N p)) (digs_Digs (by decide) 32 _) (by rw [List.length_set, digs_length, digs_length]) ?_
 have h := val_set (B := 256) (digs 256 32 (N % 2 ^ p)) (p / 8) (N % 2 ^ p / 256 ^ (p / 8) + bitF N p * 2 ^ (p % 8)) hj
 have e : (digs 256 32 (N % 2 ^ p))[p / 8] = N % 2 ^ p / 256 ^ (p / 8) := by
  rw [← byte_old hp]
  simp [List.getD, hj]
 have b1 : N % 2 ^ p < 256 ^ 32 := Nat.lt_of_lt_of_le (Nat.mod_lt _ (Nat.pow_pos (by decide))) (by rw [show (256 : Nat) ^ 32 = 2 ^ 256 from rfl]; exact Nat.pow_le_pow_right (by decide) (by omega))
 have b2 : N % 2 ^ (p + 1) < 256 ^ 32 := Nat.lt_of_lt_of_le (Nat.mod_lt _ (Nat.pow_pos (by decide))) (by rw [show (256 : Nat) ^ 32 = 2 ^ 256 from rfl]; exact Nat.pow_le_pow_right (by decide) (by omega))
 rw [e, val_digs, Nat.mod_eq_of_lt b1, Nat.mul_add] at h
 rw [val_digs, Nat.mod_eq_of_lt b2, Nat.pow_succ, Nat.mod_mul]
 have e2 : 256 ^ (p / 8) * (bitF N p * 2 ^ (p % 8)) = 2 ^ p * (N / 2 ^ p % 2) := by
  rw [bitF, show (256 : Nat) = 2 ^ 8 from rfl, ← Nat.pow_mul, Nat.mul_comm (N / 2 ^ p % 2), ← Nat.mul_assoc, ← Nat.pow_add, show 8 * (p / 8) + p % 8 = p by omega]
 rw [e2] at h
 omega
theorem bit_of_limb {N I K : Nat} (hK : K < 51) : N / 2251799813685248 ^ I % 2251799813685248 / 2 ^ K % 2 = bitF N (51 * I + K) := by
 unfold bitF
 rw [show (2251799813685248 : Nat) = 2 ^ 51 from rfl, ← Nat.pow_mul, mod_pow_div_mod (B := 2) _ 51 K hK, Nat.div_div_eq_div_mul, ← Nat.pow_add]

set_option maxRecDepth 100000 in
set_option maxHeartbeats 4000000 in
theorem Bytes_any {l : List Nat} (hl : Fe l) (w : World) : Gives 56 #[elem l] w (.agg (ints .u8 (digs 256 32 (fval l % pN)))) := by
 have hleast := Lib.hid (fun w => least_any hl w)
 have hl5 := hl.1
 have hN : fval l % pN < pN := Nat.mod_lt _ (by decide)
 obtain ⟨N, hNe⟩ : ∃ N, N = fval l % pN := ⟨_, rfl⟩
 rw [← hNe] at hleast hN ⊢
 have hlim : (digs 2251799813685248 5 N).length = 5 := digs_length _ _ _
 have hfin : digs 256 32 (N % 2 ^ 255) = digs 256 32 N := by rw [Nat.mod_eq_of_lt (Nat.lt_trans hN (by decide))]
 have hini : digs 256 32 (N % 2 ^ 0) = List.replicate 32 0 := by rw [Nat.pow_zero, Nat.mod_one]; decide
 have Hfin := Lib.hid hfin
 have Hini := Lib.hid hini
 have hblen : ∀ p, (digs 256 32 (N % 2 ^ p)).length = 32 := fun _ => digs_length _ _ _
 have Hblen := Lib.hid hblen
 clear hl hNe hN hfin hini hblen
 have hE0 := Env.nil w
 go_enter Tryz.func56, Tryz.ntmps56
 repeat ((fail_if_success refine sqx ?_); go_step)
 refine wl_step (st_boxA hE0 rfl rfl rfl ?_)
 intro g0 w1 hb1 hE1
 clear hE0
 simp only [qZ]
 refine wl_step (sqA (ints .u8 (List.replicate 32 0)) hE1 ?_)
 intro g1 w2 hb2 hE2
 clear hE1
 simp only [qZ]
 repeat ((fail_if_success refine sqx ?_); go_step)
 refine wl_step (sqA (ints .u8 (List.replicate 32 0)) hE2 ?_)
 intro g2 w3 hb3 hE3
 clear hE2
 simp only [qZ]
 repeat ((fail_if_success refine sqx ?_); go_step)
 refine wqv (vqL 2 5 hE3 Tryz.underlying53) ?_
 refine wl_step (st_gives hE3 rfl (run_call rfl Tryz.call98) (hleast.out _) ?_)
 intro w4 hb4 hE4
 clear hE3
 simp only [qZ]
 refine wqv (v_fieldW (n := 5) rfl rfl Tryz.underlying53 rfl rfl (Tryz.isAgg51) (by kernel_rfl) (by first | assumption | rfl)) ?_
 refine wqv (v_moveC (.inl rfl)) ?_
 go_wp2
 go_loopw [11] (fun i wr => ∃ I : Nat, I ≤ 5 ∧ i = .int .i64 I ∧ Env w [⟨g2, 22, ints .u8 (digs 256 32 (N % 2 ^ (51 * I)))⟩, ⟨g1, 22, ints .u8 (List.replicate 32 0)⟩, ⟨g0, 53, ints .u64 l⟩] wr) (fun i _ => 5 - (intOf i).toNat)
 case atStart => exact ⟨0, Nat.zero_le _, rfl, by rw [Nat.mul_zero, Hini.out]; exact hE4⟩
 case round =>
  clear hE4
  obtain ⟨I, hI, rfl, hE0⟩ := hrel
  by_cases hI5 : I < 5
  ·have Hx := Lib.hid (digs_getD 2251799813685248 5 N I hI5)
   have hx64 : N / 2251799813685248 ^ I % 2251799813685248 < 2251799813685248 := Nat.mod_lt _ (by decide)
   have Hbit := Lib.hid (fun K (h : K < 51) => bit_of_limb (N := N) (I := I) h)
   obtain ⟨x, hxe⟩ : ∃ x, x = N / 2251799813685248 ^ I % 2251799813685248 := ⟨_, rfl⟩
   rw [← hxe] at Hx hx64 Hbit
   clear hxe
   repeat ((fail_if_success refine sqx ?_); go_step)
   refine wqv (v_lss (n := 5) rfl rfl rfl) ?_
   repeat ((fail_if_success refine sqx ?_); go_step)
   refine mqA ?_
   refine wqv (v_idx rfl rfl rfl Tryz.underlying51 (by kernel_rfl : _ = some Tryz.t50) rfl Tryz.underlying50 (by first | assumption | simp) (by first | assumption | omega)) ?_
   rw [Hx.out]
   refine mqB ?_
   refine mqB ?_
   repeat ((fail_if_success refine sqx ?_); go_step)
   refine mqC ?_
   go_wp2
   go_loopw [6] (fun i wr => ∃ K : Nat, K ≤ 51 ∧ i = .int .i64 K ∧ Env w [⟨g2, 22, ints .u8 (digs 256 32 (N % 2 ^ (51 * I + K)))⟩, ⟨g1, 22, ints .u8 (List.replicate 32 0)⟩, ⟨g0, 53, ints .u64 l⟩] wr) (fun i _ => 51 - (intOf i).toNat)
   case atStart => exact ⟨0, Nat.zero_le _, rfl, hE0⟩
   case round =>
    clear hE0
    obtain ⟨K, hK, rfl, hE0⟩ := hrel
    by_cases hK5 : K < 51
    ·have Hb := Lib.hid (Hbit.out K hK5)
     have hp : 51 * I + K < 256 := by omega
     have hbl := Hblen.out (51 * I + K)
     have Hold := Lib.hid (byte_old (N := N) hp)
     have Hstep := Lib.hid (bytes_step (N := N) hp)
     have hbit := bitF_le N (51 * I + K)
     have hfit := bit_fits N (51 * I + K)
     have hlow := byte_low N (51 * I + K)
     have hsp : 2 ^ ((51 * I + K) % 8) ≤ 2 ^ IntKind.u8.bits := Nat.pow_le_pow_right (by decide) (by simp only [IntKind.bits]; omega)
     have hshift : x / 2 ^ K < 2 ^ IntKind.u64.bits := by
      have := Nat.div_le_self x (2 ^ K)
      simp only [IntKind.bits]
      omega
     have hm2 : x / 2 ^ K % 2 < 256 := by omega
     have h9 : (51 * I + K) % 8 ≤ IntKind.u8.bits := by simp only [IntKind.bits]; omega
     repeat ((fail_if_success refine sqx ?_); go_step)
     refine mqA ?_
     refine wqv (v_lss (n := 51) rfl rfl rfl) ?_
     repeat ((fail_if_success refine sqx ?_); go_step)
     refine mqA ?_
     refine wqv (v_mul (m := 51) rfl rfl rfl (w_i64 (by omega))) ?_
     refine mqA ?_
     refine wqv (v_add rfl rfl rfl (w_i64 (by omega))) ?_
     refine mqB ?_
     repeat ((fail_if_success refine sqx ?_); go_step)
     refine wp_region_B (n := 15) 14 (by kernel_rfl) rfl hE0 ?_
     intro w1 hb1 hE1
     clear hE0
     refine tqB 0 rfl (v_moveT (.inl rfl) rfl) ?_
     refine tqB 1 rfl (v_quo (n := 8) rfl rfl rfl (by omega) (w_i64 (by omega))) ?_
     refine tqB 2 rfl (vqI Tryz.underlying22) ?_
     refine tqB 3 rfl (vqC 0 hE1 Tryz.underlying5) ?_
     rw [Hold.out]
     refine tqB 4 rfl (v_moveT (.inl rfl) rfl) ?_
     refine tqB 5 rfl (v_moveT (.inl rfl) rfl) ?_
     refine tqB 6 rfl (v_shr rfl rfl rfl (by simp only [IntKind.bits]; omega)) ?_
     refine tqB 7 rfl (v_mask (c := 1) (s := 1) (d := 2) rfl rfl rfl (by decide) (by decide) rfl hshift (by decide)) ?_
     refine tqB 8 rfl (v_convInt rfl rfl Tryz.underlying50 Tryz.underlying5 (by first | exact w_u8 (by omega) | exact w_u8m _)) ?_
     rw [Hb.out]
     refine tqB 9 rfl (v_moveT (.inl rfl) rfl) ?_
     refine tqB 10 rfl (v_rem (n := 8) rfl rfl rfl (by omega)) ?_
     refine tqB 11 rfl (v_shl rfl rfl rfl h9 (w_u8 hfit)) ?_
     refine tqB 12 rfl (v_orShift rfl rfl rfl rfl hlow hsp hfit) ?_
     refine tqB 13 rfl (vqI Tryz.underlying22) ?_
     refine sqB 14 rfl (st_putN (i := 0) hE1 rfl rfl rfl rfl rfl (by kernel_rfl) (by first | assumption | omega | (simp only [List.length_set, List.length_replicate]; first | assumption | omega)) ?_)
     intro w2 hE2
     clear hE1
     simp only [qpB, qpC] at hE2
     refine nqB ?_
     simp only [qZ]
     refine wpB_done (by kernel_rfl) ?_ _
     rw [Hstep.out] at hE2
     repeat ((fail_if_success refine sqx ?_); go_step)
     refine mqA ?_
     refine wqv (v_add (n := 1) rfl rfl rfl (w_i64 (by omega))) ?_
     refine mqB ?_
     go_wp2
     go_roundw
     case rel => exact ⟨K + 1, by omega, rfl, hE2⟩
     case measure => simp [intOf]; omega
    ·have hK' : K = 51 := by omega
     subst hK'
     repeat ((fail_if_success refine sqx ?_); go_step)
     refine mqA ?_
     refine wqv (v_lss (n := 51) rfl rfl rfl) ?_
     repeat ((fail_if_success refine sqx ?_); go_step)
     refine wqv (v_add (n := 1) rfl rfl rfl (w_i64 (by omega))) ?_
     refine mqA ?_
     go_wp2
     go_roundw
     case rel => exact ⟨I + 1, by omega, rfl, by rw [show 51 * (I + 1) = 51 * I + 51 by omega]; exact hE0⟩
     case measure => simp [intOf]; omega
  ·have hI' : I = 5 := by omega
   subst hI'
   have hE1 : Env w [⟨g2, 22, ints .u8 (digs 256 32 N)⟩, ⟨g1, 22, ints .u8 (List.replicate 32 0)⟩, ⟨g0, 53, ints .u64 l⟩] wr := by rw [← Hfin.out]; exact hE0
   have hbl : (digs 256 32 N).length = 32 := digs_length _ _ _
   clear hE0
   repeat ((fail_if_success refine sqx ?_); go_step)
   refine wqv (v_lss (n := 5) rfl rfl rfl) ?_
   repeat ((fail_if_success refine sqx ?_); go_step)
   refine wqv (vqL 0 32 hE1 Tryz.underlying22) ?_
   refine wl_step (sqS 1 32 hE1 ?_)
   intro w2 hE2
   clear hE1
   simp only [qpB, qpC] at hE2
   simp only [qZ]
   repeat ((fail_if_success refine sqx ?_); go_step)
   refine bodyPost_ret (results_cell_row rfl _ _ _ _ _ (0, 0) _ rfl (hE2.get (i := 1) rfl) Tryz.underlying22 rfl (szqA (n := 32))) rfl ⟨rfl, hE2.below⟩
end Go.Proofs.YthddoelflmoedaaGreat
namespace Go.Proofs.YthddoelflmoedaaGreat
open Go.RowKit
set_option maxRecDepth 100000

section
variable {a : Act} {w : World} {o : Oper}
theorem v_eqElem {t' : TypeId} {x y : Operand} {l m : List Nat} (ho : o.op = .binOp .eql 53 x y t') (hx : a.eval x = .agg (ints .u64 l)) (hy : a.eval y = .agg (ints .u64 m)) (hl : l.length = 5) (hm : m.length = 5) : Val Tryz.prog o a (.bool (decide (l = m))) w :=
 v_eqAgg ho hx hy (Tryz.eqGuardType53) fun w => run_equalIn_one 9997 (u := 51) (f := ⟨_, 51, 0, _, _, _, _⟩) Tryz.underlying53 rfl (by kernel_rfl) (by decide) rfl rfl Tryz.underlying51 Tryz.underlying50 Tryz.isAgg51 Tryz.sizeOf51 Tryz.sizeOf50 hl hm w
theorem v_eq32 {t' : TypeId} {x y : Operand} {l m : List Nat} (ho : o.op = .binOp .eql 22 x y t') (hx : a.eval x = .agg (ints .u8 l)) (hy : a.eval y = .agg (ints .u8 m)) (hl : l.length = 32) (hm : m.length = 32) : Val Tryz.prog o a (.bool (decide (l = m))) w :=
 v_eqInts ho hx hy Tryz.eqGuardType22 Tryz.underlying22 Tryz.underlying5 Tryz.sizeOf5 hl hm
end

theorem digs_eq {m n : Nat} (hm : m < pN) (hn : n < pN) : decide (digs 2251799813685248 5 m = digs 2251799813685248 5 n) = decide (m = n) := by
 apply decide_eq_decide.2
 refine ⟨fun h => ?_, fun h => by rw [h]⟩
 have := congrArg (val 2251799813685248) h
 rw [val_digs, val_digs, Nat.mod_eq_of_lt (Nat.lt_trans hm (by decide)), Nat.mod_eq_of_lt (Nat.lt_trans hn (by decide))] at this
 exact this
theorem mod_p (n : Nat) : n % pN < pN := Nat.mod_lt _ (by decide)

set_option maxHeartbeats 1000000 in
theorem Odd_any {l : List Nat} (hl : Fe l) (w : World) : Gives 57 #[elem l] w (.bool (decide (fval l % pN % 2 = 1))) := by
 have hleast := Lib.hid (fun w => least_any hl w)
 have hl5 := hl.1
 obtain ⟨N, hNe⟩ : ∃ N, N = fval l % pN := ⟨_, rfl⟩
 rw [← hNe] at hleast ⊢
 have hlim : (digs 2251799813685248 5 N).length = 5 := digs_length _ _ _
 have Hx := Lib.hid (digs_getD 2251799813685248 5 N 0 (by decide))
 have hx64 : N / 2251799813685248 ^ 0 % 2251799813685248 < 18446744073709551616 := Nat.lt_trans (Nat.mod_lt _ (by decide)) (by decide)
 have hm : N / 2251799813685248 ^ 0 % 2251799813685248 % 2 = N % 2 := by
  rw [Nat.pow_zero, Nat.div_one]
  exact Nat.mod_mod_of_dvd _ (by decide)
 have Hm := Lib.hid hm
 clear hl hNe hm
 have hE0 := Env.nil w
 go_enter Tryz.func57, Tryz.ntmps57
 repeat ((fail_if_success refine sqx ?_); go_step)
 refine wl_step (st_boxA hE0 rfl rfl rfl ?_)
 intro g0 w1 hb1 hE1
 clear hE0
 simp only [qZ]
 refine mqC ?_
 repeat ((fail_if_success refine sqx ?_); go_step)
 refine wqv (vqL 0 5 hE1 Tryz.underlying53) ?_
 refine wl_step (st_gives hE1 rfl (run_call rfl Tryz.call98) (hleast.out _) ?_)
 intro w2 hb2 hE2
 clear hE1
 simp only [qZ]
 refine wqv (v_fieldW (n := 5) rfl rfl Tryz.underlying53 rfl rfl (Tryz.isAgg51) (by kernel_rfl) (by first | assumption | rfl)) ?_
 refine wqv (v_idx (j := 0) rfl rfl rfl Tryz.underlying51 (by kernel_rfl : _ = some Tryz.t50) rfl Tryz.underlying50 (by first | assumption | simp) (by first | assumption | omega)) ?_
 rw [Hx.out]
 refine wqv (v_mask (c := 1) (s := 1) (d := 2) rfl rfl rfl (by decide) (by decide) rfl (by simp only [IntKind.bits]; omega) (by decide)) ?_
 rw [Hm.out]
 refine wqv (v_eql (n := 1) rfl rfl rfl) ?_
 refine mqB ?_
 repeat ((fail_if_success refine sqx ?_); go_step)
 go_returns
 exact ⟨rfl, hE2.below⟩
set_option maxHeartbeats 1000000 in
theorem Zero_any {l : List Nat} (hl : Fe l) (w : World) : Gives 75 #[elem l] w (.bool (decide (fval l % pN = 0))) := by
 have hleast := Lib.hid (fun w => least_any hl w)
 have hl5 := hl.1
 have he := digs_eq (mod_p (fval l)) (show 0 < pN by decide)
 rw [show digs 2251799813685248 5 0 = List.replicate 5 0 by decide] at he
 have He := Lib.hid he
 have hdl : (digs 2251799813685248 5 (fval l % pN)).length = 5 := digs_length _ _ _
 clear hl he
 have hE0 := Env.nil w
 go_enter Tryz.func75, Tryz.ntmps75
 repeat ((fail_if_success refine sqx ?_); go_step)
 refine wl_step (st_boxA hE0 rfl rfl rfl ?_)
 intro g0 w1 hb1 hE1
 clear hE0
 simp only [qZ]
 refine mqC ?_
 repeat ((fail_if_success refine sqx ?_); go_step)
 refine wqv (vqL 0 5 hE1 Tryz.underlying53) ?_
 refine wl_step (st_gives hE1 rfl (run_call rfl Tryz.call98) (hleast.out _) ?_)
 intro w2 hb2 hE2
 clear hE1
 simp only [qZ]
 refine wqv (v_built (k := .u64) (l := List.replicate 5 0) rfl (fun w => by kernel_rfl)) ?_
 refine wqv (v_eqElem rfl rfl rfl hdl rfl) ?_
 rw [He.out]
 refine mqB ?_
 repeat ((fail_if_success refine sqx ?_); go_step)
 go_returns
 exact ⟨rfl, hE2.below⟩
set_option maxHeartbeats 1000000 in
theorem Same_any {l m : List Nat} (hl : Fe l) (hm : Fe m) (w : World) : Gives 110 #[elem l, elem m] w (.bool (decide (fval l % pN = fval m % pN))) := by
 have hA := Lib.hid (fun w => least_any hl w)
 have hB := Lib.hid (fun w => least_any hm w)
 have hl5 := hl.1
 have hm5 := hm.1
 have He := Lib.hid (digs_eq (mod_p (fval l)) (mod_p (fval m)))
 have hdl : (digs 2251799813685248 5 (fval l % pN)).length = 5 := digs_length _ _ _
 have hdm : (digs 2251799813685248 5 (fval m % pN)).length = 5 := digs_length _ _ _
 clear hl hm
 have hE0 := Env.nil w
 go_enter Tryz.func110, Tryz.ntmps110
 repeat ((fail_if_success refine sqx ?_); go_step)
 refine wl_step (st_boxA hE0 rfl rfl rfl ?_)
 intro g0 w1 hb1 hE1
 clear hE0
 simp only [qZ]
 refine wl_step (st_boxA hE1 rfl rfl rfl ?_)
 intro g1 w2 hb2 hE2
 clear hE1
 simp only [qZ]
 refine mqC ?_
 repeat ((fail_if_success refine sqx ?_); go_step)
 refine wp_region_B (n := 6) 5 (by kernel_rfl) rfl hE2 ?_
 intro w3 hb3 hE3
 clear hE2
 refine tqB 0 rfl (vqL 1 5 hE3 Tryz.underlying53) ?_
 refine tqB 2 rfl (vqL 0 5 hE3 Tryz.underlying53) ?_
 refine sqB 1 rfl (st_gives hE3 rfl (run_call rfl Tryz.call98) (hA.out _) ?_)
 intro w4 hb4 hE4
 clear hE3
 refine ⟨fun _ => hb4, ?_⟩
 simp only [qZ]
 refine sqB 3 rfl (st_gives hE4 rfl (run_call rfl Tryz.call98) (hB.out _) ?_)
 intro w5 hb5 hE5
 clear hE4
 refine ⟨fun _ => hb5, ?_⟩
 simp only [qZ]
 refine tqB 4 rfl (v_eqElem rfl rfl rfl hdl hdm) ?_
 rw [He.out]
 refine sqB 5 rfl (st_val rfl (v_moveT (.inr rfl) rfl) ?_)
 refine ⟨fun _ => Below.refl _ _, ?_⟩
 simp only [qZ]
 refine wpB_done (by kernel_rfl) ?_ _
 repeat ((fail_if_success refine sqx ?_); go_step)
 go_returns
 exact ⟨rfl, hE5.below⟩

theorem canon_key {b : List Nat} (hb : b.length = 32) (db : Digs 256 b) (h : b.getD 31 0 < 128) : val 256 b < 57896044618658097711785492504343953926634992332820282019728792003956564819968 := by
 have h1 := val_div_mod db (by decide) 31
 have h2 := val_lt db
 rw [hb] at h2
 rw [← h1] at h
 have e : (256 : Nat) ^ 32 = 256 ^ 31 * 256 := rfl
 have h3 : val 256 b / 256 ^ 31 < 256 := by
  rw [Nat.div_lt_iff_lt_mul (Nat.pow_pos (by decide)), Nat.mul_comm]
  exact h2
 rw [Nat.mod_eq_of_lt h3, Nat.div_lt_iff_lt_mul (Nat.pow_pos (by decide))] at h
 exact h
theorem canon_key' {b : List Nat} (hb : b.length = 32) (db : Digs 256 b) (h : ¬ b.getD 31 0 < 128) : ¬ val 256 b < pN := by
 have h1 := val_div_mod db (by decide) 31
 rw [← h1] at h
 intro hlt
 apply h
 refine Nat.lt_of_le_of_lt (Nat.mod_le _ _) ?_
 rw [Nat.div_lt_iff_lt_mul (Nat.pow_pos (by decide))]
 exact Nat.lt_trans hlt (by decide)

set_option maxHeartbeats 1000000 in
theorem Canonical_any {b : List Nat} (hb : b.length = 32) (db : Digs 256 b) (w : World) : Gives 69 #[.agg (ints .u8 b)] w (.bool (decide (val 256 b < pN))) := by
 have HO := Lib.hid (fun w => Of_any b hb db w)
 have HB := Lib.hid (fun w => Bytes_any (digs_Fe (val 256 b)) w)
 by_cases h : b.getD 31 0 < 128
 ·have hv := canon_key hb db h
  have hf : fval (digs 2251799813685248 5 (val 256 b)) = val 256 b := by rw [digs_fval, Nat.mod_eq_of_lt hv]
  rw [hf] at HB
  have he : decide (digs 256 32 (val 256 b % pN) = b) = decide (val 256 b < pN) := by
   apply decide_eq_decide.2
   constructor
   ·intro h
    have h2 := congrArg (val 256) h
    rw [val_digs, Nat.mod_eq_of_lt (Nat.lt_trans (mod_p _) (by decide))] at h2
    rw [← h2]
    exact mod_p _
   ·intro h
    rw [Nat.mod_eq_of_lt h, digs_val' db hb]
  have He := Lib.hid he
  have hdl : (digs 256 32 (val 256 b % pN)).length = 32 := digs_length _ _ _
  have hd := Lib.hid (decide_eq_true h)
  clear hv hf he db
  have hE0 := Env.nil w
  go_enter Tryz.func69, Tryz.ntmps69
  repeat ((fail_if_success refine sqx ?_); go_step)
  refine wl_step (st_boxA hE0 rfl rfl rfl ?_)
  intro g0 w1 hb1 hE1
  clear hE0
  simp only [qZ]
  refine mqC ?_
  repeat ((fail_if_success refine sqx ?_); go_step)
  refine wp_region_B (n := 11) 10 (by kernel_rfl) rfl hE1 ?_
  intro w2 hb2 hE2
  clear hE1
  refine tqB 0 rfl (vqI (j := 31) Tryz.underlying22) ?_
  refine tqB 1 rfl (vqC 0 hE2 Tryz.underlying5) ?_
  refine tqB 2 rfl (v_lss (n := 128) rfl rfl rfl) ?_
  rw [hd.out]
  refine tqB 3 rfl (v_moveT (.inl rfl) rfl) ?_
  refine tqB 4 rfl (vqL 0 32 hE2 Tryz.underlying22) ?_
  refine tqB 7 rfl (vqL 0 32 hE2 Tryz.underlying22) ?_
  refine sqB 5 rfl (st_gives hE2 rfl (run_call rfl Tryz.call49) (HO.out _) ?_)
  intro w3 hb3 hE3
  clear hE2
  refine ⟨fun _ => hb3, ?_⟩
  simp only [qZ]
  refine sqB 6 rfl (st_gives hE3 rfl (run_call rfl Tryz.call56) (HB.out _) ?_)
  intro w4 hb4 hE4
  clear hE3
  refine ⟨fun _ => hb4, ?_⟩
  simp only [qZ]
  refine tqB 8 rfl (v_eq32 rfl rfl rfl hdl hb) ?_
  rw [He.out]
  refine tqB 9 rfl (v_and rfl rfl (fun _ => rfl)) ?_
  refine sqB 10 rfl (st_val rfl (v_moveT (.inr rfl) rfl) ?_)
  refine ⟨fun _ => Below.refl _ _, ?_⟩
  simp only [qZ]
  refine wpB_done (by kernel_rfl) ?_ _
  repeat ((fail_if_success refine sqx ?_); go_step)
  go_returns
  exact ⟨by rw [Bool.true_and]; rfl, hE4.below⟩
 ·have hv := decide_eq_false (canon_key' hb db h)
  rw [hv]
  have hd := Lib.hid (decide_eq_false h)
  have Hv := Lib.hid hv
  clear hv db
  have hE0 := Env.nil w
  go_enter Tryz.func69, Tryz.ntmps69
  repeat ((fail_if_success refine sqx ?_); go_step)
  refine wl_step (st_boxA hE0 rfl rfl rfl ?_)
  intro g0 w1 hb1 hE1
  clear hE0
  simp only [qZ]
  refine mqC ?_
  repeat ((fail_if_success refine sqx ?_); go_step)
  refine wp_region_B (n := 11) 10 (by kernel_rfl) rfl hE1 ?_
  intro w2 hb2 hE2
  clear hE1
  refine tqB 0 rfl (vqI (j := 31) Tryz.underlying22) ?_
  refine tqB 1 rfl (vqC 0 hE2 Tryz.underlying5) ?_
  refine tqB 2 rfl (v_lss (n := 128) rfl rfl rfl) ?_
  rw [hd.out]
  refine tqB 3 rfl (v_moveT (.inl rfl) rfl) ?_
  refine wpB_pass (i := 4) (by kernel_rfl) rfl (by kernel_rfl) (fun _ _ _ h => h) rfl ?_
  simp only [qZ]
  refine wpB_pass (i := 5) (by kernel_rfl) rfl (by kernel_rfl) (fun _ _ _ h => h) rfl ?_
  simp only [qZ]
  refine wpB_pass (i := 6) (by kernel_rfl) rfl (by kernel_rfl) (fun _ _ _ h => h) rfl ?_
  simp only [qZ]
  refine wpB_pass (i := 7) (by kernel_rfl) rfl (by kernel_rfl) (fun _ _ _ h => h) rfl ?_
  simp only [qZ]
  refine wpB_pass (i := 8) (by kernel_rfl) rfl (by kernel_rfl) (fun _ _ _ h => h) rfl ?_
  simp only [qZ]
  refine tqB 9 rfl (v_andF rfl rfl) ?_
  refine sqB 10 rfl (st_val rfl (v_moveT (.inr rfl) rfl) ?_)
  refine ⟨fun _ => Below.refl _ _, ?_⟩
  simp only [qZ]
  refine wpB_done (by kernel_rfl) ?_ _
  repeat ((fail_if_success refine sqx ?_); go_step)
  go_returns
  exact ⟨rfl, hE2.below⟩
end Go.Proofs.YthddoelflmoedaaGreat
namespace Go.Proofs.YthddoelflmoedaaGreat
open Go.RowKit
set_option maxRecDepth 100000

def bitsVal (bit : Nat → Bool) : Nat → Nat
 | 0 => 0
 | k + 1 => 2 * bitsVal bit k + if bit (255 - k) then 1 else 0

def TellsBits (v : Value) (bit : Nat → Bool) (S : World → Prop) : Prop :=
 ∃ f fr cap, v = .func (.func f) fr cap ∧ (∀ (args : Array Value) (w : World), (callFunc f args).run Tryz.prog w = .ok (.enter f args) w) ∧
  ∀ i w, i < 256 → S w → Gives f (fr ++ #[.int .i64 (i : Int)] ++ cap) w (.bool (bit i))

theorem run_callValue {P : Program} {o : Oper} {a : Act} {w : World} {x : Operand} {L : List Operand} {ts : Array TypeId} {f : FuncId} {fr cap : Array Value} (ho : o.op = .call { callee := .value x, args := L.toArray, argTypes := ts }) (hx : a.eval x = .func (.func f) fr cap)
  (hc : ∀ (args : Array Value) (w : World), (callFunc f args).run P w = .ok (.enter f args) w) : (execOp a.eval o).run P w = .ok (.enter f (fr ++ (L.map a.eval).toArray ++ cap)) w := by
 unfold execOp
 simp only [ho, resolve, hx, Deferred.ofValue, Sem.run_bind, Sem.run_pure, Result.andThen_ok, invoke]
 simp [hc, Sem.run_pure]

theorem Mul_fun : ∃ mulF : List Nat → List Nat → List Nat, ∀ l m, Fe l → Fe m → Fe (mulF l m) ∧ fval (mulF l m) % pN = fval l * fval m % pN ∧ ∀ w, Gives 55 #[elem l, elem m] w (elem (mulF l m)) := by
 exact ⟨fun l m => Classical.epsilon fun c => Fe c ∧ fval c % pN = fval l * fval m % pN ∧ ∀ w, Gives 55 #[elem l, elem m] w (elem c), fun l m hl hm => Classical.epsilon_spec (Mul_any hl hm)⟩

def powL (mulF : List Nat → List Nat → List Nat) (l : List Nat) (bit : Nat → Bool) : Nat → List Nat
 | 0 => [1, 0, 0, 0, 0]
 | k + 1 => if bit (255 - k) then mulF (mulF (powL mulF l bit k) (powL mulF l bit k)) l else mulF (powL mulF l bit k) (powL mulF l bit k)
theorem pow_mod_mul (a b c n : Nat) (h : a % n = b % n) : a * c % n = b * c % n := by rw [Nat.mul_mod, h, ← Nat.mul_mod]
theorem powL_ok {mulF : List Nat → List Nat → List Nat} (hmul : ∀ l m, Fe l → Fe m → Fe (mulF l m) ∧ fval (mulF l m) % pN = fval l * fval m % pN) {l : List Nat} (hl : Fe l) (bit : Nat → Bool) :
  ∀ k, Fe (powL mulF l bit k) ∧ fval (powL mulF l bit k) % pN = fval l ^ bitsVal bit k % pN
 | 0 => ⟨Fe.mk (by decide) (by decide) (by decide) (by decide) (by decide), by rw [powL, fval5, bitsVal, Nat.pow_zero]⟩
 | k + 1 => by
  obtain ⟨h1, h2⟩ := powL_ok hmul hl bit k
  obtain ⟨h3, h4⟩ := hmul _ _ h1 h1
  have h5 : fval (mulF (powL mulF l bit k) (powL mulF l bit k)) % pN = fval l ^ (2 * bitsVal bit k) % pN := by
   rw [h4, Nat.mul_mod, h2, ← Nat.mul_mod, ← Nat.pow_add, Nat.two_mul]
  obtain ⟨h6, h7⟩ := hmul _ _ h3 hl
  unfold powL bitsVal
  split
  ·exact ⟨h6, by rw [h7, pow_mod_mul _ _ _ _ h5, Nat.pow_succ]⟩
  ·exact ⟨h3, h5⟩

set_option maxRecDepth 100000 in
set_option maxHeartbeats 4000000 in
theorem power_walk {mulF : List Nat → List Nat → List Nat} (hmul : ∀ l m, Fe l → Fe m → Fe (mulF l m) ∧ fval (mulF l m) % pN = fval l * fval m % pN) (hgiv : ∀ l m, Fe l → Fe m → ∀ w, Gives 55 #[elem l, elem m] w (elem (mulF l m)))
  {l : List Nat} (hl : Fe l) {v : Value} {bit : Nat → Bool} {S : World → Prop} (hst : ∀ W w1 : World, Below W.heap.size W w1 → S W → S w1) (hv : TellsBits v bit S) (w : World) (hS : S w) :
  Gives 92 #[elem l, v] w (elem (powL mulF l bit 256)) := by
 obtain ⟨f, fr, cap, rfl, hcf, hbit⟩ := hv
 have hok := fun k => (powL_ok hmul hl bit k).1
 have hl5 := hl.1
 have Hl := Lib.hid hl
 have Hok := Lib.hid hok
 have Hmul := Lib.hid hmul
 have Hgiv := Lib.hid hgiv
 have Hcf := Lib.hid hcf
 have Hbit := Lib.hid hbit
 have Hst := Lib.hid hst
 have HS := Lib.hid hS
 have HSm := Lib.hid ((Small_any (n := 1) (by decide)).2.2)
 clear hl hok hmul hgiv hcf hbit hst hS
 have hE0 := Env.nil w
 go_enter Tryz.func92, Tryz.ntmps92
 repeat ((fail_if_success refine sqx ?_); go_step)
 refine wl_step (st_boxA hE0 rfl rfl rfl ?_)
 intro g0 w1 hb1 hE1
 clear hE0
 simp only [qZ]
 refine wl_step (sqA (ints .u64 (List.replicate 5 0)) hE1 ?_)
 intro g1 w2 hb2 hE2
 clear hE1
 simp only [qZ]
 repeat ((fail_if_success refine sqx ?_); go_step)
 refine wl_step (st_gives hE2 rfl (run_call rfl Tryz.call70) (HSm.out _) ?_)
 intro w3 hb3 hE3
 clear hE2
 simp only [qZ]
 refine wl_step (sqA (ints .u64 (List.replicate 5 0)) hE3 ?_)
 intro g2 w4 hb4 hE4
 clear hE3
 simp only [qZ]
 refine wl_step (sqS 0 5 hE4 ?_)
 intro w5 hE5
 clear hE4
 simp only [qpB, qpC] at hE5
 simp only [qZ]
 repeat ((fail_if_success refine sqx ?_); go_step)
 refine mqC ?_
 go_wp2
 go_loopw [6] (fun i wr => ∃ K : Nat, K ≤ 256 ∧ i = .int .i64 ((K : Int) - 1) ∧ Env w [⟨g2, 53, ints .u64 (powL mulF l bit (256 - K))⟩, ⟨g1, 53, ints .u64 (List.replicate 5 0)⟩, ⟨g0, 53, ints .u64 l⟩] wr) (fun i _ => (intOf i + 1).toNat)
 case atStart => exact ⟨256, Nat.le_refl _, rfl, hE5⟩
 case round =>
  clear hE5
  obtain ⟨K, hK, rfl, hE0⟩ := hrel
  have hX : (powL mulF l bit (256 - K)).length = 5 := (Hok.out _).1
  cases K with
  | zero =>
   repeat ((fail_if_success refine sqx ?_); go_step)
   refine mqA ?_
   refine wqv (v_geqI rfl rfl rfl) ?_
   repeat ((fail_if_success refine sqx ?_); go_step)
   refine wqv (vqL 0 5 hE0 Tryz.underlying53) ?_
   refine wl_step (sqS 1 5 hE0 ?_)
   intro w1 hE1
   clear hE0
   simp only [qpB, qpC] at hE1
   simp only [qZ]
   repeat ((fail_if_success refine sqx ?_); go_step)
   refine bodyPost_ret (results_cell_row rfl _ _ _ _ _ (0, 0) _ rfl (hE1.get (i := 1) rfl) Tryz.underlying53 rfl (szqA (n := 5))) rfl ⟨rfl, hE1.below⟩
  | succ j =>
   have hj : ((j + 1 : Nat) : Int) - 1 = (j : Int) := by omega
   rw [hj]
   clear hj
   have hk1 : 256 - (j + 1) = 255 - j := by omega
   rw [hk1] at hE0 hX
   have hk2 : 256 - j = (255 - j) + 1 := by omega
   have hbj : 255 - (255 - j) = j := by omega
   have hnext : powL mulF l bit (256 - j) = if bit j then mulF (mulF (powL mulF l bit (255 - j)) (powL mulF l bit (255 - j))) l else mulF (powL mulF l bit (255 - j)) (powL mulF l bit (255 - j)) := by
    rw [hk2, powL, hbj]
   have hXF := Hok.out (255 - j)
   obtain ⟨X, hXe⟩ : ∃ X, X = powL mulF l bit (255 - j) := ⟨_, rfl⟩
   rw [← hXe] at hE0 hX hXF hnext
   have hM1 := (Hmul.out _ _ hXF hXF).1
   have hM2 := (Hmul.out _ _ hM1 Hl.out).1
   have Hg1 := Lib.hid (Hgiv.out _ _ hXF hXF)
   have Hg2 := Lib.hid (Hgiv.out _ _ hM1 Hl.out)
   have hl1 := hM1.1
   have hl2 := hM2.1
   obtain ⟨Y, hY⟩ : ∃ Y, Y = mulF X X := ⟨_, rfl⟩
   rw [← hY] at Hg1 Hg2 hl1 hl2 hnext
   obtain ⟨Z, hZ⟩ : ∃ Z, Z = mulF Y l := ⟨_, rfl⟩
   rw [← hZ] at Hg2 hl2 hnext
   have hb := fun w hw => Hbit.out j w (by omega) hw
   obtain ⟨bb, hbb⟩ : ∃ b, b = bit j := ⟨_, rfl⟩
   rw [← hbb] at hb hnext
   have Hb := Lib.hid hb
   have Hn := Lib.hid hnext
   clear hM1 hM2 hY hZ hbb hb hnext hXF hXe hk1 hk2 hbj
   cases bb
   ·have Hn0 : Hid (powL mulF l bit (256 - j) = Y) := Lib.hid (by have := Hn.out; simpa using this)
    repeat ((fail_if_success refine sqx ?_); go_step)
    refine mqA ?_
    refine wqv (v_geqI rfl rfl rfl) ?_
    repeat ((fail_if_success refine sqx ?_); go_step)
    refine wqv (vqL 0 5 hE0 Tryz.underlying53) ?_
    refine wqv (vqL 0 5 hE0 Tryz.underlying53) ?_
    refine wl_step (st_gives hE0 rfl (run_call rfl Tryz.call55) (Hg1.out _) ?_)
    intro w1 hb1 hE1
    clear hE0
    simp only [qZ]
    refine wl_step (sqS 0 5 hE1 ?_)
    intro w2 hE2
    clear hE1
    simp only [qpB, qpC] at hE2
    simp only [qZ]
    repeat ((fail_if_success refine sqx ?_); go_step)
    refine mqA ?_
    refine mqA ?_
    refine wl_step (st_gives hE2 rfl (run_callValue rfl rfl Hcf.out) (Hb.out _ (Hst.out _ _ hE2.below HS.out)) ?_)
    intro w3 hb3 hE3
    clear hE2
    simp only [qZ]
    repeat ((fail_if_success refine sqy ?_); go_step)
    refine cqF ?_
    skip
    repeat ((fail_if_success refine sqx ?_); go_step)
    refine mqA ?_
    refine wqv (v_sub (n := 1) rfl rfl rfl (by first | exact w_i64s (by omega) (by omega) | exact w_i64I (by omega) (by omega))) ?_
    refine mqB ?_
    go_wp2
    go_roundw
    case rel => exact ⟨j, by omega, rfl, by rw [Hn0.out]; exact hE3⟩
    case measure => simp [intOf]
   ·have Hn0 : Hid (powL mulF l bit (256 - j) = Z) := Lib.hid (by have := Hn.out; simpa using this)
    repeat ((fail_if_success refine sqx ?_); go_step)
    refine mqA ?_
    refine wqv (v_geqI rfl rfl rfl) ?_
    repeat ((fail_if_success refine sqx ?_); go_step)
    refine wqv (vqL 0 5 hE0 Tryz.underlying53) ?_
    refine wqv (vqL 0 5 hE0 Tryz.underlying53) ?_
    refine wl_step (st_gives hE0 rfl (run_call rfl Tryz.call55) (Hg1.out _) ?_)
    intro w1 hb1 hE1
    clear hE0
    simp only [qZ]
    refine wl_step (sqS 0 5 hE1 ?_)
    intro w2 hE2
    clear hE1
    simp only [qpB, qpC] at hE2
    simp only [qZ]
    repeat ((fail_if_success refine sqx ?_); go_step)
    refine mqA ?_
    refine mqA ?_
    refine wl_step (st_gives hE2 rfl (run_callValue rfl rfl Hcf.out) (Hb.out _ (Hst.out _ _ hE2.below HS.out)) ?_)
    intro w3 hb3 hE3
    clear hE2
    simp only [qZ]
    repeat ((fail_if_success refine sqy ?_); go_step)
    refine cqT ?_
    skip
    repeat ((fail_if_success refine sqx ?_); go_step)
    refine wqv (vqL 0 5 hE3 Tryz.underlying53) ?_
    refine wqv (vqL 2 5 hE3 Tryz.underlying53) ?_
    refine wl_step (st_gives hE3 rfl (run_call rfl Tryz.call55) (Hg2.out _) ?_)
    intro w4 hb4 hE4
    clear hE3
    simp only [qZ]
    refine wl_step (sqS 0 5 hE4 ?_)
    intro w5 hE5
    clear hE4
    simp only [qpB, qpC] at hE5
    simp only [qZ]
    repeat ((fail_if_success refine sqx ?_); go_step)
    refine mqA ?_
    refine wqv (v_sub (n := 1) rfl rfl rfl (by first | exact w_i64s (by omega) (by omega) | exact w_i64I (by omega) (by omega))) ?_
    refine mqB ?_
    go_wp2
    go_roundw
    case rel => exact ⟨j, by omega, rfl, by rw [Hn0.out]; exact hE5⟩
    case measure => simp [intOf]
theorem power_any {l : List Nat} (hl : Fe l) (bit : Nat → Bool) :
  ∃ c, Fe c ∧ fval c % pN = fval l ^ bitsVal bit 256 % pN ∧ ∀ (v : Value) (S : World → Prop), (∀ W w1 : World, Below W.heap.size W w1 → S W → S w1) → TellsBits v bit S → ∀ w, S w → Gives 92 #[elem l, v] w (elem c) := by
 obtain ⟨mulF, h⟩ := Mul_fun
 have hmul := fun l m hl hm => (⟨(h l m hl hm).1, (h l m hl hm).2.1⟩ : Fe (mulF l m) ∧ fval (mulF l m) % pN = fval l * fval m % pN)
 obtain ⟨h1, h2⟩ := powL_ok hmul hl bit 256
 exact ⟨_, h1, h2, fun v S hst hv => power_walk hmul (fun l m hl hm => (h l m hl hm).2.2) hl hst hv⟩
end Go.Proofs.YthddoelflmoedaaGreat
namespace Go.Proofs.YthddoelflmoedaaGreat
open Go.RowKit
set_option maxRecDepth 100000

theorem results_ct {P : Program} {fn : Func} {p s : Tmp} {ty : TypeId} (h : fn.results = #[.cell p ty, .tmp s]) (tmps : Array Value) (w : World) (g : Nat) (t : TypeId) (cs : Array Value) (fr : Nat × Nat) (d : TypeDesc) {v : Value}
  (hp : tmps.getD p undef = .pointer (some ⟨g, 0, none⟩)) (hg : w.heap[g]? = some (.cells cs t fr))
  (hu : P.underlying ty = some d) (hd : (match d with | .struct _ | .array _ _ => true | _ => false) = true) (hi : (P.info? ty).map (·.size) = some cs.size) (hv : tmps.getD s undef = v) :
  (results fn tmps).run P w = .ok (.tuple #[.agg cs, v]) w := by
 have hp' : tmps[p]?.getD undef = .pointer (some ⟨g, 0, none⟩) := by simpa using hp
 have hv' : tmps[s]?.getD undef = v := by simpa using hv
 simp [results, h, hp', hv', asAddr, run_loadVar_row w g t ty cs fr d hg hu hd hi]

end Go.Proofs.YthddoelflmoedaaGreat
namespace Go.Proofs.YthddoelflmoedaaGreat
open Go.RowKit
set_option maxRecDepth 100000

def invBit (i : Nat) : Bool := decide (i < 255) && decide (i ≠ 2) && decide (i ≠ 4)
def rootBit (i : Nat) : Bool := decide (i < 252) && decide (i ≠ 1)
theorem invBit_val : bitsVal invBit 256 = pN - 2 := by kernel_rfl
theorem rootBit_val : bitsVal rootBit 256 = (pN - 5) / 8 := by kernel_rfl

set_option maxHeartbeats 1000000 in
theorem invBit_any (i : Nat) (hi : i < 256) (w : World) : Gives 93 #[.int .i64 (i : Int)] w (.bool (invBit i)) := by
 by_cases h1 : i < 255
 ·by_cases h2 : i = 2
  ·subst h2
   have hE0 := Env.nil w
   go_enter Tryz.func93, Tryz.ntmps93
   repeat ((fail_if_success refine sqx ?_); go_step)
   refine mqC ?_
   repeat ((fail_if_success refine sqx ?_); go_step)
   refine mqA ?_
   refine wqv (v_lss (n := 255) rfl rfl rfl) ?_
   refine mqA ?_
   refine mqA ?_
   refine wqv (v_neq (n := 2) rfl rfl rfl) ?_
   refine wqv (v_and rfl rfl (fun _ => rfl)) ?_
   refine mqA ?_
   refine wl_step (st_skip rfl ?_)
   simp only [qZ]
   refine wl_step (st_skip rfl ?_)
   simp only [qZ]
   refine wqv (v_andF rfl rfl) ?_
   refine mqB ?_
   repeat ((fail_if_success refine sqx ?_); go_step)
   go_returns
   exact ⟨rfl, hE0.below⟩
  ·have hd1 := Lib.hid (decide_eq_true h1)
   have hd2 := Lib.hid (decide_eq_true (show i ≠ 2 from h2))
   have hE0 := Env.nil w
   go_enter Tryz.func93, Tryz.ntmps93
   repeat ((fail_if_success refine sqx ?_); go_step)
   refine mqC ?_
   repeat ((fail_if_success refine sqx ?_); go_step)
   refine mqA ?_
   refine wqv (v_lss (n := 255) rfl rfl rfl) ?_
   rw [hd1.out]
   refine mqA ?_
   refine mqA ?_
   refine wqv (v_neq (n := 2) rfl rfl rfl) ?_
   rw [hd2.out]
   refine wqv (v_and rfl rfl (fun _ => rfl)) ?_
   refine mqA ?_
   refine mqA ?_
   refine wqv (v_neq (n := 4) rfl rfl rfl) ?_
   refine wqv (v_and rfl rfl (fun _ => rfl)) ?_
   refine mqB ?_
   repeat ((fail_if_success refine sqx ?_); go_step)
   go_returns
   exact ⟨by unfold invBit; rw [hd1.out, hd2.out]; rfl, hE0.below⟩
 ·have hd1 := Lib.hid (decide_eq_false h1)
  have hE0 := Env.nil w
  go_enter Tryz.func93, Tryz.ntmps93
  repeat ((fail_if_success refine sqx ?_); go_step)
  refine mqC ?_
  repeat ((fail_if_success refine sqx ?_); go_step)
  refine mqA ?_
  refine wqv (v_lss (n := 255) rfl rfl rfl) ?_
  rw [hd1.out]
  refine mqA ?_
  refine wl_step (st_skip rfl ?_)
  simp only [qZ]
  refine wl_step (st_skip rfl ?_)
  simp only [qZ]
  refine wqv (v_andF rfl rfl) ?_
  refine mqA ?_
  refine wl_step (st_skip rfl ?_)
  simp only [qZ]
  refine wl_step (st_skip rfl ?_)
  simp only [qZ]
  refine wqv (v_andF rfl rfl) ?_
  refine mqB ?_
  repeat ((fail_if_success refine sqx ?_); go_step)
  go_returns
  exact ⟨by unfold invBit; rw [hd1.out]; rfl, hE0.below⟩
set_option maxHeartbeats 1000000 in
theorem rootBit_any (i : Nat) (hi : i < 256) (w : World) : Gives 109 #[.int .i64 (i : Int)] w (.bool (rootBit i)) := by
 by_cases h1 : i < 252
 ·have hd1 := Lib.hid (decide_eq_true h1)
  have hE0 := Env.nil w
  go_enter Tryz.func109, Tryz.ntmps109
  repeat ((fail_if_success refine sqx ?_); go_step)
  refine mqC ?_
  repeat ((fail_if_success refine sqx ?_); go_step)
  refine mqA ?_
  refine wqv (v_lss (n := 252) rfl rfl rfl) ?_
  rw [hd1.out]
  refine mqA ?_
  refine mqA ?_
  refine wqv (v_neq (n := 1) rfl rfl rfl) ?_
  refine wqv (v_and rfl rfl (fun _ => rfl)) ?_
  refine mqB ?_
  repeat ((fail_if_success refine sqx ?_); go_step)
  go_returns
  exact ⟨by unfold rootBit; rw [hd1.out]; rfl, hE0.below⟩
 ·have hd1 := Lib.hid (decide_eq_false h1)
  have hE0 := Env.nil w
  go_enter Tryz.func109, Tryz.ntmps109
  repeat ((fail_if_success refine sqx ?_); go_step)
  refine mqC ?_
  repeat ((fail_if_success refine sqx ?_); go_step)
  refine mqA ?_
  refine wqv (v_lss (n := 252) rfl rfl rfl) ?_
  rw [hd1.out]
  refine mqA ?_
  refine wl_step (st_skip rfl ?_)
  simp only [qZ]
  refine wl_step (st_skip rfl ?_)
  simp only [qZ]
  refine wqv (v_andF rfl rfl) ?_
  refine mqB ?_
  repeat ((fail_if_success refine sqx ?_); go_step)
  go_returns
  exact ⟨by unfold rootBit; rw [hd1.out]; rfl, hE0.below⟩
theorem powFun_any {l : List Nat} (hl : Fe l) {f : Nat} {bit : Nat → Bool} (hc : ∀ (args : Array Value) (w : World), (callFunc f args).run Tryz.prog w = .ok (.enter f args) w) (hb : ∀ i : Nat, i < 256 → ∀ w, Gives f #[.int .i64 (i : Int)] w (.bool (bit i))) :
  ∃ c, Fe c ∧ fval c % pN = fval l ^ bitsVal bit 256 % pN ∧ ∀ w, Gives 92 #[elem l, .func (.func f) #[] #[]] w (elem c) := by
 obtain ⟨c, h1, h2, h3⟩ := power_any hl bit
 exact ⟨c, h1, h2, fun w => h3 _ (fun _ => True) (fun _ _ _ _ => trivial) ⟨f, #[], #[], rfl, hc, fun i w hi _ => hb i hi w⟩ w trivial⟩
set_option maxHeartbeats 1000000 in
theorem Invert_any {l : List Nat} (hl : Fe l) : ∃ c, Fe c ∧ fval c % pN = fval l ^ (pN - 2) % pN ∧ ∀ w, Gives 54 #[elem l] w (elem c) := by
 obtain ⟨c, h1, h2, h3⟩ := powFun_any hl Tryz.call93 invBit_any
 refine ⟨c, h1, by rw [h2, invBit_val], fun w => ?_⟩
 have Hp := Lib.hid h3
 have hl5 := hl.1
 have hc5 := h1.1
 clear h3 h2 h1 hl
 have hE0 := Env.nil w
 go_enter Tryz.func54, Tryz.ntmps54
 repeat ((fail_if_success refine sqx ?_); go_step)
 refine wl_step (st_boxA hE0 rfl rfl rfl ?_)
 intro g0 w1 hb1 hE1
 clear hE0
 simp only [qZ]
 refine wl_step (sqA (ints .u64 (List.replicate 5 0)) hE1 ?_)
 intro g1 w2 hb2 hE2
 clear hE1
 simp only [qZ]
 repeat ((fail_if_success refine sqx ?_); go_step)
 refine wqv (vqL 1 5 hE2 Tryz.underlying53) ?_
 refine wl_step (st_gives hE2 rfl (run_call rfl Tryz.call92) (Hp.out _) ?_)
 intro w3 hb3 hE3
 clear hE2
 simp only [qZ]
 refine wl_step (sqS 0 5 hE3 ?_)
 intro w4 hE4
 clear hE3
 simp only [qpB, qpC] at hE4
 simp only [qZ]
 repeat ((fail_if_success refine sqx ?_); go_step)
 refine bodyPost_ret (results_cell_row rfl _ _ _ _ _ (0, 0) _ rfl (hE4.get (i := 0) rfl) Tryz.underlying53 rfl (szqA (n := 5))) rfl ⟨rfl, hE4.below⟩

def unitB : List Nat := [0xb0, 0xa0, 0x0e, 0x4a, 0x27, 0x1b, 0xee, 0xc4, 0x78, 0xe4, 0x2f, 0xad, 0x06, 0x18, 0x43, 0x2f, 0xa7, 0xd7, 0xfb, 0x3d, 0x99, 0x00, 0x4d, 0x2b, 0x0b, 0xdf, 0xc1, 0x4f, 0x80, 0x24, 0x83, 0x2b]
def unitN : Nat := val 256 unitB
theorem unitN_lt : unitN < pN := of_decide_eq_true (by kernel_rfl)
set_option maxHeartbeats 1000000 in
theorem unit_any : ∃ c, Fe c ∧ fval c = unitN ∧ ∀ w, Gives 111 #[] w (elem c) := by
 refine ⟨_, digs_Fe unitN, by rw [digs_fval, Nat.mod_eq_of_lt (Nat.lt_trans unitN_lt (by decide))], fun w => ?_⟩
 have hO := Lib.hid (fun w => Of_any unitB rfl (by unfold Digs unitB; decide) w)
 have hdl : (digs 2251799813685248 5 unitN).length = 5 := digs_length _ _ _
 have hE0 := Env.nil w
 go_enter Tryz.func111, Tryz.ntmps111
 repeat ((fail_if_success refine sqx ?_); go_step)
 refine wl_step (sqA (ints .u64 (List.replicate 5 0)) hE0 ?_)
 intro g0 w1 hb1 hE1
 clear hE0
 simp only [qZ]
 repeat ((fail_if_success refine sqx ?_); go_step)
 refine wqv (v_built (k := .u8) (l := unitB) rfl (fun w => by kernel_rfl)) ?_
 refine wl_step (st_gives hE1 rfl (run_call rfl Tryz.call49) (hO.out _) ?_)
 intro w2 hb2 hE2
 clear hE1
 simp only [qZ]
 refine wl_step (sqS 0 5 hE2 ?_)
 intro w3 hE3
 clear hE2
 simp only [qpB, qpC] at hE3
 simp only [qZ]
 repeat ((fail_if_success refine sqx ?_); go_step)
 refine bodyPost_ret (results_cell_row rfl _ _ _ _ _ (0, 0) _ rfl (hE3.get (i := 0) rfl) Tryz.underlying53 rfl (szqA (n := 5))) rfl ⟨rfl, hE3.below⟩
end Go.Proofs.YthddoelflmoedaaGreat
namespace Go.Proofs.YthddoelflmoedaaGreat
open Go.RowKit
set_option maxRecDepth 100000

def rootR (U V : Nat) : Nat := U * V ^ 3 * (U * V ^ 7) ^ ((pN - 5) / 8) % pN
def evenN (r : Nat) : Nat := if r % 2 = 1 then (pN - r) % pN else r
def rootN (U V : Nat) : Nat × Bool :=
 if V % pN = 0 then (0, false)
 else if V * rootR U V * rootR U V % pN = U % pN then (evenN (rootR U V), true)
 else if V * rootR U V * rootR U V % pN = (pN - U % pN) % pN then (evenN (rootR U V * unitN % pN), true)
 else (0, false)

theorem mod_mul_l {a b c n : Nat} (h : a % n = b % n) : a * c % n = b * c % n := by rw [Nat.mul_mod, h, ← Nat.mul_mod]
theorem mod_mul_r {a b c n : Nat} (h : a % n = b % n) : c * a % n = c * b % n := by rw [Nat.mul_comm, mod_mul_l h, Nat.mul_comm]
theorem mod_mul2 {a b c d n : Nat} (h : a % n = b % n) (h' : c % n = d % n) : a * c % n = b * d % n := (mod_mul_l h).trans (mod_mul_r h')
theorem mod_pow {a b n : Nat} (h : a % n = b % n) : ∀ k, a ^ k % n = b ^ k % n
 | 0 => rfl
 | k + 1 => by rw [Nat.pow_succ, Nat.pow_succ]; exact mod_mul2 (mod_pow h k) h

set_option maxRecDepth 100000 in
set_option maxHeartbeats 8000000 in
theorem Root_any {u v : List Nat} (hu : Fe u) (hv : Fe v) : ∃ c, Fe c ∧ fval c % pN = (rootN (fval u) (fval v)).1 ∧ ∀ w, Gives 71 #[elem u, elem v] w (.tuple #[elem c, .bool (rootN (fval u) (fval v)).2]) := by
 obtain ⟨c1, f1, e1, G1⟩ := Mul_any hv hv
 obtain ⟨cube, f2, e2, G2⟩ := Mul_any f1 hv
 obtain ⟨c3, f3, e3, G3⟩ := Mul_any f2 f2
 obtain ⟨sev, f4, e4, G4⟩ := Mul_any f3 hv
 obtain ⟨c5, f5, e5, G5⟩ := Mul_any hu f2
 obtain ⟨c6, f6, e6, G6⟩ := Mul_any hu f4
 obtain ⟨c7, f7, e7, G7⟩ := powFun_any f6 Tryz.call109 rootBit_any
 obtain ⟨r, f8, e8, G8⟩ := Mul_any f5 f7
 obtain ⟨c9, f9, e9, G9⟩ := Mul_any hv f8
 obtain ⟨fo, f10, e10, G10⟩ := Mul_any f9 f8
 obtain ⟨nu, f11, e11, G11⟩ := Neg_any hu
 obtain ⟨un, f12, e12, G12⟩ := unit_any
 obtain ⟨ru, f13, e13, G13⟩ := Mul_any f8 f12
 have Z := fun w => Zero_any hv w
 have S1 := fun w => Same_any f10 hu w
 have S2 := fun w => Same_any f10 f11 w
 -- the numbers
 have n2 : fval cube % pN = fval v ^ 3 % pN := by rw [e2, mod_mul_l (b := fval v * fval v) e1]; simp only [Nat.pow_succ, Nat.pow_zero, Nat.one_mul]
 have n4 : fval sev % pN = fval v ^ 7 % pN := by
  rw [e4, mod_mul_l (b := fval v ^ 3 * fval v ^ 3) (e3.trans (mod_mul2 n2 n2)), ← Nat.pow_add, ← Nat.pow_succ]
 have n8 : fval r % pN = rootR (fval u) (fval v) := by
  rw [e8, rootR, ← rootBit_val]
  exact mod_mul2 (e5.trans (mod_mul_r n2)) (e7.trans (mod_pow (e6.trans (mod_mul_r n4)) _))
 have n10 : fval fo % pN = fval v * rootR (fval u) (fval v) * rootR (fval u) (fval v) % pN := by
  have hr : fval r % pN = rootR (fval u) (fval v) % pN := by rw [← n8, Nat.mod_mod]
  rw [e10]
  exact mod_mul2 (e9.trans (mod_mul_r hr)) hr
 have n13 : fval ru % pN = rootR (fval u) (fval v) * unitN % pN := by
  rw [e13, e12]
  exact mod_mul_l (by rw [← n8, Nat.mod_mod])
 rw [n10, e11] at S2
 rw [n10] at S1
 have O8 := fun w => Odd_any f8 w
 have O13 := fun w => Odd_any f13 w
 obtain ⟨n8c, g8, q8, Q8⟩ := Neg_any f8
 obtain ⟨n13c, g13, q13, Q13⟩ := Neg_any f13
 rw [n8] at O8 q8
 rw [n13] at O13 q13
 have hr8 : rootR (fval u) (fval v) % pN = rootR (fval u) (fval v) := by rw [← n8, Nat.mod_mod]
 have lu := hu.1
 have lq8 := g8.1
 have lq13 := g13.1
 have lv := hv.1
 have l2 := f2.1
 have l4 := f4.1
 have l8 := f8.1
 have l10 := f10.1
 have l13 := f13.1
 have H1 := Lib.hid G1
 have H2 := Lib.hid G2
 have H3 := Lib.hid G3
 have H4 := Lib.hid G4
 have H5 := Lib.hid G5
 have H6 := Lib.hid G6
 have H7 := Lib.hid G7
 have H8 := Lib.hid G8
 have H9 := Lib.hid G9
 have H10 := Lib.hid G10
 have H11 := Lib.hid G11
 have H12 := Lib.hid G12
 have H13 := Lib.hid G13
 have HZ := Lib.hid Z
 have HS1 := Lib.hid S1
 have HS2 := Lib.hid S2
 have N8 := Lib.hid n8
 have N13 := Lib.hid n13
 have HO8 := Lib.hid O8
 have HO13 := Lib.hid O13
 have HQ8 := Lib.hid Q8
 have HQ13 := Lib.hid Q13
 have q8' := Lib.hid q8
 have q13' := Lib.hid q13
 have F8 := Lib.hid f8
 have F13 := Lib.hid f13
 have K8 := Lib.hid g8
 have K13 := Lib.hid g13
 clear O8 O13 Q8 Q13 q8 q13 f8 f13 g8 g13 hr8
 obtain ⟨U, hU⟩ : ∃ U, U = fval u := ⟨_, rfl⟩
 obtain ⟨V, hV⟩ : ∃ V, V = fval v := ⟨_, rfl⟩
 rw [← hU, ← hV] at HS1 HS2 N8 N13 HO8 HO13 q8' q13' ⊢
 rw [← hV] at HZ
 clear G1 G2 G3 G4 G5 G6 G7 G8 G9 G10 G11 G12 G13 Z S1 S2 e1 e2 e3 e4 e5 e6 e7 e8 e9 e10 e11 e12 e13 n2 n4 n8 n10 n13 f1 f2 f3 f4 f5 f6 f7 f9 f10 f11 f12 hu hv hU hV
 obtain ⟨A, hA⟩ : ∃ A, A = V * rootR U V * rootR U V % pN := ⟨_, rfl⟩
 have hroot : rootN U V = if V % pN = 0 then (0, false) else if A = U % pN then (evenN (rootR U V), true) else if A = (pN - U % pN) % pN then (evenN (rootR U V * unitN % pN), true) else (0, false) := by rw [rootN, ← hA]
 rw [← hA] at HS1 HS2
 clear hA
 have Hroot := Lib.hid hroot
 clear hroot
 by_cases hz : V % pN = 0
 ·have hr : rootN U V = (0, false) := by rw [Hroot.out, if_pos hz]
  rw [hr]
  refine ⟨List.replicate 5 0, Fe_zero, by rw [show fval (List.replicate 5 0) = 0 from val_replicate _ _]; rfl, fun w => ?_⟩
  rw [decide_eq_true hz] at HZ
  clear Hroot hr HS1 HS2 hz
  have hE0 := Env.nil w
  go_enter Tryz.func71, Tryz.ntmps71
  repeat ((fail_if_success refine sqx ?_); go_step)
  refine wl_step (st_boxA hE0 rfl rfl rfl ?_)
  intro g0 w1 hb1 hE1
  clear hE0
  simp only [qZ]
  refine wl_step (st_boxA hE1 rfl rfl rfl ?_)
  intro g1 w2 hb2 hE2
  clear hE1
  simp only [qZ]
  refine wl_step (sqA (ints .u64 (List.replicate 5 0)) hE2 ?_)
  intro g2 w3 hb3 hE3
  clear hE2
  simp only [qZ]
  refine mqC ?_
  repeat ((fail_if_success refine sqx ?_); go_step)
  refine wp_region_env 6 (by kernel_rfl) (by kernel_rfl) (fun _ _ d _ _ h => by cases d <;> exact h) hE3 ?_
  refine hqv (fun _ hW => (vqL 1 5 hW Tryz.underlying53)) ?_
  refine hqv (fun _ hW => (vqL 1 5 hW Tryz.underlying53)) ?_
  refine headRun_call (fun w1 => run_call rfl Tryz.call55) (fun w1 hW => H1.out _) ?_
  simp only [qZ]
  refine hqv (fun _ hW => (vqL 1 5 hW Tryz.underlying53)) ?_
  refine headRun_call (fun w1 => run_call rfl Tryz.call55) (fun w1 hW => H2.out _) ?_
  simp only [qZ]
  refine headRun_alloc (zs := ints .u64 (List.replicate 5 0)) rfl rfl (fun w => by kernel_rfl) ?_
  simp only [qZ]
  refine headRun_nil (endK1 ?_)
  intro g3 w4 hE4
  clear hE3
  simp only [List.drop_succ_cons, List.drop_zero, Act.put, qpA, qpB, qpC]
  refine wl_step (sqS 0 5 hE4 ?_)
  intro w5 hE5
  clear hE4
  simp only [qpB, qpC] at hE5
  simp only [qZ]
  repeat ((fail_if_success refine sqx ?_); go_step)
  refine wp_region_env 6 (by kernel_rfl) (by kernel_rfl) (fun _ _ d _ _ h => by cases d <;> exact h) hE5 ?_
  refine hqv (fun _ hW => (vqL 0 5 hW Tryz.underlying53)) ?_
  refine hqv (fun _ hW => (vqL 0 5 hW Tryz.underlying53)) ?_
  refine headRun_call (fun w1 => run_call rfl Tryz.call55) (fun w1 hW => H3.out _) ?_
  simp only [qZ]
  refine hqv (fun _ hW => (vqL 2 5 hW Tryz.underlying53)) ?_
  refine headRun_call (fun w1 => run_call rfl Tryz.call55) (fun w1 hW => H4.out _) ?_
  simp only [qZ]
  refine headRun_alloc (zs := ints .u64 (List.replicate 5 0)) rfl rfl (fun w => by kernel_rfl) ?_
  simp only [qZ]
  refine headRun_nil (endK1 ?_)
  intro g4 w6 hE6
  clear hE5
  simp only [List.drop_succ_cons, List.drop_zero, Act.put, qpA, qpB, qpC]
  refine wl_step (sqS 0 5 hE6 ?_)
  intro w7 hE7
  clear hE6
  simp only [qpB, qpC] at hE7
  simp only [qZ]
  repeat ((fail_if_success refine sqx ?_); go_step)
  refine wp_region_env 9 (by kernel_rfl) (by kernel_rfl) (fun _ _ d _ _ h => by cases d <;> exact h) hE7 ?_
  refine hqv (fun _ hW => (vqL 4 5 hW Tryz.underlying53)) ?_
  refine hqv (fun _ hW => (vqL 1 5 hW Tryz.underlying53)) ?_
  refine headRun_call (fun w1 => run_call rfl Tryz.call55) (fun w1 hW => H5.out _) ?_
  simp only [qZ]
  refine hqv (fun _ hW => (vqL 4 5 hW Tryz.underlying53)) ?_
  refine hqv (fun _ hW => (vqL 0 5 hW Tryz.underlying53)) ?_
  refine headRun_call (fun w1 => run_call rfl Tryz.call55) (fun w1 hW => H6.out _) ?_
  simp only [qZ]
  refine headRun_call (fun w1 => run_call rfl Tryz.call92) (fun w1 hW => H7.out _) ?_
  simp only [qZ]
  refine headRun_call (fun w1 => run_call rfl Tryz.call55) (fun w1 hW => H8.out _) ?_
  simp only [qZ]
  refine headRun_alloc (zs := ints .u64 (List.replicate 5 0)) rfl rfl (fun w => by kernel_rfl) ?_
  simp only [qZ]
  refine headRun_nil (endK1 ?_)
  intro g5 w8 hE8
  clear hE7
  simp only [List.drop_succ_cons, List.drop_zero, Act.put, qpA, qpB, qpC]
  refine wl_step (sqS 0 5 hE8 ?_)
  intro w9 hE9
  clear hE8
  simp only [qpB, qpC] at hE9
  simp only [qZ]
  repeat ((fail_if_success refine sqx ?_); go_step)
  refine wp_region_env 6 (by kernel_rfl) (by kernel_rfl) (fun _ _ d _ _ h => by cases d <;> exact h) hE9 ?_
  refine hqv (fun _ hW => (vqL 4 5 hW Tryz.underlying53)) ?_
  refine hqv (fun _ hW => (vqL 0 5 hW Tryz.underlying53)) ?_
  refine headRun_call (fun w1 => run_call rfl Tryz.call55) (fun w1 hW => H9.out _) ?_
  simp only [qZ]
  refine hqv (fun _ hW => (vqL 0 5 hW Tryz.underlying53)) ?_
  refine headRun_call (fun w1 => run_call rfl Tryz.call55) (fun w1 hW => H10.out _) ?_
  simp only [qZ]
  refine headRun_alloc (zs := ints .u64 (List.replicate 5 0)) rfl rfl (fun w => by kernel_rfl) ?_
  simp only [qZ]
  refine headRun_nil (endK1 ?_)
  intro g6 w10 hE10
  clear hE9
  simp only [List.drop_succ_cons, List.drop_zero, Act.put, qpA, qpB, qpC]
  refine wl_step (sqS 0 5 hE10 ?_)
  intro w11 hE11
  clear hE10
  simp only [qpB, qpC] at hE11
  simp only [qZ]
  repeat ((fail_if_success refine sqx ?_); go_step)
  refine wqv (vqL 5 5 hE11 Tryz.underlying53) ?_
  refine wl_step (st_gives hE11 rfl (run_call rfl Tryz.call75) (HZ.out _) ?_)
  intro w12 hb12 hE12
  clear hE11
  simp only [qZ]
  refine mqB ?_
  repeat ((fail_if_success refine sqy ?_); go_step)
  refine cqT ?_
  skip
  repeat ((fail_if_success refine sqx ?_); go_step)
  refine wqv (v_built (k := .u64) (l := List.replicate 5 0) rfl (fun w => by kernel_rfl)) ?_
  refine wl_step (sqS 4 5 hE12 ?_)
  intro w13 hE13
  clear hE12
  simp only [qpB, qpC] at hE13
  simp only [qZ]
  refine mqC ?_
  repeat ((fail_if_success refine sqx ?_); go_step)
  refine bodyPost_ret (results_ct rfl _ _ _ _ _ (0, 0) _ rfl (hE13.get (i := 4) rfl) Tryz.underlying53 rfl (szqA (n := 5)) rfl) rfl ⟨rfl, hE13.below⟩
 ·rw [decide_eq_false hz] at HZ
  by_cases h1 : A = U % pN
  ·have hr : rootN U V = (evenN (rootR U V), true) := by rw [Hroot.out, if_neg hz, if_pos h1]
   rw [hr]
   rw [decide_eq_true h1] at HS1
   by_cases ho : rootR U V % 2 = 1
   ·refine ⟨n8c, K8.out, by rw [q8'.out]; unfold evenN; rw [if_pos ho], fun w => ?_⟩
    rw [decide_eq_true ho] at HO8
    clear Hroot hr h1 hz ho HS2
    have hE0 := Env.nil w
    go_enter Tryz.func71, Tryz.ntmps71
    repeat ((fail_if_success refine sqx ?_); go_step)
    refine wl_step (st_boxA hE0 rfl rfl rfl ?_)
    intro g0 w1 hb1 hE1
    clear hE0
    simp only [qZ]
    refine wl_step (st_boxA hE1 rfl rfl rfl ?_)
    intro g1 w2 hb2 hE2
    clear hE1
    simp only [qZ]
    refine wl_step (sqA (ints .u64 (List.replicate 5 0)) hE2 ?_)
    intro g2 w3 hb3 hE3
    clear hE2
    simp only [qZ]
    refine mqC ?_
    repeat ((fail_if_success refine sqx ?_); go_step)
    refine wp_region_env 6 (by kernel_rfl) (by kernel_rfl) (fun _ _ d _ _ h => by cases d <;> exact h) hE3 ?_
    refine hqv (fun _ hW => (vqL 1 5 hW Tryz.underlying53)) ?_
    refine hqv (fun _ hW => (vqL 1 5 hW Tryz.underlying53)) ?_
    refine headRun_call (fun w1 => run_call rfl Tryz.call55) (fun w1 hW => H1.out _) ?_
    simp only [qZ]
    refine hqv (fun _ hW => (vqL 1 5 hW Tryz.underlying53)) ?_
    refine headRun_call (fun w1 => run_call rfl Tryz.call55) (fun w1 hW => H2.out _) ?_
    simp only [qZ]
    refine headRun_alloc (zs := ints .u64 (List.replicate 5 0)) rfl rfl (fun w => by kernel_rfl) ?_
    simp only [qZ]
    refine headRun_nil (endK1 ?_)
    intro g3 w4 hE4
    clear hE3
    simp only [List.drop_succ_cons, List.drop_zero, Act.put, qpA, qpB, qpC]
    refine wl_step (sqS 0 5 hE4 ?_)
    intro w5 hE5
    clear hE4
    simp only [qpB, qpC] at hE5
    simp only [qZ]
    repeat ((fail_if_success refine sqx ?_); go_step)
    refine wp_region_env 6 (by kernel_rfl) (by kernel_rfl) (fun _ _ d _ _ h => by cases d <;> exact h) hE5 ?_
    refine hqv (fun _ hW => (vqL 0 5 hW Tryz.underlying53)) ?_
    refine hqv (fun _ hW => (vqL 0 5 hW Tryz.underlying53)) ?_
    refine headRun_call (fun w1 => run_call rfl Tryz.call55) (fun w1 hW => H3.out _) ?_
    simp only [qZ]
    refine hqv (fun _ hW => (vqL 2 5 hW Tryz.underlying53)) ?_
    refine headRun_call (fun w1 => run_call rfl Tryz.call55) (fun w1 hW => H4.out _) ?_
    simp only [qZ]
    refine headRun_alloc (zs := ints .u64 (List.replicate 5 0)) rfl rfl (fun w => by kernel_rfl) ?_
    simp only [qZ]
    refine headRun_nil (endK1 ?_)
    intro g4 w6 hE6
    clear hE5
    simp only [List.drop_succ_cons, List.drop_zero, Act.put, qpA, qpB, qpC]
    refine wl_step (sqS 0 5 hE6 ?_)
    intro w7 hE7
    clear hE6
    simp only [qpB, qpC] at hE7
    simp only [qZ]
    repeat ((fail_if_success refine sqx ?_); go_step)
    refine wp_region_env 9 (by kernel_rfl) (by kernel_rfl) (fun _ _ d _ _ h => by cases d <;> exact h) hE7 ?_
    refine hqv (fun _ hW => (vqL 4 5 hW Tryz.underlying53)) ?_
    refine hqv (fun _ hW => (vqL 1 5 hW Tryz.underlying53)) ?_
    refine headRun_call (fun w1 => run_call rfl Tryz.call55) (fun w1 hW => H5.out _) ?_
    simp only [qZ]
    refine hqv (fun _ hW => (vqL 4 5 hW Tryz.underlying53)) ?_
    refine hqv (fun _ hW => (vqL 0 5 hW Tryz.underlying53)) ?_
    refine headRun_call (fun w1 => run_call rfl Tryz.call55) (fun w1 hW => H6.out _) ?_
    simp only [qZ]
    refine headRun_call (fun w1 => run_call rfl Tryz.call92) (fun w1 hW => H7.out _) ?_
    simp only [qZ]
    refine headRun_call (fun w1 => run_call rfl Tryz.call55) (fun w1 hW => H8.out _) ?_
    simp only [qZ]
    refine headRun_alloc (zs := ints .u64 (List.replicate 5 0)) rfl rfl (fun w => by kernel_rfl) ?_
    simp only [qZ]
    refine headRun_nil (endK1 ?_)
    intro g5 w8 hE8
    clear hE7
    simp only [List.drop_succ_cons, List.drop_zero, Act.put, qpA, qpB, qpC]
    refine wl_step (sqS 0 5 hE8 ?_)
    intro w9 hE9
    clear hE8
    simp only [qpB, qpC] at hE9
    simp only [qZ]
    repeat ((fail_if_success refine sqx ?_); go_step)
    refine wp_region_env 6 (by kernel_rfl) (by kernel_rfl) (fun _ _ d _ _ h => by cases d <;> exact h) hE9 ?_
    refine hqv (fun _ hW => (vqL 4 5 hW Tryz.underlying53)) ?_
    refine hqv (fun _ hW => (vqL 0 5 hW Tryz.underlying53)) ?_
    refine headRun_call (fun w1 => run_call rfl Tryz.call55) (fun w1 hW => H9.out _) ?_
    simp only [qZ]
    refine hqv (fun _ hW => (vqL 0 5 hW Tryz.underlying53)) ?_
    refine headRun_call (fun w1 => run_call rfl Tryz.call55) (fun w1 hW => H10.out _) ?_
    simp only [qZ]
    refine headRun_alloc (zs := ints .u64 (List.replicate 5 0)) rfl rfl (fun w => by kernel_rfl) ?_
    simp only [qZ]
    refine headRun_nil (endK1 ?_)
    intro g6 w10 hE10
    clear hE9
    simp only [List.drop_succ_cons, List.drop_zero, Act.put, qpA, qpB, qpC]
    refine wl_step (sqS 0 5 hE10 ?_)
    intro w11 hE11
    clear hE10
    simp only [qpB, qpC] at hE11
    simp only [qZ]
    repeat ((fail_if_success refine sqx ?_); go_step)
    refine wqv (vqL 5 5 hE11 Tryz.underlying53) ?_
    refine wl_step (st_gives hE11 rfl (run_call rfl Tryz.call75) (HZ.out _) ?_)
    intro w12 hb12 hE12
    clear hE11
    simp only [qZ]
    refine mqB ?_
    repeat ((fail_if_success refine sqy ?_); go_step)
    refine cqF ?_
    skip
    repeat ((fail_if_success refine sqx ?_); go_step)
    refine wqv (vqL 0 5 hE12 Tryz.underlying53) ?_
    refine wqv (vqL 6 5 hE12 Tryz.underlying53) ?_
    refine wl_step (st_gives hE12 rfl (run_call rfl Tryz.call110) (HS1.out _) ?_)
    intro w13 hb13 hE13
    clear hE12
    simp only [qZ]
    refine mqB ?_
    repeat ((fail_if_success refine sqy ?_); go_step)
    refine cqT ?_
    skip
    repeat ((fail_if_success refine sqx ?_); go_step)
    refine wqv (vqL 1 5 hE13 Tryz.underlying53) ?_
    refine wl_step (st_gives hE13 rfl (run_call rfl Tryz.call57) (HO8.out _) ?_)
    intro w14 hb14 hE14
    clear hE13
    simp only [qZ]
    repeat ((fail_if_success refine sqy ?_); go_step)
    refine cqT ?_
    skip
    repeat ((fail_if_success refine sqx ?_); go_step)
    refine wqv (vqL 1 5 hE14 Tryz.underlying53) ?_
    refine wl_step (st_gives hE14 rfl (run_call rfl Tryz.call76) (HQ8.out _) ?_)
    intro w15 hb15 hE15
    clear hE14
    simp only [qZ]
    refine wl_step (sqS 1 5 hE15 ?_)
    intro w16 hE16
    clear hE15
    simp only [qpB, qpC] at hE16
    simp only [qZ]
    repeat ((fail_if_success refine sqx ?_); go_step)
    refine wqv (vqL 1 5 hE16 Tryz.underlying53) ?_
    refine wl_step (sqS 4 5 hE16 ?_)
    intro w17 hE17
    clear hE16
    simp only [qpB, qpC] at hE17
    simp only [qZ]
    refine mqC ?_
    repeat ((fail_if_success refine sqx ?_); go_step)
    refine bodyPost_ret (results_ct rfl _ _ _ _ _ (0, 0) _ rfl (hE17.get (i := 4) rfl) Tryz.underlying53 rfl (szqA (n := 5)) rfl) rfl ⟨rfl, hE17.below⟩
   ·refine ⟨r, F8.out, by rw [N8.out]; unfold evenN; rw [if_neg ho], fun w => ?_⟩
    rw [decide_eq_false ho] at HO8
    clear Hroot hr h1 hz ho HS2
    have hE0 := Env.nil w
    go_enter Tryz.func71, Tryz.ntmps71
    repeat ((fail_if_success refine sqx ?_); go_step)
    refine wl_step (st_boxA hE0 rfl rfl rfl ?_)
    intro g0 w1 hb1 hE1
    clear hE0
    simp only [qZ]
    refine wl_step (st_boxA hE1 rfl rfl rfl ?_)
    intro g1 w2 hb2 hE2
    clear hE1
    simp only [qZ]
    refine wl_step (sqA (ints .u64 (List.replicate 5 0)) hE2 ?_)
    intro g2 w3 hb3 hE3
    clear hE2
    simp only [qZ]
    refine mqC ?_
    repeat ((fail_if_success refine sqx ?_); go_step)
    refine wp_region_env 6 (by kernel_rfl) (by kernel_rfl) (fun _ _ d _ _ h => by cases d <;> exact h) hE3 ?_
    refine hqv (fun _ hW => (vqL 1 5 hW Tryz.underlying53)) ?_
    refine hqv (fun _ hW => (vqL 1 5 hW Tryz.underlying53)) ?_
    refine headRun_call (fun w1 => run_call rfl Tryz.call55) (fun w1 hW => H1.out _) ?_
    simp only [qZ]
    refine hqv (fun _ hW => (vqL 1 5 hW Tryz.underlying53)) ?_
    refine headRun_call (fun w1 => run_call rfl Tryz.call55) (fun w1 hW => H2.out _) ?_
    simp only [qZ]
    refine headRun_alloc (zs := ints .u64 (List.replicate 5 0)) rfl rfl (fun w => by kernel_rfl) ?_
    simp only [qZ]
    refine headRun_nil (endK1 ?_)
    intro g3 w4 hE4
    clear hE3
    simp only [List.drop_succ_cons, List.drop_zero, Act.put, qpA, qpB, qpC]
    refine wl_step (sqS 0 5 hE4 ?_)
    intro w5 hE5
    clear hE4
    simp only [qpB, qpC] at hE5
    simp only [qZ]
    repeat ((fail_if_success refine sqx ?_); go_step)
    refine wp_region_env 6 (by kernel_rfl) (by kernel_rfl) (fun _ _ d _ _ h => by cases d <;> exact h) hE5 ?_
    refine hqv (fun _ hW => (vqL 0 5 hW Tryz.underlying53)) ?_
    refine hqv (fun _ hW => (vqL 0 5 hW Tryz.underlying53)) ?_
    refine headRun_call (fun w1 => run_call rfl Tryz.call55) (fun w1 hW => H3.out _) ?_
    simp only [qZ]
    refine hqv (fun _ hW => (vqL 2 5 hW Tryz.underlying53)) ?_
    refine headRun_call (fun w1 => run_call rfl Tryz.call55) (fun w1 hW => H4.out _) ?_
    simp only [qZ]
    refine headRun_alloc (zs := ints .u64 (List.replicate 5 0)) rfl rfl (fun w => by kernel_rfl) ?_
    simp only [qZ]
    refine headRun_nil (endK1 ?_)
    intro g4 w6 hE6
    clear hE5
    simp only [List.drop_succ_cons, List.drop_zero, Act.put, qpA, qpB, qpC]
    refine wl_step (sqS 0 5 hE6 ?_)
    intro w7 hE7
    clear hE6
    simp only [qpB, qpC] at hE7
    simp only [qZ]
    repeat ((fail_if_success refine sqx ?_); go_step)
    refine wp_region_env 9 (by kernel_rfl) (by kernel_rfl) (fun _ _ d _ _ h => by cases d <;> exact h) hE7 ?_
    refine hqv (fun _ hW => (vqL 4 5 hW Tryz.underlying53)) ?_
    refine hqv (fun _ hW => (vqL 1 5 hW Tryz.underlying53)) ?_
    refine headRun_call (fun w1 => run_call rfl Tryz.call55) (fun w1 hW => H5.out _) ?_
    simp only [qZ]
    refine hqv (fun _ hW => (vqL 4 5 hW Tryz.underlying53)) ?_
    refine hqv (fun _ hW => (vqL 0 5 hW Tryz.underlying53)) ?_
    refine headRun_call (fun w1 => run_call rfl Tryz.call55) (fun w1 hW => H6.out _) ?_
    simp only [qZ]
    refine headRun_call (fun w1 => run_call rfl Tryz.call92) (fun w1 hW => H7.out _) ?_
    simp only [qZ]
    refine headRun_call (fun w1 => run_call rfl Tryz.call55) (fun w1 hW => H8.out _) ?_
    simp only [qZ]
    refine headRun_alloc (zs := ints .u64 (List.replicate 5 0)) rfl rfl (fun w => by kernel_rfl) ?_
    simp only [qZ]
    refine headRun_nil (endK1 ?_)
    intro g5 w8 hE8
    clear hE7
    simp only [List.drop_succ_cons, List.drop_zero, Act.put, qpA, qpB, qpC]
    refine wl_step (sqS 0 5 hE8 ?_)
    intro w9 hE9
    clear hE8
    simp only [qpB, qpC] at hE9
    simp only [qZ]
    repeat ((fail_if_success refine sqx ?_); go_step)
    refine wp_region_env 6 (by kernel_rfl) (by kernel_rfl) (fun _ _ d _ _ h => by cases d <;> exact h) hE9 ?_
    refine hqv (fun _ hW => (vqL 4 5 hW Tryz.underlying53)) ?_
    refine hqv (fun _ hW => (vqL 0 5 hW Tryz.underlying53)) ?_
    refine headRun_call (fun w1 => run_call rfl Tryz.call55) (fun w1 hW => H9.out _) ?_
    simp only [qZ]
    refine hqv (fun _ hW => (vqL 0 5 hW Tryz.underlying53)) ?_
    refine headRun_call (fun w1 => run_call rfl Tryz.call55) (fun w1 hW => H10.out _) ?_
    simp only [qZ]
    refine headRun_alloc (zs := ints .u64 (List.replicate 5 0)) rfl rfl (fun w => by kernel_rfl) ?_
    simp only [qZ]
    refine headRun_nil (endK1 ?_)
    intro g6 w10 hE10
    clear hE9
    simp only [List.drop_succ_cons, List.drop_zero, Act.put, qpA, qpB, qpC]
    refine wl_step (sqS 0 5 hE10 ?_)
    intro w11 hE11
    clear hE10
    simp only [qpB, qpC] at hE11
    simp only [qZ]
    repeat ((fail_if_success refine sqx ?_); go_step)
    refine wqv (vqL 5 5 hE11 Tryz.underlying53) ?_
    refine wl_step (st_gives hE11 rfl (run_call rfl Tryz.call75) (HZ.out _) ?_)
    intro w12 hb12 hE12
    clear hE11
    simp only [qZ]
    refine mqB ?_
    repeat ((fail_if_success refine sqy ?_); go_step)
    refine cqF ?_
    skip
    repeat ((fail_if_success refine sqx ?_); go_step)
    refine wqv (vqL 0 5 hE12 Tryz.underlying53) ?_
    refine wqv (vqL 6 5 hE12 Tryz.underlying53) ?_
    refine wl_step (st_gives hE12 rfl (run_call rfl Tryz.call110) (HS1.out _) ?_)
    intro w13 hb13 hE13
    clear hE12
    simp only [qZ]
    refine mqB ?_
    repeat ((fail_if_success refine sqy ?_); go_step)
    refine cqT ?_
    skip
    repeat ((fail_if_success refine sqx ?_); go_step)
    refine wqv (vqL 1 5 hE13 Tryz.underlying53) ?_
    refine wl_step (st_gives hE13 rfl (run_call rfl Tryz.call57) (HO8.out _) ?_)
    intro w14 hb14 hE14
    clear hE13
    simp only [qZ]
    repeat ((fail_if_success refine sqy ?_); go_step)
    refine cqF ?_
    skip
    repeat ((fail_if_success refine sqx ?_); go_step)
    refine wqv (vqL 1 5 hE14 Tryz.underlying53) ?_
    refine wl_step (sqS 4 5 hE14 ?_)
    intro w15 hE15
    clear hE14
    simp only [qpB, qpC] at hE15
    simp only [qZ]
    refine mqC ?_
    repeat ((fail_if_success refine sqx ?_); go_step)
    refine bodyPost_ret (results_ct rfl _ _ _ _ _ (0, 0) _ rfl (hE15.get (i := 4) rfl) Tryz.underlying53 rfl (szqA (n := 5)) rfl) rfl ⟨rfl, hE15.below⟩
  ·rw [decide_eq_false h1] at HS1
   by_cases h2 : A = (pN - U % pN) % pN
   ·have hr : rootN U V = (evenN (rootR U V * unitN % pN), true) := by rw [Hroot.out, if_neg hz, if_neg h1, if_pos h2]
    rw [hr]
    rw [decide_eq_true h2] at HS2
    by_cases ho : (rootR U V * unitN % pN) % 2 = 1
    ·refine ⟨n13c, K13.out, by rw [q13'.out]; unfold evenN; rw [if_pos ho], fun w => ?_⟩
     rw [decide_eq_true ho] at HO13
     clear Hroot hr h1 hz ho h2
     have hE0 := Env.nil w
     go_enter Tryz.func71, Tryz.ntmps71
     repeat ((fail_if_success refine sqx ?_); go_step)
     refine wl_step (st_boxA hE0 rfl rfl rfl ?_)
     intro g0 w1 hb1 hE1
     clear hE0
     simp only [qZ]
     refine wl_step (st_boxA hE1 rfl rfl rfl ?_)
     intro g1 w2 hb2 hE2
     clear hE1
     simp only [qZ]
     refine wl_step (sqA (ints .u64 (List.replicate 5 0)) hE2 ?_)
     intro g2 w3 hb3 hE3
     clear hE2
     simp only [qZ]
     refine mqC ?_
     repeat ((fail_if_success refine sqx ?_); go_step)
     refine wp_region_env 6 (by kernel_rfl) (by kernel_rfl) (fun _ _ d _ _ h => by cases d <;> exact h) hE3 ?_
     refine hqv (fun _ hW => (vqL 1 5 hW Tryz.underlying53)) ?_
     refine hqv (fun _ hW => (vqL 1 5 hW Tryz.underlying53)) ?_
     refine headRun_call (fun w1 => run_call rfl Tryz.call55) (fun w1 hW => H1.out _) ?_
     simp only [qZ]
     refine hqv (fun _ hW => (vqL 1 5 hW Tryz.underlying53)) ?_
     refine headRun_call (fun w1 => run_call rfl Tryz.call55) (fun w1 hW => H2.out _) ?_
     simp only [qZ]
     refine headRun_alloc (zs := ints .u64 (List.replicate 5 0)) rfl rfl (fun w => by kernel_rfl) ?_
     simp only [qZ]
     refine headRun_nil (endK1 ?_)
     intro g3 w4 hE4
     clear hE3
     simp only [List.drop_succ_cons, List.drop_zero, Act.put, qpA, qpB, qpC]
     refine wl_step (sqS 0 5 hE4 ?_)
     intro w5 hE5
     clear hE4
     simp only [qpB, qpC] at hE5
     simp only [qZ]
     repeat ((fail_if_success refine sqx ?_); go_step)
     refine wp_region_env 6 (by kernel_rfl) (by kernel_rfl) (fun _ _ d _ _ h => by cases d <;> exact h) hE5 ?_
     refine hqv (fun _ hW => (vqL 0 5 hW Tryz.underlying53)) ?_
     refine hqv (fun _ hW => (vqL 0 5 hW Tryz.underlying53)) ?_
     refine headRun_call (fun w1 => run_call rfl Tryz.call55) (fun w1 hW => H3.out _) ?_
     simp only [qZ]
     refine hqv (fun _ hW => (vqL 2 5 hW Tryz.underlying53)) ?_
     refine headRun_call (fun w1 => run_call rfl Tryz.call55) (fun w1 hW => H4.out _) ?_
     simp only [qZ]
     refine headRun_alloc (zs := ints .u64 (List.replicate 5 0)) rfl rfl (fun w => by kernel_rfl) ?_
     simp only [qZ]
     refine headRun_nil (endK1 ?_)
     intro g4 w6 hE6
     clear hE5
     simp only [List.drop_succ_cons, List.drop_zero, Act.put, qpA, qpB, qpC]
     refine wl_step (sqS 0 5 hE6 ?_)
     intro w7 hE7
     clear hE6
     simp only [qpB, qpC] at hE7
     simp only [qZ]
     repeat ((fail_if_success refine sqx ?_); go_step)
     refine wp_region_env 9 (by kernel_rfl) (by kernel_rfl) (fun _ _ d _ _ h => by cases d <;> exact h) hE7 ?_
     refine hqv (fun _ hW => (vqL 4 5 hW Tryz.underlying53)) ?_
     refine hqv (fun _ hW => (vqL 1 5 hW Tryz.underlying53)) ?_
     refine headRun_call (fun w1 => run_call rfl Tryz.call55) (fun w1 hW => H5.out _) ?_
     simp only [qZ]
     refine hqv (fun _ hW => (vqL 4 5 hW Tryz.underlying53)) ?_
     refine hqv (fun _ hW => (vqL 0 5 hW Tryz.underlying53)) ?_
     refine headRun_call (fun w1 => run_call rfl Tryz.call55) (fun w1 hW => H6.out _) ?_
     simp only [qZ]
     refine headRun_call (fun w1 => run_call rfl Tryz.call92) (fun w1 hW => H7.out _) ?_
     simp only [qZ]
     refine headRun_call (fun w1 => run_call rfl Tryz.call55) (fun w1 hW => H8.out _) ?_
     simp only [qZ]
     refine headRun_alloc (zs := ints .u64 (List.replicate 5 0)) rfl rfl (fun w => by kernel_rfl) ?_
     simp only [qZ]
     refine headRun_nil (endK1 ?_)
     intro g5 w8 hE8
     clear hE7
     simp only [List.drop_succ_cons, List.drop_zero, Act.put, qpA, qpB, qpC]
     refine wl_step (sqS 0 5 hE8 ?_)
     intro w9 hE9
     clear hE8
     simp only [qpB, qpC] at hE9
     simp only [qZ]
     repeat ((fail_if_success refine sqx ?_); go_step)
     refine wp_region_env 6 (by kernel_rfl) (by kernel_rfl) (fun _ _ d _ _ h => by cases d <;> exact h) hE9 ?_
     refine hqv (fun _ hW => (vqL 4 5 hW Tryz.underlying53)) ?_
     refine hqv (fun _ hW => (vqL 0 5 hW Tryz.underlying53)) ?_
     refine headRun_call (fun w1 => run_call rfl Tryz.call55) (fun w1 hW => H9.out _) ?_
     simp only [qZ]
     refine hqv (fun _ hW => (vqL 0 5 hW Tryz.underlying53)) ?_
     refine headRun_call (fun w1 => run_call rfl Tryz.call55) (fun w1 hW => H10.out _) ?_
     simp only [qZ]
     refine headRun_alloc (zs := ints .u64 (List.replicate 5 0)) rfl rfl (fun w => by kernel_rfl) ?_
     simp only [qZ]
     refine headRun_nil (endK1 ?_)
     intro g6 w10 hE10
     clear hE9
     simp only [List.drop_succ_cons, List.drop_zero, Act.put, qpA, qpB, qpC]
     refine wl_step (sqS 0 5 hE10 ?_)
     intro w11 hE11
     clear hE10
     simp only [qpB, qpC] at hE11
     simp only [qZ]
     repeat ((fail_if_success refine sqx ?_); go_step)
     refine wqv (vqL 5 5 hE11 Tryz.underlying53) ?_
     refine wl_step (st_gives hE11 rfl (run_call rfl Tryz.call75) (HZ.out _) ?_)
     intro w12 hb12 hE12
     clear hE11
     simp only [qZ]
     refine mqB ?_
     repeat ((fail_if_success refine sqy ?_); go_step)
     refine cqF ?_
     skip
     repeat ((fail_if_success refine sqx ?_); go_step)
     refine wqv (vqL 0 5 hE12 Tryz.underlying53) ?_
     refine wqv (vqL 6 5 hE12 Tryz.underlying53) ?_
     refine wl_step (st_gives hE12 rfl (run_call rfl Tryz.call110) (HS1.out _) ?_)
     intro w13 hb13 hE13
     clear hE12
     simp only [qZ]
     refine mqB ?_
     repeat ((fail_if_success refine sqy ?_); go_step)
     refine cqF ?_
     skip
     repeat ((fail_if_success refine sqx ?_); go_step)
     refine wp_region_B (n := 5) 4 (by kernel_rfl) rfl hE13 ?_
     intro w14 hb14 hE14
     clear hE13
     refine tqB 0 rfl (vqL 0 5 hE14 Tryz.underlying53) ?_
     refine tqB 1 rfl (vqL 6 5 hE14 Tryz.underlying53) ?_
     refine sqB 2 rfl (st_gives hE14 rfl (run_call rfl Tryz.call76) (H11.out _) ?_)
     intro w15 hb15 hE15
     clear hE14
     refine ⟨fun _ => hb15, ?_⟩
     simp only [qZ]
     refine sqB 3 rfl (st_gives hE15 rfl (run_call rfl Tryz.call110) (HS2.out _) ?_)
     intro w16 hb16 hE16
     clear hE15
     refine ⟨fun _ => hb16, ?_⟩
     simp only [qZ]
     refine sqB 4 rfl (st_val rfl (v_moveT (.inr rfl) rfl) ?_)
     refine ⟨fun _ => Below.refl _ _, ?_⟩
     simp only [qZ]
     refine wpB_done (by kernel_rfl) ?_ _
     repeat ((fail_if_success refine sqy ?_); go_step)
     refine cqT ?_
     skip
     repeat ((fail_if_success refine sqx ?_); go_step)
     refine wp_region_B (n := 4) 3 (by kernel_rfl) rfl hE16 ?_
     intro w17 hb17 hE17
     clear hE16
     refine tqB 0 rfl (vqL 1 5 hE17 Tryz.underlying53) ?_
     refine sqB 1 rfl (st_gives hE17 rfl (run_call rfl Tryz.call111) (H12.out _) ?_)
     intro w18 hb18 hE18
     clear hE17
     refine ⟨fun _ => hb18, ?_⟩
     simp only [qZ]
     refine sqB 2 rfl (st_gives hE18 rfl (run_call rfl Tryz.call55) (H13.out _) ?_)
     intro w19 hb19 hE19
     clear hE18
     refine ⟨fun _ => hb19, ?_⟩
     simp only [qZ]
     refine sqB 3 rfl (sqS 1 5 hE19 ?_)
     intro w20 hE20
     clear hE19
     simp only [qpB, qpC] at hE20
     refine nqB ?_
     simp only [qZ]
     refine wpB_done (by kernel_rfl) ?_ _
     repeat ((fail_if_success refine sqx ?_); go_step)
     refine wqv (vqL 1 5 hE20 Tryz.underlying53) ?_
     refine wl_step (st_gives hE20 rfl (run_call rfl Tryz.call57) (HO13.out _) ?_)
     intro w21 hb21 hE21
     clear hE20
     simp only [qZ]
     repeat ((fail_if_success refine sqy ?_); go_step)
     refine cqT ?_
     skip
     repeat ((fail_if_success refine sqx ?_); go_step)
     refine wqv (vqL 1 5 hE21 Tryz.underlying53) ?_
     refine wl_step (st_gives hE21 rfl (run_call rfl Tryz.call76) (HQ13.out _) ?_)
     intro w22 hb22 hE22
     clear hE21
     simp only [qZ]
     refine wl_step (sqS 1 5 hE22 ?_)
     intro w23 hE23
     clear hE22
     simp only [qpB, qpC] at hE23
     simp only [qZ]
     repeat ((fail_if_success refine sqx ?_); go_step)
     refine wqv (vqL 1 5 hE23 Tryz.underlying53) ?_
     refine wl_step (sqS 4 5 hE23 ?_)
     intro w24 hE24
     clear hE23
     simp only [qpB, qpC] at hE24
     simp only [qZ]
     refine mqC ?_
     repeat ((fail_if_success refine sqx ?_); go_step)
     refine bodyPost_ret (results_ct rfl _ _ _ _ _ (0, 0) _ rfl (hE24.get (i := 4) rfl) Tryz.underlying53 rfl (szqA (n := 5)) rfl) rfl ⟨rfl, hE24.below⟩
    ·refine ⟨ru, F13.out, by rw [N13.out]; unfold evenN; rw [if_neg ho], fun w => ?_⟩
     rw [decide_eq_false ho] at HO13
     clear Hroot hr h1 hz ho h2
     have hE0 := Env.nil w
     go_enter Tryz.func71, Tryz.ntmps71
     repeat ((fail_if_success refine sqx ?_); go_step)
     refine wl_step (st_boxA hE0 rfl rfl rfl ?_)
     intro g0 w1 hb1 hE1
     clear hE0
     simp only [qZ]
     refine wl_step (st_boxA hE1 rfl rfl rfl ?_)
     intro g1 w2 hb2 hE2
     clear hE1
     simp only [qZ]
     refine wl_step (sqA (ints .u64 (List.replicate 5 0)) hE2 ?_)
     intro g2 w3 hb3 hE3
     clear hE2
     simp only [qZ]
     refine mqC ?_
     repeat ((fail_if_success refine sqx ?_); go_step)
     refine wp_region_env 6 (by kernel_rfl) (by kernel_rfl) (fun _ _ d _ _ h => by cases d <;> exact h) hE3 ?_
     refine hqv (fun _ hW => (vqL 1 5 hW Tryz.underlying53)) ?_
     refine hqv (fun _ hW => (vqL 1 5 hW Tryz.underlying53)) ?_
     refine headRun_call (fun w1 => run_call rfl Tryz.call55) (fun w1 hW => H1.out _) ?_
     simp only [qZ]
     refine hqv (fun _ hW => (vqL 1 5 hW Tryz.underlying53)) ?_
     refine headRun_call (fun w1 => run_call rfl Tryz.call55) (fun w1 hW => H2.out _) ?_
     simp only [qZ]
     refine headRun_alloc (zs := ints .u64 (List.replicate 5 0)) rfl rfl (fun w => by kernel_rfl) ?_
     simp only [qZ]
     refine headRun_nil (endK1 ?_)
     intro g3 w4 hE4
     clear hE3
     simp only [List.drop_succ_cons, List.drop_zero, Act.put, qpA, qpB, qpC]
     refine wl_step (sqS 0 5 hE4 ?_)
     intro w5 hE5
     clear hE4
     simp only [qpB, qpC] at hE5
     simp only [qZ]
     repeat ((fail_if_success refine sqx ?_); go_step)
     refine wp_region_env 6 (by kernel_rfl) (by kernel_rfl) (fun _ _ d _ _ h => by cases d <;> exact h) hE5 ?_
     refine hqv (fun _ hW => (vqL 0 5 hW Tryz.underlying53)) ?_
     refine hqv (fun _ hW => (vqL 0 5 hW Tryz.underlying53)) ?_
     refine headRun_call (fun w1 => run_call rfl Tryz.call55) (fun w1 hW => H3.out _) ?_
     simp only [qZ]
     refine hqv (fun _ hW => (vqL 2 5 hW Tryz.underlying53)) ?_
     refine headRun_call (fun w1 => run_call rfl Tryz.call55) (fun w1 hW => H4.out _) ?_
     simp only [qZ]
     refine headRun_alloc (zs := ints .u64 (List.replicate 5 0)) rfl rfl (fun w => by kernel_rfl) ?_
     simp only [qZ]
     refine headRun_nil (endK1 ?_)
     intro g4 w6 hE6
     clear hE5
     simp only [List.drop_succ_cons, List.drop_zero, Act.put, qpA, qpB, qpC]
     refine wl_step (sqS 0 5 hE6 ?_)
     intro w7 hE7
     clear hE6
     simp only [qpB, qpC] at hE7
     simp only [qZ]
     repeat ((fail_if_success refine sqx ?_); go_step)
     refine wp_region_env 9 (by kernel_rfl) (by kernel_rfl) (fun _ _ d _ _ h => by cases d <;> exact h) hE7 ?_
     refine hqv (fun _ hW => (vqL 4 5 hW Tryz.underlying53)) ?_
     refine hqv (fun _ hW => (vqL 1 5 hW Tryz.underlying53)) ?_
     refine headRun_call (fun w1 => run_call rfl Tryz.call55) (fun w1 hW => H5.out _) ?_
     simp only [qZ]
     refine hqv (fun _ hW => (vqL 4 5 hW Tryz.underlying53)) ?_
     refine hqv (fun _ hW => (vqL 0 5 hW Tryz.underlying53)) ?_
     refine headRun_call (fun w1 => run_call rfl Tryz.call55) (fun w1 hW => H6.out _) ?_
     simp only [qZ]
     refine headRun_call (fun w1 => run_call rfl Tryz.call92) (fun w1 hW => H7.out _) ?_
     simp only [qZ]
     refine headRun_call (fun w1 => run_call rfl Tryz.call55) (fun w1 hW => H8.out _) ?_
     simp only [qZ]
     refine headRun_alloc (zs := ints .u64 (List.replicate 5 0)) rfl rfl (fun w => by kernel_rfl) ?_
     simp only [qZ]
     refine headRun_nil (endK1 ?_)
     intro g5 w8 hE8
     clear hE7
     simp only [List.drop_succ_cons, List.drop_zero, Act.put, qpA, qpB, qpC]
     refine wl_step (sqS 0 5 hE8 ?_)
     intro w9 hE9
     clear hE8
     simp only [qpB, qpC] at hE9
     simp only [qZ]
     repeat ((fail_if_success refine sqx ?_); go_step)
     refine wp_region_env 6 (by kernel_rfl) (by kernel_rfl) (fun _ _ d _ _ h => by cases d <;> exact h) hE9 ?_
     refine hqv (fun _ hW => (vqL 4 5 hW Tryz.underlying53)) ?_
     refine hqv (fun _ hW => (vqL 0 5 hW Tryz.underlying53)) ?_
     refine headRun_call (fun w1 => run_call rfl Tryz.call55) (fun w1 hW => H9.out _) ?_
     simp only [qZ]
     refine hqv (fun _ hW => (vqL 0 5 hW Tryz.underlying53)) ?_
     refine headRun_call (fun w1 => run_call rfl Tryz.call55) (fun w1 hW => H10.out _) ?_
     simp only [qZ]
     refine headRun_alloc (zs := ints .u64 (List.replicate 5 0)) rfl rfl (fun w => by kernel_rfl) ?_
     simp only [qZ]
     refine headRun_nil (endK1 ?_)
     intro g6 w10 hE10
     clear hE9
     simp only [List.drop_succ_cons, List.drop_zero, Act.put, qpA, qpB, qpC]
     refine wl_step (sqS 0 5 hE10 ?_)
     intro w11 hE11
     clear hE10
     simp only [qpB, qpC] at hE11
     simp only [qZ]
     repeat ((fail_if_success refine sqx ?_); go_step)
     refine wqv (vqL 5 5 hE11 Tryz.underlying53) ?_
     refine wl_step (st_gives hE11 rfl (run_call rfl Tryz.call75) (HZ.out _) ?_)
     intro w12 hb12 hE12
     clear hE11
     simp only [qZ]
     refine mqB ?_
     repeat ((fail_if_success refine sqy ?_); go_step)
     refine cqF ?_
     skip
     repeat ((fail_if_success refine sqx ?_); go_step)
     refine wqv (vqL 0 5 hE12 Tryz.underlying53) ?_
     refine wqv (vqL 6 5 hE12 Tryz.underlying53) ?_
     refine wl_step (st_gives hE12 rfl (run_call rfl Tryz.call110) (HS1.out _) ?_)
     intro w13 hb13 hE13
     clear hE12
     simp only [qZ]
     refine mqB ?_
     repeat ((fail_if_success refine sqy ?_); go_step)
     refine cqF ?_
     skip
     repeat ((fail_if_success refine sqx ?_); go_step)
     refine wp_region_B (n := 5) 4 (by kernel_rfl) rfl hE13 ?_
     intro w14 hb14 hE14
     clear hE13
     refine tqB 0 rfl (vqL 0 5 hE14 Tryz.underlying53) ?_
     refine tqB 1 rfl (vqL 6 5 hE14 Tryz.underlying53) ?_
     refine sqB 2 rfl (st_gives hE14 rfl (run_call rfl Tryz.call76) (H11.out _) ?_)
     intro w15 hb15 hE15
     clear hE14
     refine ⟨fun _ => hb15, ?_⟩
     simp only [qZ]
     refine sqB 3 rfl (st_gives hE15 rfl (run_call rfl Tryz.call110) (HS2.out _) ?_)
     intro w16 hb16 hE16
     clear hE15
     refine ⟨fun _ => hb16, ?_⟩
     simp only [qZ]
     refine sqB 4 rfl (st_val rfl (v_moveT (.inr rfl) rfl) ?_)
     refine ⟨fun _ => Below.refl _ _, ?_⟩
     simp only [qZ]
     refine wpB_done (by kernel_rfl) ?_ _
     repeat ((fail_if_success refine sqy ?_); go_step)
     refine cqT ?_
     skip
     repeat ((fail_if_success refine sqx ?_); go_step)
     refine wp_region_B (n := 4) 3 (by kernel_rfl) rfl hE16 ?_
     intro w17 hb17 hE17
     clear hE16
     refine tqB 0 rfl (vqL 1 5 hE17 Tryz.underlying53) ?_
     refine sqB 1 rfl (st_gives hE17 rfl (run_call rfl Tryz.call111) (H12.out _) ?_)
     intro w18 hb18 hE18
     clear hE17
     refine ⟨fun _ => hb18, ?_⟩
     simp only [qZ]
     refine sqB 2 rfl (st_gives hE18 rfl (run_call rfl Tryz.call55) (H13.out _) ?_)
     intro w19 hb19 hE19
     clear hE18
     refine ⟨fun _ => hb19, ?_⟩
     simp only [qZ]
     refine sqB 3 rfl (sqS 1 5 hE19 ?_)
     intro w20 hE20
     clear hE19
     simp only [qpB, qpC] at hE20
     refine nqB ?_
     simp only [qZ]
     refine wpB_done (by kernel_rfl) ?_ _
     repeat ((fail_if_success refine sqx ?_); go_step)
     refine wqv (vqL 1 5 hE20 Tryz.underlying53) ?_
     refine wl_step (st_gives hE20 rfl (run_call rfl Tryz.call57) (HO13.out _) ?_)
     intro w21 hb21 hE21
     clear hE20
     simp only [qZ]
     repeat ((fail_if_success refine sqy ?_); go_step)
     refine cqF ?_
     skip
     repeat ((fail_if_success refine sqx ?_); go_step)
     refine wqv (vqL 1 5 hE21 Tryz.underlying53) ?_
     refine wl_step (sqS 4 5 hE21 ?_)
     intro w22 hE22
     clear hE21
     simp only [qpB, qpC] at hE22
     simp only [qZ]
     refine mqC ?_
     repeat ((fail_if_success refine sqx ?_); go_step)
     refine bodyPost_ret (results_ct rfl _ _ _ _ _ (0, 0) _ rfl (hE22.get (i := 4) rfl) Tryz.underlying53 rfl (szqA (n := 5)) rfl) rfl ⟨rfl, hE22.below⟩
   ·have hr : rootN U V = (0, false) := by rw [Hroot.out, if_neg hz, if_neg h1, if_neg h2]
    rw [hr]
    refine ⟨List.replicate 5 0, Fe_zero, by rw [show fval (List.replicate 5 0) = 0 from val_replicate _ _]; rfl, fun w => ?_⟩
    rw [decide_eq_false h2] at HS2
    clear Hroot hr h1 h2 hz
    have hE0 := Env.nil w
    go_enter Tryz.func71, Tryz.ntmps71
    repeat ((fail_if_success refine sqx ?_); go_step)
    refine wl_step (st_boxA hE0 rfl rfl rfl ?_)
    intro g0 w1 hb1 hE1
    clear hE0
    simp only [qZ]
    refine wl_step (st_boxA hE1 rfl rfl rfl ?_)
    intro g1 w2 hb2 hE2
    clear hE1
    simp only [qZ]
    refine wl_step (sqA (ints .u64 (List.replicate 5 0)) hE2 ?_)
    intro g2 w3 hb3 hE3
    clear hE2
    simp only [qZ]
    refine mqC ?_
    repeat ((fail_if_success refine sqx ?_); go_step)
    refine wp_region_env 6 (by kernel_rfl) (by kernel_rfl) (fun _ _ d _ _ h => by cases d <;> exact h) hE3 ?_
    refine hqv (fun _ hW => (vqL 1 5 hW Tryz.underlying53)) ?_
    refine hqv (fun _ hW => (vqL 1 5 hW Tryz.underlying53)) ?_
    refine headRun_call (fun w1 => run_call rfl Tryz.call55) (fun w1 hW => H1.out _) ?_
    simp only [qZ]
    refine hqv (fun _ hW => (vqL 1 5 hW Tryz.underlying53)) ?_
    refine headRun_call (fun w1 => run_call rfl Tryz.call55) (fun w1 hW => H2.out _) ?_
    simp only [qZ]
    refine headRun_alloc (zs := ints .u64 (List.replicate 5 0)) rfl rfl (fun w => by kernel_rfl) ?_
    simp only [qZ]
    refine headRun_nil (endK1 ?_)
    intro g3 w4 hE4
    clear hE3
    simp only [List.drop_succ_cons, List.drop_zero, Act.put, qpA, qpB, qpC]
    refine wl_step (sqS 0 5 hE4 ?_)
    intro w5 hE5
    clear hE4
    simp only [qpB, qpC] at hE5
    simp only [qZ]
    repeat ((fail_if_success refine sqx ?_); go_step)
    refine wp_region_env 6 (by kernel_rfl) (by kernel_rfl) (fun _ _ d _ _ h => by cases d <;> exact h) hE5 ?_
    refine hqv (fun _ hW => (vqL 0 5 hW Tryz.underlying53)) ?_
    refine hqv (fun _ hW => (vqL 0 5 hW Tryz.underlying53)) ?_
    refine headRun_call (fun w1 => run_call rfl Tryz.call55) (fun w1 hW => H3.out _) ?_
    simp only [qZ]
    refine hqv (fun _ hW => (vqL 2 5 hW Tryz.underlying53)) ?_
    refine headRun_call (fun w1 => run_call rfl Tryz.call55) (fun w1 hW => H4.out _) ?_
    simp only [qZ]
    refine headRun_alloc (zs := ints .u64 (List.replicate 5 0)) rfl rfl (fun w => by kernel_rfl) ?_
    simp only [qZ]
    refine headRun_nil (endK1 ?_)
    intro g4 w6 hE6
    clear hE5
    simp only [List.drop_succ_cons, List.drop_zero, Act.put, qpA, qpB, qpC]
    refine wl_step (sqS 0 5 hE6 ?_)
    intro w7 hE7
    clear hE6
    simp only [qpB, qpC] at hE7
    simp only [qZ]
    repeat ((fail_if_success refine sqx ?_); go_step)
    refine wp_region_env 9 (by kernel_rfl) (by kernel_rfl) (fun _ _ d _ _ h => by cases d <;> exact h) hE7 ?_
    refine hqv (fun _ hW => (vqL 4 5 hW Tryz.underlying53)) ?_
    refine hqv (fun _ hW => (vqL 1 5 hW Tryz.underlying53)) ?_
    refine headRun_call (fun w1 => run_call rfl Tryz.call55) (fun w1 hW => H5.out _) ?_
    simp only [qZ]
    refine hqv (fun _ hW => (vqL 4 5 hW Tryz.underlying53)) ?_
    refine hqv (fun _ hW => (vqL 0 5 hW Tryz.underlying53)) ?_
    refine headRun_call (fun w1 => run_call rfl Tryz.call55) (fun w1 hW => H6.out _) ?_
    simp only [qZ]
    refine headRun_call (fun w1 => run_call rfl Tryz.call92) (fun w1 hW => H7.out _) ?_
    simp only [qZ]
    refine headRun_call (fun w1 => run_call rfl Tryz.call55) (fun w1 hW => H8.out _) ?_
    simp only [qZ]
    refine headRun_alloc (zs := ints .u64 (List.replicate 5 0)) rfl rfl (fun w => by kernel_rfl) ?_
    simp only [qZ]
    refine headRun_nil (endK1 ?_)
    intro g5 w8 hE8
    clear hE7
    simp only [List.drop_succ_cons, List.drop_zero, Act.put, qpA, qpB, qpC]
    refine wl_step (sqS 0 5 hE8 ?_)
    intro w9 hE9
    clear hE8
    simp only [qpB, qpC] at hE9
    simp only [qZ]
    repeat ((fail_if_success refine sqx ?_); go_step)
    refine wp_region_env 6 (by kernel_rfl) (by kernel_rfl) (fun _ _ d _ _ h => by cases d <;> exact h) hE9 ?_
    refine hqv (fun _ hW => (vqL 4 5 hW Tryz.underlying53)) ?_
    refine hqv (fun _ hW => (vqL 0 5 hW Tryz.underlying53)) ?_
    refine headRun_call (fun w1 => run_call rfl Tryz.call55) (fun w1 hW => H9.out _) ?_
    simp only [qZ]
    refine hqv (fun _ hW => (vqL 0 5 hW Tryz.underlying53)) ?_
    refine headRun_call (fun w1 => run_call rfl Tryz.call55) (fun w1 hW => H10.out _) ?_
    simp only [qZ]
    refine headRun_alloc (zs := ints .u64 (List.replicate 5 0)) rfl rfl (fun w => by kernel_rfl) ?_
    simp only [qZ]
    refine headRun_nil (endK1 ?_)
    intro g6 w10 hE10
    clear hE9
    simp only [List.drop_succ_cons, List.drop_zero, Act.put, qpA, qpB, qpC]
    refine wl_step (sqS 0 5 hE10 ?_)
    intro w11 hE11
    clear hE10
    simp only [qpB, qpC] at hE11
    simp only [qZ]
    repeat ((fail_if_success refine sqx ?_); go_step)
    refine wqv (vqL 5 5 hE11 Tryz.underlying53) ?_
    refine wl_step (st_gives hE11 rfl (run_call rfl Tryz.call75) (HZ.out _) ?_)
    intro w12 hb12 hE12
    clear hE11
    simp only [qZ]
    refine mqB ?_
    repeat ((fail_if_success refine sqy ?_); go_step)
    refine cqF ?_
    skip
    repeat ((fail_if_success refine sqx ?_); go_step)
    refine wqv (vqL 0 5 hE12 Tryz.underlying53) ?_
    refine wqv (vqL 6 5 hE12 Tryz.underlying53) ?_
    refine wl_step (st_gives hE12 rfl (run_call rfl Tryz.call110) (HS1.out _) ?_)
    intro w13 hb13 hE13
    clear hE12
    simp only [qZ]
    refine mqB ?_
    repeat ((fail_if_success refine sqy ?_); go_step)
    refine cqF ?_
    skip
    repeat ((fail_if_success refine sqx ?_); go_step)
    refine wp_region_B (n := 5) 4 (by kernel_rfl) rfl hE13 ?_
    intro w14 hb14 hE14
    clear hE13
    refine tqB 0 rfl (vqL 0 5 hE14 Tryz.underlying53) ?_
    refine tqB 1 rfl (vqL 6 5 hE14 Tryz.underlying53) ?_
    refine sqB 2 rfl (st_gives hE14 rfl (run_call rfl Tryz.call76) (H11.out _) ?_)
    intro w15 hb15 hE15
    clear hE14
    refine ⟨fun _ => hb15, ?_⟩
    simp only [qZ]
    refine sqB 3 rfl (st_gives hE15 rfl (run_call rfl Tryz.call110) (HS2.out _) ?_)
    intro w16 hb16 hE16
    clear hE15
    refine ⟨fun _ => hb16, ?_⟩
    simp only [qZ]
    refine sqB 4 rfl (st_val rfl (v_moveT (.inr rfl) rfl) ?_)
    refine ⟨fun _ => Below.refl _ _, ?_⟩
    simp only [qZ]
    refine wpB_done (by kernel_rfl) ?_ _
    repeat ((fail_if_success refine sqy ?_); go_step)
    refine cqF ?_
    skip
    repeat ((fail_if_success refine sqx ?_); go_step)
    refine wqv (v_built (k := .u64) (l := List.replicate 5 0) rfl (fun w => by kernel_rfl)) ?_
    refine wl_step (sqS 4 5 hE16 ?_)
    intro w17 hE17
    clear hE16
    simp only [qpB, qpC] at hE17
    simp only [qZ]
    refine mqC ?_
    repeat ((fail_if_success refine sqx ?_); go_step)
    refine bodyPost_ret (results_ct rfl _ _ _ _ _ (0, 0) _ rfl (hE17.get (i := 4) rfl) Tryz.underlying53 rfl (szqA (n := 5)) rfl) rfl ⟨rfl, hE17.below⟩
end Go.Proofs.YthddoelflmoedaaGreat
