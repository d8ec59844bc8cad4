/-
  Layer 4: the number of bytes; small numbers.
  Layer 4: the number below p, and its bytes.
-/
import Derived.Test.YthddoelflmoedaaJ10
namespace Go.Proofs.Ythddoelflmoedaa
open Go.RowKit
set_option maxRecDepth 100000
set_option linter.unusedVariables false
set_option linter.unusedSimpArgs false

theorem or_shift {n x s : Nat} (h : n < 2 ^ s) : n ||| (x * 2 ^ s) = n + x * 2 ^ s := by
  have := Nat.two_pow_add_eq_or_of_lt h x
  rw [Nat.or_comm, Nat.mul_comm x, ← this, Nat.add_comm]
theorem v_orShift {a : Act} {w : World} {o : Oper} {P : Program} {t t' : TypeId} {x y : Operand} {m n s : Nat} {k : IntKind} (ho : o.op = .binOp .or t x y t') (hx : a.eval x = .int k (n : Int)) (hy : a.eval y = .int k ((m * 2 ^ s : Nat) : Int)) (hk : k.signed = false) (hn : n < 2 ^ s) (hs : 2 ^ s ≤ 2 ^ k.bits) (hm : m * 2 ^ s < 2 ^ k.bits) :
    Val P o a (.int k ((n + m * 2 ^ s : Nat) : Int)) w := by
  have h2 : n < 2 ^ k.bits := Nat.lt_of_lt_of_le hn hs
  have h := v_bor (P := P) (w := w) ho hx hy h2 hm (w_or hk h2 hm)
  rwa [or_shift hn] at h

/-- A part of a number's bytes. -/
def loadF (V q i : Nat) : Nat := V / 256 ^ q % 256 ^ i
theorem loadF_step (V q i : Nat) : loadF V q (i + 1) = loadF V q i + V / 256 ^ (q + i) % 256 * 2 ^ (8 * i) := by
  unfold loadF
  rw [Nat.pow_succ, Nat.mod_mul, Nat.div_div_eq_div_mul, ← Nat.pow_add, Nat.pow_mul 2 8 i, Nat.mul_comm (256 ^ i)]
theorem loadF_lt (V q i : Nat) : loadF V q i < 2 ^ (8 * i) := by
  unfold loadF
  rw [Nat.pow_mul 2 8 i]
  exact Nat.mod_lt _ (Nat.pow_pos (by decide))
theorem byte_fits {c i : Nat} (hc : c < 256) (hi : i < 8) : c * 2 ^ (8 * i) < 18446744073709551616 := by
  have h1 : 2 ^ (8 * i) ≤ 2 ^ 56 := Nat.pow_le_pow_right (by decide) (by omega)
  exact Nat.lt_of_le_of_lt (Nat.mul_le_mul (show c ≤ 255 by omega) h1) (by decide)

set_option maxHeartbeats 2000000 in
theorem load_any (b : List Nat) (bit : Nat) (hb : b.length = 32) (db : Digs 256 b) (hbit : bit < 256) (w : World) :
    Gives 52 #[.agg (ints .u8 b), .int .i64 bit] w (.int .u64 (val 256 b / 256 ^ (bit / 8) % 18446744073709551616 / 2 ^ (bit % 8) : Nat)) := by
  have Hdb := Lib.hid db
  clear db
  have hE0 := Env.nil w
  go_enter Try.func52, Try.ntmps52
  repeat ((fail_if_success with_reducible show wA ..); (fail_if_success with_reducible show wB ..); go_step)
  refine wl_step (st_boxA hE0 rfl rfl rfl ?_)
  intro g0 w1 hb1 hE1
  clear hE0
  simp only [Act.put, pA, pB, pC]
  refine wv (v_moveC (.inr rfl)) ?_
  simp only [Act.put, pA, pB, pC]
  repeat ((fail_if_success with_reducible show wA ..); (fail_if_success with_reducible show wB ..); go_step)
  refine wv (v_moveC (.inr rfl)) ?_
  simp only [Act.put, pA, pB, pC]
  repeat ((fail_if_success with_reducible show wA ..); (fail_if_success with_reducible show wB ..); go_step)
  refine wv (v_moveC (.inr rfl)) ?_
  simp only [Act.put, pA, pB, pC]
  go_wp2
  go_loopw [5, 6] (fun n i wr => ∃ k : Nat, k ≤ 8 ∧ i = .int .i64 k ∧ n = .int .u64 (loadF (val 256 b) (bit / 8) k : Nat) ∧ Env w [⟨g0, 22, ints .u8 b⟩] wr) (fun _ i _ => 8 - (intOf i).toNat)
  case atStart => exact ⟨0, Nat.zero_le _, rfl, by rw [loadF, Nat.pow_zero, Nat.mod_one]; rfl, hE1⟩
  case round =>
    clear hE1
    obtain ⟨k, hk, rfl, rfl, hE0⟩ := hrel
    by_cases hk8 : k < 8
    · have hst := loadF_step (val 256 b) (bit / 8) k
      have hlt := loadF_lt (val 256 b) (bit / 8) k
      have hdm := val_div_mod Hdb.out (by decide) (bit / 8 + k)
      have hgl := Hdb.out.getD (by decide) (bit / 8 + k)
      by_cases hin : bit / 8 + k < 32
      · have hjb : bit / 8 + k < b.length := by omega
        rw [hdm] at hst
        have hbf := byte_fits hgl hk8
        have hsp : 2 ^ (8 * k) ≤ 2 ^ IntKind.u64.bits := Nat.pow_le_pow_right (by decide) (by simp only [IntKind.bits]; omega)
        have hbf' : b.getD (bit / 8 + k) 0 * 2 ^ (8 * k) < 2 ^ IntKind.u64.bits := hbf
        have Hst := Lib.hid hst
        clear hst hdm
        repeat ((fail_if_success with_reducible show wA ..); (fail_if_success with_reducible show wB ..); go_step)
        refine wv (v_moveT (.inl rfl) rfl) ?_
        simp only [Act.put, pA, pB, pC]
        refine wv (v_lss (n := 8) rfl rfl rfl) ?_
        simp only [Act.put, pA, pB, pC]
        repeat ((fail_if_success with_reducible show wA ..); (fail_if_success with_reducible show wB ..); go_step)
        refine wv (v_moveT (.inl rfl) rfl) ?_
        simp only [Act.put, pA, pB, pC]
        refine wv (v_quo (n := 8) rfl rfl rfl (by omega) (w_i64 (by omega))) ?_
        simp only [Act.put, pA, pB, pC]
        refine wv (v_moveT (.inl rfl) rfl) ?_
        simp only [Act.put, pA, pB, pC]
        refine wv (v_add rfl rfl rfl (w_i64 (by omega))) ?_
        simp only [Act.put, pA, pB, pC]
        refine wv (v_moveT (.inr rfl) rfl) ?_
        simp only [Act.put, pA, pB, pC]
        repeat ((fail_if_success with_reducible show wA ..); (fail_if_success with_reducible show wB ..); go_step)
        refine wv (v_moveT (.inl rfl) rfl) ?_
        simp only [Act.put, pA, pB, pC]
        refine wv (v_lss (n := 32) rfl rfl rfl) ?_
        simp only [Act.put, pA, pB, pC]
        repeat ((fail_if_success with_reducible show wA ..); (fail_if_success with_reducible show wB ..); (fail_if_success (with_reducible show Code.wp _ (Code.cond _ _ _) _ _ _)); go_step)
        refine wp_cond_true (by first | rfl | exact congrArg Value.bool (decide_eq_true (by omega))) ?_
        skip
        repeat ((fail_if_success with_reducible show wA ..); (fail_if_success with_reducible show wB ..); go_step)
        refine wv (v_moveT (.inl rfl) rfl) ?_
        simp only [Act.put, pA, pB, pC]
        refine wv (v_moveT (.inl rfl) rfl) ?_
        simp only [Act.put, pA, pB, pC]
        refine wv (v_indexA0 rfl rfl rfl Try.underlying22 (by kernel_rfl) (by first | assumption | omega)) ?_
        simp only [Act.put, pA, pB, pC]
        refine wv (v_cell rfl rfl Try.underlying5 rfl (Env.cellv (i := 0) hE0 rfl (ints_get? _ _ _ (by first | assumption | omega | (simp; done) | (simp; omega))))) ?_
        simp only [Act.put, pA, pB, pC]
        refine wv (v_convInt rfl rfl Try.underlying5 Try.underlying38 (by first | exact w_u64 (by omega) | exact w_u64m _)) ?_
        simp only [Act.put, pA, pB, pC]
        refine wv (v_moveT (.inl rfl) rfl) ?_
        simp only [Act.put, pA, pB, pC]
        refine wv (v_mul (m := 8) rfl rfl rfl (w_i64 (by omega))) ?_
        simp only [Act.put, pA, pB, pC]
        refine wv (v_shl rfl rfl rfl (by simp only [IntKind.bits]; omega) (w_u64 hbf)) ?_
        simp only [Act.put, pA, pB, pC]
        refine wv (v_orShift rfl rfl rfl rfl hlt hsp hbf') ?_
        simp only [Act.put, pA, pB, pC]
        rw [← Hst.out]
        refine wv (v_moveT (.inr rfl) rfl) ?_
        simp only [Act.put, pA, pB, pC]
        repeat ((fail_if_success with_reducible show wA ..); (fail_if_success with_reducible show wB ..); go_step)
        refine wv (v_moveT (.inl rfl) rfl) ?_
        simp only [Act.put, pA, pB, pC]
        refine wv (v_add (n := 1) rfl rfl rfl (w_i64 (by omega))) ?_
        simp only [Act.put, pA, pB, pC]
        refine wv (v_moveT (.inr rfl) rfl) ?_
        simp only [Act.put, pA, pB, pC]
        go_wp2
        go_roundw
        case rel => exact ⟨k + 1, by omega, rfl, rfl, hE0⟩
        case measure => simp [intOf]; omega
      · have h0 : b.getD (bit / 8 + k) 0 = 0 := by rw [List.getD_eq_getElem?_getD, List.getElem?_eq_none (by omega)]; rfl
        rw [hdm, h0, Nat.zero_mul, Nat.add_zero] at hst
        have Hst := Lib.hid hst
        clear hst hdm h0 hgl hlt
        repeat ((fail_if_success with_reducible show wA ..); (fail_if_success with_reducible show wB ..); go_step)
        refine wv (v_moveT (.inl rfl) rfl) ?_
        simp only [Act.put, pA, pB, pC]
        refine wv (v_lss (n := 8) rfl rfl rfl) ?_
        simp only [Act.put, pA, pB, pC]
        repeat ((fail_if_success with_reducible show wA ..); (fail_if_success with_reducible show wB ..); go_step)
        refine wv (v_moveT (.inl rfl) rfl) ?_
        simp only [Act.put, pA, pB, pC]
        refine wv (v_quo (n := 8) rfl rfl rfl (by omega) (w_i64 (by omega))) ?_
        simp only [Act.put, pA, pB, pC]
        refine wv (v_moveT (.inl rfl) rfl) ?_
        simp only [Act.put, pA, pB, pC]
        refine wv (v_add rfl rfl rfl (w_i64 (by omega))) ?_
        simp only [Act.put, pA, pB, pC]
        refine wv (v_moveT (.inr rfl) rfl) ?_
        simp only [Act.put, pA, pB, pC]
        repeat ((fail_if_success with_reducible show wA ..); (fail_if_success with_reducible show wB ..); go_step)
        refine wv (v_moveT (.inl rfl) rfl) ?_
        simp only [Act.put, pA, pB, pC]
        refine wv (v_lss (n := 32) rfl rfl rfl) ?_
        simp only [Act.put, pA, pB, pC]
        repeat ((fail_if_success with_reducible show wA ..); (fail_if_success with_reducible show wB ..); (fail_if_success (with_reducible show Code.wp _ (Code.cond _ _ _) _ _ _)); go_step)
        refine wp_cond_false (by first | rfl | exact congrArg Value.bool (decide_eq_false (by omega))) ?_
        skip
        repeat ((fail_if_success with_reducible show wA ..); (fail_if_success with_reducible show wB ..); go_step)
        refine wv (v_moveT (.inl rfl) rfl) ?_
        simp only [Act.put, pA, pB, pC]
        refine wv (v_add (n := 1) rfl rfl rfl (w_i64 (by omega))) ?_
        simp only [Act.put, pA, pB, pC]
        refine wv (v_moveT (.inr rfl) rfl) ?_
        simp only [Act.put, pA, pB, pC]
        go_wp2
        go_roundw
        case rel => exact ⟨k + 1, by omega, rfl, by rw [Hst.out]; rfl, hE0⟩
        case measure => simp [intOf]; omega
    · have hk' : k = 8 := by omega
      subst hk'
      have hfin : loadF (val 256 b) (bit / 8) 8 = val 256 b / 256 ^ (bit / 8) % 18446744073709551616 := rfl
      rw [hfin]
      have hm8 : bit % 8 < 8 := Nat.mod_lt _ (by decide)
      clear hfin
      repeat ((fail_if_success with_reducible show wA ..); (fail_if_success with_reducible show wB ..); go_step)
      refine wv (v_moveT (.inl rfl) rfl) ?_
      simp only [Act.put, pA, pB, pC]
      refine wv (v_lss (n := 8) rfl rfl rfl) ?_
      simp only [Act.put, pA, pB, pC]
      repeat ((fail_if_success with_reducible show wA ..); (fail_if_success with_reducible show wB ..); go_step)
      refine wv (v_moveT (.inl rfl) rfl) ?_
      simp only [Act.put, pA, pB, pC]
      refine wv (v_moveT (.inl rfl) rfl) ?_
      simp only [Act.put, pA, pB, pC]
      refine wv (v_rem (n := 8) rfl rfl rfl (by omega)) ?_
      simp only [Act.put, pA, pB, pC]
      refine wv (v_shr rfl rfl rfl (by simp only [IntKind.bits]; omega)) ?_
      simp only [Act.put, pA, pB, pC]
      refine wv (v_moveT (.inr rfl) rfl) ?_
      simp only [Act.put, pA, pB, pC]
      repeat ((fail_if_success with_reducible show wA ..); (fail_if_success with_reducible show wB ..); go_step)
      go_returns
      exact ⟨rfl, hE0.below⟩

theorem of_limb (V i : Nat) (hi : i < 5) : V / 256 ^ (51 * i / 8) % 18446744073709551616 / 2 ^ (51 * i % 8) % 2251799813685248 = V / 2251799813685248 ^ i % 2251799813685248 := by
  have key : ∀ q r s, r + 51 ≤ 64 → 8 * q + r = s → V / 256 ^ q % 2 ^ 64 / 2 ^ r % 2 ^ 51 = V / 2 ^ s % 2 ^ 51 := by
    intro q r s hr hs
    have e : 2 ^ 64 = 2 ^ r * 2 ^ (64 - r) := by rw [← Nat.pow_add]; congr 1; omega
    rw [e, Nat.mod_mul_right_div_self, Nat.div_div_eq_div_mul, show (256 : Nat) = 2 ^ 8 from rfl, ← Nat.pow_mul, ← Nat.pow_add, hs]
    exact Nat.mod_mod_of_dvd _ (Nat.pow_dvd_pow 2 (by omega))
  have h := key (51 * i / 8) (51 * i % 8) (51 * i) (by omega) (by omega)
  rw [Nat.pow_mul 2 51 i] at h
  exact h

/-- A limb of a number. -/
def digF (V i : Nat) : Nat := V / 2251799813685248 ^ i % 2251799813685248
theorem digF_all (V : Nat) : (List.range 5).map (digF V) = digs 2251799813685248 5 V := by
  rw [range5]
  simp only [digs, digF, Nat.pow_zero, Nat.div_one, Nat.div_div_eq_div_mul]
theorem digs_Fe (V : Nat) : Fe (digs 2251799813685248 5 V) :=
  ⟨digs_length _ _ _, fun x hx => Nat.lt_trans (digs_Digs (by decide) 5 V x hx) (by decide)⟩
theorem digs_fval (V : Nat) : fval (digs 2251799813685248 5 V) = V % 57896044618658097711785492504343953926634992332820282019728792003956564819968 := val_digs _ _ _

set_option maxHeartbeats 2000000 in
theorem Of_any (b : List Nat) (hb : b.length = 32) (db : Digs 256 b) (w : World) : Gives 24 #[.agg (ints .u8 b)] w (elem (digs 2251799813685248 5 (val 256 b))) := by
  have hload := fun bit (h : bit < 256) w => load_any b bit hb db h w
  have Hload := Lib.hid hload
  clear hload
  have hE0 := Env.nil w
  go_enter Try.func24, Try.ntmps24
  repeat ((fail_if_success with_reducible show wA ..); (fail_if_success with_reducible show wB ..); go_step)
  refine wl_step (st_boxA hE0 rfl rfl rfl ?_)
  intro g0 w1 hb1 hE1
  clear hE0
  simp only [Act.put, pA, pB, pC]
  refine wl_step (st_alloc (zs := ints .u64 (List.replicate 5 0)) hE1 rfl rfl (fun w => by kernel_rfl) ?_)
  intro g1 w2 hb2 hE2
  clear hE1
  simp only [Act.put, pA, pB, pC]
  repeat ((fail_if_success with_reducible show wA ..); (fail_if_success with_reducible show wB ..); go_step)
  refine wl_step (st_alloc (zs := ints .u64 (List.replicate 5 0)) hE2 rfl rfl (fun w => by kernel_rfl) ?_)
  intro g2 w3 hb3 hE3
  clear hE2
  simp only [Act.put, pA, pB, pC]
  repeat ((fail_if_success with_reducible show wA ..); (fail_if_success with_reducible show wB ..); go_step)
  refine wv (v_moveC (.inl rfl)) ?_
  simp only [Act.put, pA, pB, pC]
  go_wp2
  go_loopw [5] (fun i wr => ∃ k : Nat, k ≤ 5 ∧ i = .int .i64 k ∧ Env w [⟨g2, 41, ints .u64 (fillR (digF (val 256 b)) (List.replicate 5 0) k)⟩, ⟨g1, 41, ints .u64 (List.replicate 5 0)⟩, ⟨g0, 22, ints .u8 b⟩] wr) (fun i _ => 5 - (intOf i).toNat)
  case atStart => exact ⟨0, Nat.zero_le _, rfl, hE3⟩
  case round =>
    clear hE3
    obtain ⟨k, hk, rfl, hE0⟩ := hrel
    have hX : (fillR (digF (val 256 b)) (List.replicate 5 0) k).length = 5 := fillR_len (by simp; omega)
    by_cases hk5 : k < 5
    · have Hlimb := Lib.hid (of_limb (val 256 b) k hk5)
      have hml : val 256 b / 256 ^ (51 * k / 8) % 18446744073709551616 / 2 ^ (51 * k % 8) < 18446744073709551616 := Nat.lt_of_le_of_lt (Nat.div_le_self _ _) (Nat.mod_lt _ (by decide))
      repeat ((fail_if_success with_reducible show wA ..); (fail_if_success with_reducible show wB ..); go_step)
      refine wv (v_lss (n := 5) rfl rfl rfl) ?_
      simp only [Act.put, pA, pB, pC]
      repeat ((fail_if_success with_reducible show wA ..); (fail_if_success with_reducible show wB ..); go_step)
      refine wv (v_moveT (.inl rfl) rfl) ?_
      simp only [Act.put, pA, pB, pC]
      refine wv (v_moveT (.inr rfl) rfl) ?_
      simp only [Act.put, pA, pB, pC]
      repeat ((fail_if_success with_reducible show wA ..); (fail_if_success with_reducible show wB ..); go_step)
      refine wv (v_moveT (.inl rfl) rfl) ?_
      simp only [Act.put, pA, pB, pC]
      refine wv (v_load (i := 2) hE0 rfl rfl rfl Try.underlying22 rfl (szA (n := 32))) ?_
      simp only [Act.put, pA, pB, pC]
      refine wv (v_moveT (.inl rfl) rfl) ?_
      simp only [Act.put, pA, pB, pC]
      refine wv (v_mul (m := 51) rfl rfl rfl (w_i64 (by omega))) ?_
      simp only [Act.put, pA, pB, pC]
      refine wl_step (st_gives hE0 rfl (run_call rfl Try.call52) (Hload.out (51 * k) (by omega) _) ?_)
      intro w1 hb1 hE1
      clear hE0
      simp only [Act.put, pA, pB, pC]
      refine wv (v_mask (c := 2251799813685247) (s := 51) (d := 2251799813685248) rfl rfl rfl (by decide) (by decide) rfl (by simp only [IntKind.bits]; omega) (by decide)) ?_
      simp only [Act.put, pA, pB, pC]
      refine wv (v_field0 (s := 4) rfl rfl Try.underlying41 rfl (by kernel_rfl) rfl) ?_
      simp only [Act.put, pA, pB, pC]
      refine wv (v_indexA0 rfl rfl rfl Try.underlying39 (by kernel_rfl) (by first | assumption | omega)) ?_
      simp only [Act.put, pA, pB, pC]
      refine wl_step (st_putN (i := 0) hE1 rfl rfl rfl rfl rfl (by kernel_rfl) (by first | assumption | omega | (simp only [List.length_set, List.length_replicate]; first | assumption | omega)) ?_)
      intro w2 hE2
      clear hE1
      simp only [pB, pC] at hE2
      simp only [Act.put, pA, pB, pC]
      repeat ((fail_if_success with_reducible show wA ..); (fail_if_success with_reducible show wB ..); go_step)
      refine wv (v_add (n := 1) rfl rfl rfl (w_i64 (by omega))) ?_
      simp only [Act.put, pA, pB, pC]
      refine wv (v_moveT (.inl rfl) rfl) ?_
      simp only [Act.put, pA, pB, pC]
      go_wp2
      go_roundw
      case rel => exact ⟨k + 1, by omega, rfl, by rw [fillR_set (F := digF (val 256 b)) (by simp; omega) Hlimb.out] at hE2; exact hE2⟩
      case measure => simp [intOf]; omega
    · have hk' : k = 5 := by omega
      subst hk'
      have e : fillR (digF (val 256 b)) (List.replicate 5 0) 5 = digs 2251799813685248 5 (val 256 b) := (fillR_full (digF (val 256 b)) (List.replicate 5 0)).trans (digF_all _)
      rw [e] at hE0
      repeat ((fail_if_success with_reducible show wA ..); (fail_if_success with_reducible show wB ..); go_step)
      refine wv (v_lss (n := 5) rfl rfl rfl) ?_
      simp only [Act.put, pA, pB, pC]
      repeat ((fail_if_success with_reducible show wA ..); (fail_if_success with_reducible show wB ..); go_step)
      refine wv (v_load (i := 0) hE0 rfl rfl rfl Try.underlying41 rfl (szA (n := 5))) ?_
      simp only [Act.put, pA, pB, pC]
      refine wl_step (st_store (i := 1) hE0 rfl rfl rfl rfl rfl (szA (n := 5)) (by first | (simp only [ints_size, digs_length, List.length_replicate, List.length_cons, List.length_nil]; done) | (simp only [ints_size, digs_length, List.length_replicate, List.length_cons, List.length_nil, List.length_set, List.length_append]; omega) | rfl) (by first | exact ints_one _ _ | decide | simp [*]) ?_)
      intro w1 hE1
      clear hE0
      simp only [pB, pC] at hE1
      simp only [Act.put, pA, pB, pC]
      repeat ((fail_if_success with_reducible show wA ..); (fail_if_success with_reducible show wB ..); go_step)
      refine bodyPost_ret (results_cell_row rfl _ _ _ _ _ (0, 0) _ rfl (hE1.get (i := 1) rfl) Try.underlying41 rfl (szA (n := 5))) rfl ⟨rfl, hE1.below⟩

set_option maxHeartbeats 1000000 in
theorem Small_walk (n : Nat) (w : World) : Gives 40 #[.int .u32 n] w (elem [n % 18446744073709551616, 0, 0, 0, 0]) := by
  have hE0 := Env.nil w
  go_enter Try.func40, Try.ntmps40
  repeat ((fail_if_success with_reducible show wA ..); (fail_if_success with_reducible show wB ..); go_step)
  refine wl_step (st_alloc (zs := ints .u64 (List.replicate 5 0)) hE0 rfl rfl (fun w => by kernel_rfl) ?_)
  intro g0 w1 hb1 hE1
  clear hE0
  simp only [Act.put, pA, pB, pC]
  repeat ((fail_if_success with_reducible show wA ..); (fail_if_success with_reducible show wB ..); go_step)
  refine wv (v_moveT (.inl rfl) rfl) ?_
  simp only [Act.put, pA, pB, pC]
  refine wv (v_convInt rfl rfl Try.underlying74 Try.underlying38 (w_u64m n)) ?_
  simp only [Act.put, pA, pB, pC]
  refine wv (v_built (k := .u64) (l := [n % 18446744073709551616, 0, 0, 0, 0]) rfl (fun w => by kernel_rfl)) ?_
  simp only [Act.put, pA, pB, pC]
  refine wv (v_built (k := .u64) (l := [n % 18446744073709551616, 0, 0, 0, 0]) rfl (fun w => by kernel_rfl)) ?_
  simp only [Act.put, pA, pB, pC]
  refine wl_step (st_store (i := 0) hE1 rfl rfl rfl rfl rfl (szA (n := 5)) (by first | (simp only [ints_size, digs_length, List.length_replicate, List.length_cons, List.length_nil]; done) | (simp only [ints_size, digs_length, List.length_replicate, List.length_cons, List.length_nil, List.length_set, List.length_append]; omega) | rfl) (by first | exact ints_one _ _ | decide | simp [*]) ?_)
  intro w2 hE2
  clear hE1
  simp only [pB, pC] at hE2
  simp only [Act.put, pA, pB, pC]
  repeat ((fail_if_success with_reducible show wA ..); (fail_if_success with_reducible show wB ..); go_step)
  refine bodyPost_ret (results_cell_row rfl _ _ _ _ _ (0, 0) _ rfl (hE2.get (i := 0) rfl) Try.underlying41 rfl (szA (n := 5))) rfl ⟨rfl, hE2.below⟩
theorem Small_any {n : Nat} (hn : n < 4294967296) : Fe [n, 0, 0, 0, 0] ∧ fval [n, 0, 0, 0, 0] = n ∧ ∀ w, Gives 40 #[.int .u32 n] w (elem [n, 0, 0, 0, 0]) :=
  ⟨Fe.mk (by omega) (by decide) (by decide) (by decide) (by decide), by rw [fval5]; omega, fun w => by
    have h := Small_walk n w
    rwa [Nat.mod_eq_of_lt (Nat.lt_trans hn (by decide))] at h⟩
end Go.Proofs.Ythddoelflmoedaa
namespace Go.Proofs.Ythddoelflmoedaa
open Go.RowKit
set_option maxRecDepth 100000
set_option linter.unusedVariables false
set_option linter.unusedSimpArgs false

/-- Whether a number is p or more, as it is asked limb by limb. -/
def askF (A : List Nat) (i : Nat) : Nat := (val 2251799813685248 (A.take i) + 19) / 2251799813685248 ^ i
theorem askF_zero (A : List Nat) : askF A 0 = 19 := by simp [askF, val]
theorem askF_step {A : List Nat} {i : Nat} (h : i < A.length) : askF A (i + 1) = (A.getD i 0 + askF A i) / 2251799813685248 := by
  have hp : 0 < 2251799813685248 ^ i := Nat.pow_pos (by decide)
  unfold askF
  rw [Nat.pow_succ, ← Nat.div_div_eq_div_mul, val_take_succ _ _ _ h]
  have e : val 2251799813685248 (A.take i) + 2251799813685248 ^ i * A[i] + 19 = (val 2251799813685248 (A.take i) + 19) + 2251799813685248 ^ i * A[i] := by omega
  rw [e, Nat.add_mul_div_left _ _ hp, Nat.add_comm]
  simp [List.getD, h]
theorem askF_lt {A : List Nat} (h : ∀ i, A.getD i 0 < 2251799813685312) : ∀ k, k ≤ A.length → askF A k < 2251799813685248
  | 0, _ => by rw [askF_zero]; decide
  | k + 1, hk => by
    have h1 := h k
    have h2 := askF_lt h k (by omega)
    rw [askF_step (by omega)]
    omega
theorem Fe_val_lt {l : List Nat} (h : Fe l) : fval l < 2 * pN := by
  obtain ⟨a, b, c, d, e, rfl, ha, hb, hc, hd, he⟩ := h.open
  rw [fval5]
  unfold pN
  omega
theorem least_key {V q : Nat} (hV : V < 2 * pN) (hq : q = (V + 19) / 57896044618658097711785492504343953926634992332820282019728792003956564819968) : q ≤ 1 ∧ (V + 19 * q) % 57896044618658097711785492504343953926634992332820282019728792003956564819968 = V % pN := by
  have e : pN + 19 = 57896044618658097711785492504343953926634992332820282019728792003956564819968 := by decide
  rw [← e] at hq ⊢
  rcases Nat.lt_or_ge V pN with h | h
  · have : q = 0 := by rw [hq]; exact Nat.div_eq_of_lt (by omega)
    subst this
    rw [Nat.mul_zero, Nat.add_zero, Nat.mod_eq_of_lt h, Nat.mod_eq_of_lt (by omega)]
    exact ⟨by decide, rfl⟩
  · have : q = 1 := by
      rw [hq]
      exact Nat.div_eq_of_lt_le (by omega) (by omega)
    subst this
    have e2 : V + 19 * 1 = (V - pN) + (pN + 19) := by omega
    rw [e2, Nat.add_mod_right, Nat.mod_eq_of_lt (show V - pN < pN + 19 by omega), Nat.mod_eq_sub_mod h, Nat.mod_eq_of_lt (show V - pN < pN by omega)]
    exact ⟨by decide, rfl⟩

/-- What is added to, ahead of the last carries. -/
def raise0 (A : List Nat) (q : Nat) : List Nat := A.set 0 (A.getD 0 0 + 19 * q)
theorem raise0_val {A : List Nat} (h : A.length = 5) (q : Nat) : fval (raise0 A q) = fval A + 19 * q := by
  obtain ⟨a, b, c, d, e, rfl⟩ := five h
  show fval [a + 19 * q, b, c, d, e] = _
  rw [fval5, fval5]
  omega
/-- Inside the last carries. -/
def runF (R : List Nat) (i : Nat) : List Nat := (fillR (outF R) R i).set i (R.getD i 0 + overF R i)
theorem runF_len {R : List Nat} {i : Nat} (h : i ≤ R.length) : (runF R i).length = R.length := by rw [runF, List.length_set, fillR_len h]
theorem runF_get {R : List Nat} {i : Nat} (h : i < R.length) : (runF R i).getD i 0 = R.getD i 0 + overF R i := set_getD (by rw [fillR_len (by omega)]; exact h)
theorem runF_next {R : List Nat} {i : Nat} (h : i < R.length) : (runF R i).getD (i + 1) 0 = R.getD (i + 1) 0 := by
  rw [runF, List.getD_eq_getElem?_getD, List.getElem?_set_ne (by omega), ← List.getD_eq_getElem?_getD, fillR_ge (by omega)]
theorem runF_zero {R : List Nat} (h : 0 < R.length) : runF R 0 = R := by
  rw [runF, fillR_zero, over_zero, Nat.add_zero]
  simp [List.getD, h]
theorem runF_step {R : List Nat} {i : Nat} (h : i + 1 < R.length) : ((runF R i).set (i + 1) (R.getD (i + 1) 0 + (R.getD i 0 + overF R i) / 2251799813685248)).set i ((R.getD i 0 + overF R i) % 2251799813685248) = runF R (i + 1) := by
  obtain ⟨h1, h2⟩ := over_step (A := R) (i := i) (by omega)
  rw [← h1, ← h2, runF, runF, List.set_comm _ _ (by omega), List.set_set, fillR_set (by omega) rfl]
theorem runF_last {R : List Nat} (h : R.length = 5) : (runF R 4).set 4 ((R.getD 4 0 + overF R 4) % 2251799813685248) = digs 2251799813685248 5 (fval R) := by
  have h2 := (over_step (A := R) (i := 4) (by omega)).2
  rw [← h2, runF, List.set_set, fillR_set (by omega) rfl]
  have e := fillR_full (outF R) R
  rw [h] at e
  rw [e]
  exact digF_all (fval R)

theorem least_over {R : List Nat} (hR : ∀ x ∈ R, x < 9007199254740992) : ∀ i, i ≤ R.length → overF R i < 4294967296
  | 0, _ => by rw [over_zero]; decide
  | i + 1, hi => by
    have h1 := getD_lt hR (by decide) i
    have h2 := least_over hR i (by omega)
    rw [(over_step (by omega)).1]
    omega

set_option maxHeartbeats 4000000 in
theorem least_any {l : List Nat} (hl : Fe l) (w : World) : Gives 60 #[elem l] w (elem (digs 2251799813685248 5 (fval l % pN))) := by
  have hl5 := hl.1
  have hc1 := carry_Fe hl.1 (mem_mono hl.2 (by decide))
  have hc2 := carry_Fe hc1.1 (mem_mono hc1.2 (by decide))
  have hcA := Lib.hid (fun w => carry_any l hl.1 (mem_mono hl.2 (by decide)) w)
  have hcB := Lib.hid (fun w => carry_any (carryL l) hc1.1 (mem_mono hc1.2 (by decide)) w)
  have hv : fval (carryL (carryL l)) % pN = fval l % pN := by rw [carry_val hc1.1, carry_val hl.1]
  have hlen1 := hc1.1
  obtain ⟨A, hA⟩ : ∃ A, A = carryL (carryL l) := ⟨_, rfl⟩
  rw [← hA] at hc2 hv hcB
  have hA5 := hc2.1
  have hVlt := Fe_val_lt hc2
  obtain ⟨q, hq⟩ : ∃ q, q = askF A 5 := ⟨_, rfl⟩
  have hq5 : q = (fval A + 19) / 57896044618658097711785492504343953926634992332820282019728792003956564819968 := by
    rw [hq, askF, List.take_of_length_le (by omega)]
  obtain ⟨hq1, hq2⟩ := least_key hVlt hq5
  have hR5 : (raise0 A q).length = 5 := by rw [raise0, List.length_set, hA5]
  have hRb : ∀ x ∈ raise0 A q, x < 9007199254740992 := by
    intro x hx
    rcases List.mem_or_eq_of_mem_set hx with h | h
    · exact Nat.lt_trans (hc2.2 x h) (by decide)
    · rw [h]
      have := hc2.getD 0
      omega
  have hend : digs 2251799813685248 5 (fval (raise0 A q)) = digs 2251799813685248 5 (fval l % pN) := by
    rw [raise0_val hA5, ← hv, ← hq2]
    exact (digs_mod 2251799813685248 5 _).symm
  have Hover := Lib.hid (least_over hRb)
  have HRb := Lib.hid hRb
  have Hc2 := Lib.hid hc2
  have Hq := Lib.hid hq
  have Hend := Lib.hid hend
  obtain ⟨R, hR⟩ : ∃ R, R = raise0 A q := ⟨_, rfl⟩
  have HR := Lib.hid hR
  rw [← hR] at hR5 Hend Hover HRb
  have Hlast := Lib.hid (runF_last hR5)
  have hAb := fun i => hc2.getD i
  have HAb := Lib.hid hAb
  clear hl hc1 hc2 hA hv hVlt hq hq5 hq2 hRb hend hR hAb
  have hE0 := Env.nil w
  go_enter Try.func60, Try.ntmps60
  repeat ((fail_if_success with_reducible show wA ..); (fail_if_success with_reducible show wB ..); go_step)
  refine wl_step (st_boxA hE0 rfl rfl rfl ?_)
  intro g0 w1 hb1 hE1
  clear hE0
  simp only [Act.put, pA, pB, pC]
  refine wl_step (st_alloc (zs := ints .u64 (List.replicate 5 0)) hE1 rfl rfl (fun w => by kernel_rfl) ?_)
  intro g1 w2 hb2 hE2
  clear hE1
  simp only [Act.put, pA, pB, pC]
  repeat ((fail_if_success with_reducible show wA ..); (fail_if_success with_reducible show wB ..); go_step)
  refine wv (v_load (i := 1) hE2 rfl rfl rfl Try.underlying41 rfl (szA (n := 5))) ?_
  simp only [Act.put, pA, pB, pC]
  refine wl_step (st_gives hE2 rfl (run_call rfl Try.call59) (hcA.out _) ?_)
  intro w3 hb3 hE3
  clear hE2
  simp only [Act.put, pA, pB, pC]
  refine wl_step (st_gives hE3 rfl (run_call rfl Try.call59) (hcB.out _) ?_)
  intro w4 hb4 hE4
  clear hE3
  simp only [Act.put, pA, pB, pC]
  refine wl_step (st_store (i := 1) hE4 rfl rfl rfl rfl rfl (szA (n := 5)) (by first | (simp only [ints_size, digs_length, List.length_replicate, List.length_cons, List.length_nil]; done) | (simp only [ints_size, digs_length, List.length_replicate, List.length_cons, List.length_nil, List.length_set, List.length_append]; omega) | rfl) (by first | exact ints_one _ _ | decide | simp [*]) ?_)
  intro w5 hE5
  clear hE4
  simp only [pB, pC] at hE5
  simp only [Act.put, pA, pB, pC]
  repeat ((fail_if_success with_reducible show wA ..); (fail_if_success with_reducible show wB ..); go_step)
  refine wv (v_moveC (.inr rfl)) ?_
  simp only [Act.put, pA, pB, pC]
  repeat ((fail_if_success with_reducible show wA ..); (fail_if_success with_reducible show wB ..); go_step)
  refine wv (v_field0 (s := 4) rfl rfl Try.underlying41 rfl (by kernel_rfl) rfl) ?_
  simp only [Act.put, pA, pB, pC]
  refine wv (v_load (i := 1) hE5 rfl rfl rfl Try.underlying39 rfl (szA (n := 5))) ?_
  simp only [Act.put, pA, pB, pC]
  refine wv (v_moveC (.inl rfl)) ?_
  simp only [Act.put, pA, pB, pC]
  go_wp2
  go_loopw [3, 12] (fun qv i wr => ∃ k : Nat, k ≤ 5 ∧ i = .int .i64 k ∧ qv = .int .u64 (askF A k : Nat) ∧ Env w [⟨g1, 41, ints .u64 (List.replicate 5 0)⟩, ⟨g0, 41, ints .u64 A⟩] wr) (fun _ i _ => 5 - (intOf i).toNat)
  case atStart => exact ⟨0, Nat.zero_le _, rfl, by rw [askF_zero]; rfl, hE5⟩
  case round =>
    clear hE5
    obtain ⟨k, hk, rfl, rfl, hE0⟩ := hrel
    by_cases hk5 : k < 5
    · have hak := HAb.out k
      have Hst := Lib.hid (askF_step (A := A) (i := k) (by omega))
      have hask := askF_lt HAb.out k (by omega)
      repeat ((fail_if_success with_reducible show wA ..); (fail_if_success with_reducible show wB ..); go_step)
      refine wv (v_lss (n := 5) rfl rfl rfl) ?_
      simp only [Act.put, pA, pB, pC]
      repeat ((fail_if_success with_reducible show wA ..); (fail_if_success with_reducible show wB ..); go_step)
      refine wv (v_idx rfl rfl rfl Try.underlying39 (by kernel_rfl : _ = some Try.t38) rfl Try.underlying38 (by first | assumption | simp) (by first | assumption | omega)) ?_
      simp only [Act.put, pA, pB, pC]
      refine wv (v_moveT (.inr rfl) rfl) ?_
      simp only [Act.put, pA, pB, pC]
      repeat ((fail_if_success with_reducible show wA ..); (fail_if_success with_reducible show wB ..); go_step)
      refine wv (v_moveT (.inl rfl) rfl) ?_
      simp only [Act.put, pA, pB, pC]
      refine wv (v_moveT (.inl rfl) rfl) ?_
      simp only [Act.put, pA, pB, pC]
      refine wv (v_add rfl rfl rfl (by first | exact w_u64 (by omega) | exact w_u64m _)) ?_
      simp only [Act.put, pA, pB, pC]
      refine wv (v_shrC (s := 51) (d := 2251799813685248) rfl rfl rfl (by decide) (by decide)) ?_
      simp only [Act.put, pA, pB, pC]
      rw [← Hst.out]
      refine wv (v_moveT (.inr rfl) rfl) ?_
      simp only [Act.put, pA, pB, pC]
      repeat ((fail_if_success with_reducible show wA ..); (fail_if_success with_reducible show wB ..); go_step)
      refine wv (v_add (n := 1) rfl rfl rfl (w_i64 (by omega))) ?_
      simp only [Act.put, pA, pB, pC]
      refine wv (v_moveT (.inl rfl) rfl) ?_
      simp only [Act.put, pA, pB, pC]
      go_wp2
      go_roundw
      case rel => exact ⟨k + 1, by omega, rfl, rfl, hE0⟩
      case measure => simp [intOf]; omega
    · have hk' : k = 5 := by omega
      subst hk'
      rw [← Hq.out]
      have ha0 := HAb.out 0
      have hst0 : Hid (A.set 0 (A.getD 0 0 + 19 * q) = R) := Lib.hid HR.out.symm
      repeat ((fail_if_success with_reducible show wA ..); (fail_if_success with_reducible show wB ..); go_step)
      refine wv (v_lss (n := 5) rfl rfl rfl) ?_
      simp only [Act.put, pA, pB, pC]
      repeat ((fail_if_success with_reducible show wA ..); (fail_if_success with_reducible show wB ..); go_step)
      refine wv (v_field0 (s := 4) rfl rfl Try.underlying41 rfl (by kernel_rfl) rfl) ?_
      simp only [Act.put, pA, pB, pC]
      refine wv (v_indexA0 (j := 0) rfl rfl rfl Try.underlying39 (by kernel_rfl) (by first | assumption | omega)) ?_
      simp only [Act.put, pA, pB, pC]
      refine wv (v_cell rfl rfl Try.underlying38 rfl (Env.cellv (i := 1) hE0 rfl (ints_get? _ _ _ (by first | assumption | omega | (simp; done) | (simp; omega))))) ?_
      simp only [Act.put, pA, pB, pC]
      refine wv (v_moveT (.inl rfl) rfl) ?_
      simp only [Act.put, pA, pB, pC]
      refine wv (v_mul (m := 19) rfl rfl rfl (by first | exact w_u64 (by omega) | exact w_u64m _)) ?_
      simp only [Act.put, pA, pB, pC]
      refine wv (v_add rfl rfl rfl (by first | exact w_u64 (by omega) | exact w_u64m _)) ?_
      simp only [Act.put, pA, pB, pC]
      refine wv (v_field0 (s := 4) rfl rfl Try.underlying41 rfl (by kernel_rfl) rfl) ?_
      simp only [Act.put, pA, pB, pC]
      refine wv (v_indexA0 (j := 0) rfl rfl rfl Try.underlying39 (by kernel_rfl) (by first | assumption | omega)) ?_
      simp only [Act.put, pA, pB, pC]
      refine wl_step (st_putN (i := 1) hE0 rfl rfl rfl rfl rfl (by kernel_rfl) (by first | assumption | omega | (simp only [List.length_set, List.length_replicate]; first | assumption | omega)) ?_)
      intro w1 hE1
      clear hE0
      simp only [pB, pC] at hE1
      simp only [Act.put, pA, pB, pC]
      repeat ((fail_if_success with_reducible show wA ..); (fail_if_success with_reducible show wB ..); go_step)
      refine wv (v_moveC (.inr rfl)) ?_
      simp only [Act.put, pA, pB, pC]
      rw [hst0.out] at hE1
      go_wp2
      go_loopw [6] (fun i wr => ∃ k : Nat, k ≤ 4 ∧ i = .int .i64 k ∧ Env w [⟨g1, 41, ints .u64 (List.replicate 5 0)⟩, ⟨g0, 41, ints .u64 (runF R k)⟩] wr) (fun i _ => 5 - (intOf i).toNat)
      case atStart => exact ⟨0, Nat.zero_le _, rfl, by rw [runF_zero (by omega)]; exact hE1⟩
      case round =>
        clear hE1 hk hk5
        obtain ⟨k, hk, rfl, hE0⟩ := hrel
        have hX : (runF R k).length = 5 := by rw [runF_len (by omega), hR5]
        have hkR : k < R.length := by omega
        have hget := runF_get hkR
        have hov := Hover.out k (by omega)
        have hrk := getD_lt HRb.out (by decide) k
        have hrk1 := getD_lt HRb.out (by decide) (k + 1)
        have Hget := Lib.hid hget
        clear hget
        by_cases hk4 : k < 4
        · have Hnext := Lib.hid (runF_next hkR)
          have Hstep := Lib.hid (runF_step (R := R) (i := k) (by omega))
          have Hk : ∀ v, ((runF R k).set (k + 1) v).getD k 0 = R.getD k 0 + overF R k := fun v => by
            rw [List.getD_eq_getElem?_getD, List.getElem?_set_ne (by omega), ← List.getD_eq_getElem?_getD]
            exact Hget.out
          have HK := Lib.hid Hk
          clear Hk
          repeat ((fail_if_success with_reducible show wA ..); (fail_if_success with_reducible show wB ..); go_step)
          refine wv (v_moveT (.inl rfl) rfl) ?_
          simp only [Act.put, pA, pB, pC]
          refine wv (v_add (n := 1) rfl rfl rfl (w_i64 (by omega))) ?_
          simp only [Act.put, pA, pB, pC]
          refine wv (v_lss (n := 5) rfl rfl rfl) ?_
          simp only [Act.put, pA, pB, pC]
          repeat ((fail_if_success with_reducible show wA ..); (fail_if_success with_reducible show wB ..); go_step)
          refine wp_region_B (n := 14) 13 (by kernel_rfl) rfl hE0 ?_
          intro w1 hb1 hE1
          clear hE0
          refine wpB_take (i := 0) (by kernel_rfl) rfl (by kernel_rfl) (fun _ _ _ h => h) rfl (v_moveT (.inl rfl) rfl) ?_
          simp only [Act.put, pA, pB, pC]
          refine wpB_take (i := 1) (by kernel_rfl) rfl (by kernel_rfl) (fun _ _ _ h => h) rfl (v_add (n := 1) rfl rfl rfl (w_i64 (by omega))) ?_
          simp only [Act.put, pA, pB, pC]
          refine wpB_take (i := 2) (by kernel_rfl) rfl (by kernel_rfl) (fun _ _ _ h => h) rfl (v_field0 (s := 4) rfl rfl Try.underlying41 rfl (by kernel_rfl) rfl) ?_
          simp only [Act.put, pA, pB, pC]
          refine wpB_take (i := 3) (by kernel_rfl) rfl (by kernel_rfl) (fun _ _ _ h => h) rfl (v_indexA0 rfl rfl rfl Try.underlying39 (by kernel_rfl) (by first | assumption | omega)) ?_
          simp only [Act.put, pA, pB, pC]
          refine wpB_take (i := 4) (by kernel_rfl) rfl (by kernel_rfl) (fun _ _ _ h => h) rfl (v_cell rfl rfl Try.underlying38 rfl (Env.cellv (i := 1) hE1 rfl (ints_get? _ _ _ (by first | assumption | omega | (simp; done) | (simp; omega))))) ?_
          simp only [Act.put, pA, pB, pC]
          rw [Hnext.out]
          refine wpB_take (i := 5) (by kernel_rfl) rfl (by kernel_rfl) (fun _ _ _ h => h) rfl (v_moveT (.inl rfl) rfl) ?_
          simp only [Act.put, pA, pB, pC]
          refine wpB_take (i := 6) (by kernel_rfl) rfl (by kernel_rfl) (fun _ _ _ h => h) rfl (v_field0 (s := 4) rfl rfl Try.underlying41 rfl (by kernel_rfl) rfl) ?_
          simp only [Act.put, pA, pB, pC]
          refine wpB_take (i := 7) (by kernel_rfl) rfl (by kernel_rfl) (fun _ _ _ h => h) rfl (v_indexA0 rfl rfl rfl Try.underlying39 (by kernel_rfl) (by first | assumption | omega)) ?_
          simp only [Act.put, pA, pB, pC]
          refine wpB_take (i := 8) (by kernel_rfl) rfl (by kernel_rfl) (fun _ _ _ h => h) rfl (v_cell rfl rfl Try.underlying38 rfl (Env.cellv (i := 1) hE1 rfl (ints_get? _ _ _ (by first | assumption | omega | (simp; done) | (simp; omega))))) ?_
          simp only [Act.put, pA, pB, pC]
          rw [Hget.out]
          refine wpB_take (i := 9) (by kernel_rfl) rfl (by kernel_rfl) (fun _ _ _ h => h) rfl (v_shrC (s := 51) (d := 2251799813685248) rfl rfl rfl (by decide) (by decide)) ?_
          simp only [Act.put, pA, pB, pC]
          refine wpB_take (i := 10) (by kernel_rfl) rfl (by kernel_rfl) (fun _ _ _ h => h) rfl (v_add rfl rfl rfl (by first | exact w_u64 (by omega) | exact w_u64m _)) ?_
          simp only [Act.put, pA, pB, pC]
          refine wpB_take (i := 11) (by kernel_rfl) rfl (by kernel_rfl) (fun _ _ _ h => h) rfl (v_field0 (s := 4) rfl rfl Try.underlying41 rfl (by kernel_rfl) rfl) ?_
          simp only [Act.put, pA, pB, pC]
          refine wpB_take (i := 12) (by kernel_rfl) rfl (by kernel_rfl) (fun _ _ _ h => h) rfl (v_indexA0 rfl rfl rfl Try.underlying39 (by kernel_rfl) (by first | assumption | omega)) ?_
          simp only [Act.put, pA, pB, pC]
          refine wpB_step (i := 13) (by kernel_rfl) rfl (st_putN (i := 1) hE1 rfl rfl rfl rfl rfl (by kernel_rfl) (by first | assumption | omega | (simp only [List.length_set, List.length_replicate]; first | assumption | omega)) ?_)
          intro w2 hE2
          clear hE1
          simp only [pB, pC] at hE2
          refine ⟨fun h => absurd h (by decide), ?_⟩
          simp only [Act.put, pA, pB, pC]
          refine wpB_done (by kernel_rfl) ?_ _
          repeat ((fail_if_success with_reducible show wA ..); (fail_if_success with_reducible show wB ..); go_step)
          refine wv (v_moveT (.inl rfl) rfl) ?_
          simp only [Act.put, pA, pB, pC]
          refine wv (v_field0 (s := 4) rfl rfl Try.underlying41 rfl (by kernel_rfl) rfl) ?_
          simp only [Act.put, pA, pB, pC]
          refine wv (v_indexA0 rfl rfl rfl Try.underlying39 (by kernel_rfl) (by first | assumption | omega)) ?_
          simp only [Act.put, pA, pB, pC]
          refine wv (v_cell rfl rfl Try.underlying38 rfl (Env.cellv (i := 1) hE2 rfl (ints_get? _ _ _ (by first | assumption | omega | (simp; done) | (simp; omega))))) ?_
          simp only [Act.put, pA, pB, pC]
          rw [HK.out]
          refine wv (v_mask (c := 2251799813685247) (s := 51) (d := 2251799813685248) rfl rfl rfl (by decide) (by decide) rfl (by simp only [IntKind.bits]; omega) (by decide)) ?_
          simp only [Act.put, pA, pB, pC]
          refine wv (v_field0 (s := 4) rfl rfl Try.underlying41 rfl (by kernel_rfl) rfl) ?_
          simp only [Act.put, pA, pB, pC]
          refine wv (v_indexA0 rfl rfl rfl Try.underlying39 (by kernel_rfl) (by first | assumption | omega)) ?_
          simp only [Act.put, pA, pB, pC]
          refine wl_step (st_putN (i := 1) hE2 rfl rfl rfl rfl rfl (by kernel_rfl) (by first | assumption | omega | (simp only [List.length_set, List.length_replicate]; first | assumption | omega)) ?_)
          intro w3 hE3
          clear hE2
          simp only [pB, pC] at hE3
          simp only [Act.put, pA, pB, pC]
          repeat ((fail_if_success with_reducible show wA ..); (fail_if_success with_reducible show wB ..); go_step)
          refine wv (v_moveT (.inl rfl) rfl) ?_
          simp only [Act.put, pA, pB, pC]
          refine wv (v_add (n := 1) rfl rfl rfl (w_i64 (by omega))) ?_
          simp only [Act.put, pA, pB, pC]
          refine wv (v_moveT (.inr rfl) rfl) ?_
          simp only [Act.put, pA, pB, pC]
          rw [Hstep.out] at hE3
          go_wp2
          go_roundw
          case rel => exact ⟨k + 1, by omega, rfl, hE3⟩
          case measure => simp [intOf]; omega
        · have hk' : k = 4 := by omega
          subst hk'
          have hdl : (digs 2251799813685248 5 (fval l % pN)).length = 5 := digs_length _ _ _
          repeat ((fail_if_success with_reducible show wA ..); (fail_if_success with_reducible show wB ..); go_step)
          refine wv (v_moveT (.inl rfl) rfl) ?_
          simp only [Act.put, pA, pB, pC]
          refine wv (v_add (n := 1) rfl rfl rfl (w_i64 (by omega))) ?_
          simp only [Act.put, pA, pB, pC]
          refine wv (v_lss (n := 5) rfl rfl rfl) ?_
          simp only [Act.put, pA, pB, pC]
          repeat ((fail_if_success with_reducible show wA ..); (fail_if_success with_reducible show wB ..); go_step)
          refine wv (v_field0 (s := 4) rfl rfl Try.underlying41 rfl (by kernel_rfl) rfl) ?_
          simp only [Act.put, pA, pB, pC]
          refine wv (v_indexA0 (j := 4) rfl rfl rfl Try.underlying39 (by kernel_rfl) (by first | assumption | omega)) ?_
          simp only [Act.put, pA, pB, pC]
          refine wv (v_cell rfl rfl Try.underlying38 rfl (Env.cellv (i := 1) hE0 rfl (ints_get? _ _ _ (by first | assumption | omega | (simp; done) | (simp; omega))))) ?_
          simp only [Act.put, pA, pB, pC]
          rw [Hget.out]
          refine wv (v_mask (c := 2251799813685247) (s := 51) (d := 2251799813685248) rfl rfl rfl (by decide) (by decide) rfl (by simp only [IntKind.bits]; omega) (by decide)) ?_
          simp only [Act.put, pA, pB, pC]
          refine wv (v_field0 (s := 4) rfl rfl Try.underlying41 rfl (by kernel_rfl) rfl) ?_
          simp only [Act.put, pA, pB, pC]
          refine wv (v_indexA0 (j := 4) rfl rfl rfl Try.underlying39 (by kernel_rfl) (by first | assumption | omega)) ?_
          simp only [Act.put, pA, pB, pC]
          refine wl_step (st_putN (i := 1) hE0 rfl rfl rfl rfl rfl (by kernel_rfl) (by first | assumption | omega | (simp only [List.length_set, List.length_replicate]; first | assumption | omega)) ?_)
          intro w1 hE1
          clear hE0
          simp only [pB, pC] at hE1
          simp only [Act.put, pA, pB, pC]
          rw [Hlast.out, Hend.out] at hE1
          repeat ((fail_if_success with_reducible show wA ..); (fail_if_success with_reducible show wB ..); go_step)
          refine wv (v_load (i := 1) hE1 rfl rfl rfl Try.underlying41 rfl (szA (n := 5))) ?_
          simp only [Act.put, pA, pB, pC]
          refine wl_step (st_store (i := 0) hE1 rfl rfl rfl rfl rfl (szA (n := 5)) (by first | (simp only [ints_size, digs_length, List.length_replicate, List.length_cons, List.length_nil]; done) | (simp only [ints_size, digs_length, List.length_replicate, List.length_cons, List.length_nil, List.length_set, List.length_append]; omega) | rfl) (by first | exact ints_one _ _ | decide | simp [*]) ?_)
          intro w2 hE2
          clear hE1
          simp only [pB, pC] at hE2
          simp only [Act.put, pA, pB, pC]
          repeat ((fail_if_success with_reducible show wA ..); (fail_if_success with_reducible show wB ..); go_step)
          refine bodyPost_ret (results_cell_row rfl _ _ _ _ _ (0, 0) _ rfl (hE2.get (i := 0) rfl) Try.underlying41 rfl (szA (n := 5))) rfl ⟨rfl, hE2.below⟩
end Go.Proofs.Ythddoelflmoedaa
