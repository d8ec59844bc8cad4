/-
  Layer 6, the document's answer: any multiple, the point of bytes, the base.
-/
import Derived.Test.YtmebjoehmheknaaJ15
import Derived.Test.YtmebjoehmheknaaJ20
import Derived.Test.YtmebjoehmheknaaJ21
namespace Go.Proofs.Ytmebjoehmheknaa
open Go.RowKit
set_option linter.unusedVariables false
set_option linter.unusedSimpArgs false

abbrev P3 := Nat × Nat × Nat
def add3 (p q : P3) : P3 := (raX p.1 p.2.1 p.2.2 q.1 q.2.1 q.2.2, raY p.1 p.2.1 p.2.2 q.1 q.2.1 q.2.2, raZ p.1 p.2.1 p.2.2 q.1 q.2.1 q.2.2)
def R3 (p : P3) (P : Pt) : Prop := RRep p.1 p.2.1 p.2.2 P
abbrev rv (p : P3) : Value := rp p.1 p.2.1 p.2.2
theorem add3_ok {p q : P3} {P Q : Pt} (h : R3 p P) (h' : R3 q Q) : R3 (add3 p q) (padd P Q) := ra_ok h h'
theorem add3_any {p q : P3} {P Q : Pt} (h : R3 p P) (h' : R3 q Q) (w : World) : Gives 23 #[rv p, rv q, nm dN] w (rv (add3 p q)) := rPAdd_any h.lx h.ly h.lz h'.lx h'.ly h'.lz w
/-- What is doubled, and what has been added, before the bit k. -/
def dbl3 (p : P3) : Nat → P3
  | 0 => p
  | k + 1 => add3 (dbl3 p k) (dbl3 p k)
def out3 (N : Nat) (p : P3) : Nat → P3
  | 0 => (0, 1, 1)
  | k + 1 => if N / 2 ^ k % 2 = 1 then add3 (out3 N p k) (dbl3 p k) else out3 N p k
theorem dbl3_ok {p : P3} {P : Pt} (h : R3 p P) : ∀ k, R3 (dbl3 p k) (smul (2 ^ k) P)
  | 0 => by
    rw [Nat.pow_zero, smul_one]
    exact h
  | k + 1 => by
    rw [Nat.pow_succ, Nat.mul_comm, smul_two]
    exact add3_ok (dbl3_ok h k) (dbl3_ok h k)
theorem out3_ok {p : P3} {P : Pt} (h : R3 p P) (N : Nat) : ∀ k, R3 (out3 N p k) (smul (N % 2 ^ k) P)
  | 0 => by
    rw [Nat.pow_zero, Nat.mod_one]
    exact RRep_zero
  | k + 1 => by
    have e : N % 2 ^ (k + 1) = N % 2 ^ k + 2 ^ k * (N / 2 ^ k % 2) := by rw [Nat.pow_succ, Nat.mod_mul]
    unfold out3
    by_cases h1 : N / 2 ^ k % 2 = 1
    · rw [if_pos h1, e, h1, Nat.mul_one, smul_add]
      exact add3_ok (out3_ok h N k) (dbl3_ok h k)
    · have h0 : N / 2 ^ k % 2 = 0 := by omega
      rw [if_neg h1, e, h0, Nat.mul_zero, Nat.add_zero]
      exact out3_ok h N k
theorem bit_byte {b : List Nat} (db : Digs 256 b) (i : Nat) : b.getD (i / 8) 0 / 2 ^ (i % 8) % 2 = val 256 b / 2 ^ i % 2 := by
  rw [← val_div_mod db (by decide), show (256 : Nat) = 2 ^ 8 from rfl, ← Nat.pow_mul, mod_pow_div_mod (B := 2) _ 8 (i % 8) (Nat.mod_lt _ (by decide)), Nat.div_div_eq_div_mul, ← Nat.pow_add, show 8 * (i / 8) + i % 8 = i by omega]

set_option maxRecDepth 100000 in
set_option maxHeartbeats 8000000 in
theorem rPMul_walk {p : P3} {b : List Nat} {P : Pt} (h : R3 p P) (hb : b.length = 32) (db : Digs 256 b) (w : World) : Gives 24 #[rv p, .agg (ints .u8 b)] w (rv (out3 (val 256 b) p 256)) := by
  have Hbit := Lib.hid (fun j => bit_byte db j)
  have Hbyte := Lib.hid (fun j => db.getD (by decide) j)
  obtain ⟨N, hNe⟩ : ∃ N, val 256 b = N := ⟨_, rfl⟩
  rw [hNe] at Hbit ⊢
  have Hd := Lib.hid (fun k => dbl3_ok h k)
  have Ho := Lib.hid (fun k => out3_ok h N k)
  have HD := Lib.hid (fun w => rD_any w)
  have HZ := Lib.hid (fun w => rZero_any w)
  have n1 := nm_len dN
  have l1 := rpL_len p.1 p.2.1 p.2.2
  have l2 := rpL_len 0 1 1
  clear h db hNe
  have hE0 := Env.nil w
  go_enter Try.func24, Try.ntmps24
  repeat ((fail_if_success with_reducible show wA ..); (fail_if_success with_reducible show wB ..); go_step)
  refine wl_step (st_boxA hE0 rfl rfl rfl ?_)
  intro g0 w1 hb1 hE1
  clear hE0
  simp only [Act.put, pA, pB, pC]
  refine wl_step (st_boxA hE1 rfl rfl rfl ?_)
  intro g1 w2 hb2 hE2
  clear hE1
  simp only [Act.put, pA, pB, pC]
  refine wl_step (st_alloc (zs := ints .u32 (List.replicate 24 0)) hE2 rfl rfl (fun w => by kernel_rfl) ?_)
  intro g2 w3 hb3 hE3
  clear hE2
  simp only [Act.put, pA, pB, pC]
  repeat ((fail_if_success with_reducible show wA ..); (fail_if_success with_reducible show wB ..); go_step)
  refine wl_step (st_gives hE3 rfl (run_call rfl Try.call21) (HD.out _) ?_)
  intro w4 hb4 hE4
  clear hE3
  simp only [Act.put, pA, pB, pC]
  refine wl_step (st_alloc (zs := ints .u32 (List.replicate 8 0)) hE4 rfl rfl (fun w => by kernel_rfl) ?_)
  intro g3 w5 hb5 hE5
  clear hE4
  simp only [Act.put, pA, pB, pC]
  refine wl_step (st_store (i := 0) hE5 rfl rfl rfl rfl rfl (szA (n := 8)) (by first | (simp only [ints_size, digs_length, List.length_replicate, List.length_cons, List.length_nil]; done) | (simp only [ints_size, digs_length, List.length_replicate, List.length_cons, List.length_nil, List.length_set, List.length_append]; omega) | rfl) (by first | exact ints_one _ _ | decide | simp [*]) ?_)
  intro w6 hE6
  clear hE5
  simp only [pB, pC] at hE6
  simp only [Act.put, pA, pB, pC]
  repeat ((fail_if_success with_reducible show wA ..); (fail_if_success with_reducible show wB ..); go_step)
  refine wl_step (st_gives hE6 rfl (run_call rfl Try.call51) (HZ.out _) ?_)
  intro w7 hb7 hE7
  clear hE6
  simp only [Act.put, pA, pB, pC]
  refine wl_step (st_alloc (zs := ints .u32 (List.replicate 24 0)) hE7 rfl rfl (fun w => by kernel_rfl) ?_)
  intro g4 w8 hb8 hE8
  clear hE7
  simp only [Act.put, pA, pB, pC]
  refine wl_step (st_store (i := 0) hE8 rfl rfl rfl rfl rfl (szA (n := 24)) (by first | (simp only [ints_size, digs_length, List.length_replicate, List.length_cons, List.length_nil]; done) | (simp only [ints_size, digs_length, List.length_replicate, List.length_cons, List.length_nil, List.length_set, List.length_append]; omega) | rfl) (by first | exact ints_one _ _ | decide | simp [*]) ?_)
  intro w9 hE9
  clear hE8
  simp only [pB, pC] at hE9
  simp only [Act.put, pA, pB, pC]
  repeat ((fail_if_success with_reducible show wA ..); (fail_if_success with_reducible show wB ..); go_step)
  refine wv (v_moveC (.inr rfl)) ?_
  simp only [Act.put, pA, pB, pC]
  go_wp2
  go_loopw [7] (fun i wr => ∃ K : Nat, K ≤ 256 ∧ i = .int .i64 K ∧ Env w [⟨g4, 45, ints .u32 (rpL (out3 N p K).1 (out3 N p K).2.1 (out3 N p K).2.2)⟩, ⟨g3, 43, ints .u32 (digs 4294967296 8 dN)⟩, ⟨g2, 45, ints .u32 (List.replicate 24 0)⟩, ⟨g1, 22, ints .u8 b⟩, ⟨g0, 45, ints .u32 (rpL (dbl3 p K).1 (dbl3 p K).2.1 (dbl3 p K).2.2)⟩] wr) (fun i _ => 256 - (intOf i).toNat)
  case atStart => exact ⟨0, Nat.zero_le _, rfl, hE9⟩
  case round =>
    clear hE9
    obtain ⟨K, hK, rfl, hE0⟩ := hrel
    have ld := rpL_len (dbl3 p K).1 (dbl3 p K).2.1 (dbl3 p K).2.2
    have lo := rpL_len (out3 N p K).1 (out3 N p K).2.1 (out3 N p K).2.2
    by_cases hlt : K < 256
    · have hd := Hd.out K
      have ho := Ho.out K
      have ga := Lib.hid (fun w => add3_any ho hd w)
      have gd := Lib.hid (fun w => add3_any hd hd w)
      have ed : dbl3 p (K + 1) = add3 (dbl3 p K) (dbl3 p K) := rfl
      have eo : out3 N p (K + 1) = if N / 2 ^ K % 2 = 1 then add3 (out3 N p K) (dbl3 p K) else out3 N p K := rfl
      obtain ⟨D, hD⟩ : ∃ D, dbl3 p K = D := ⟨_, rfl⟩
      obtain ⟨O, hO⟩ : ∃ O, out3 N p K = O := ⟨_, rfl⟩
      rw [hD] at hE0 ld hd ga gd ed eo
      rw [hO] at hE0 lo ho ga eo
      obtain ⟨DD, hDD⟩ : ∃ D', add3 D D = D' := ⟨_, rfl⟩
      obtain ⟨OD, hOD⟩ : ∃ D', add3 O D = D' := ⟨_, rfl⟩
      rw [hDD] at gd ed
      rw [hOD] at ga eo
      have lDD := rpL_len DD.1 DD.2.1 DD.2.2
      have lOD := rpL_len OD.1 OD.2.1 OD.2.2
      obtain ⟨d1, d2, d3⟩ := D
      obtain ⟨o1, o2, o3⟩ := O
      obtain ⟨e1, e2, e3⟩ := DD
      obtain ⟨f1, f2, f3⟩ := OD
      simp only at hE0 ld lo lDD lOD
      have GA : Hid (∀ w, Gives 23 #[.agg (ints .u32 (rpL o1 o2 o3)), .agg (ints .u32 (rpL d1 d2 d3)), nm dN] w (.agg (ints .u32 (rpL f1 f2 f3)))) := ga
      have GD : Hid (∀ w, Gives 23 #[.agg (ints .u32 (rpL d1 d2 d3)), .agg (ints .u32 (rpL d1 d2 d3)), nm dN] w (.agg (ints .u32 (rpL e1 e2 e3)))) := gd
      have hb1 := Hbit.out K
      have hb2 := Hbyte.out (K / 8)
      have hi : K / 8 < b.length := by omega
      have hi' : K / 8 < 32 := by omega
      obtain ⟨c, hc⟩ : ∃ c, b.getD (K / 8) 0 = c := ⟨_, rfl⟩
      rw [hc] at hb1 hb2
      have h9 : K % 8 ≤ IntKind.u8.bits := by simp only [IntKind.bits]; omega
      have HC := Lib.hid hc
      have Ed := Lib.hid ed
      clear hc hD hO hDD hOD ed ga gd hd ho
      by_cases h1 : N / 2 ^ K % 2 = 1
      · rw [if_pos h1] at eo
        have Eo := Lib.hid eo
        have HB := Lib.hid (decide_eq_true (show c / 2 ^ (K % 8) % 2 = 1 by rw [hb1]; exact h1))
        clear eo h1 hb1
        repeat ((fail_if_success with_reducible show wA ..); (fail_if_success with_reducible show wB ..); go_step)
        refine wv (v_moveT (.inl rfl) rfl) ?_
        simp only [Act.put, pA, pB, pC]
        refine wv (v_lss (n := 256) rfl rfl rfl) ?_
        simp only [Act.put, pA, pB, pC]
        repeat ((fail_if_success with_reducible show wA ..); (fail_if_success with_reducible show wB ..); go_step)
        refine wv (v_moveT (.inl rfl) rfl) ?_
        simp only [Act.put, pA, pB, pC]
        refine wv (v_quo (n := 8) rfl rfl rfl (by omega) (w_i64 (by omega))) ?_
        simp only [Act.put, pA, pB, pC]
        refine wv (v_indexA0 rfl rfl rfl Try.underlying22 (by kernel_rfl) (by first | assumption | omega)) ?_
        simp only [Act.put, pA, pB, pC]
        refine wv (v_cell rfl rfl Try.underlying5 rfl (Env.cellv (i := 3) hE0 rfl (ints_get? _ _ _ (by first | assumption | omega | (simp; done) | (simp; omega))))) ?_
        simp only [Act.put, pA, pB, pC]
        rw [HC.out]
        refine wv (v_moveT (.inl rfl) rfl) ?_
        simp only [Act.put, pA, pB, pC]
        refine wv (v_rem (n := 8) rfl rfl rfl (by omega)) ?_
        simp only [Act.put, pA, pB, pC]
        refine wv (v_shr rfl rfl rfl h9) ?_
        simp only [Act.put, pA, pB, pC]
        refine wv (v_rem (n := 2) rfl rfl rfl (by omega)) ?_
        simp only [Act.put, pA, pB, pC]
        refine wv (v_eql (n := 1) rfl rfl rfl) ?_
        simp only [Act.put, pA, pB, pC]
        rw [HB.out]
        repeat ((fail_if_success with_reducible show wA ..); (fail_if_success with_reducible show wB ..); (fail_if_success (with_reducible show Code.wp _ (Code.cond _ _ _) _ _ _)); go_step)
        refine wp_cond_true (by first | rfl | exact congrArg Value.bool (decide_eq_true (by omega))) ?_
        skip
        repeat ((fail_if_success with_reducible show wA ..); (fail_if_success with_reducible show wB ..); go_step)
        refine wv (v_load (i := 0) hE0 rfl rfl rfl Try.underlying45 rfl (szA (n := 24))) ?_
        simp only [Act.put, pA, pB, pC]
        refine wv (v_load (i := 4) hE0 rfl rfl rfl Try.underlying45 rfl (szA (n := 24))) ?_
        simp only [Act.put, pA, pB, pC]
        refine wv (v_load (i := 1) hE0 rfl rfl rfl Try.underlying43 rfl (szA (n := 8))) ?_
        simp only [Act.put, pA, pB, pC]
        refine wl_step (st_gives hE0 rfl (run_call rfl Try.call23) (GA.out _) ?_)
        intro w1 hb1 hE1
        clear hE0
        simp only [Act.put, pA, pB, pC]
        refine wl_step (st_store (i := 0) hE1 rfl rfl rfl rfl rfl (szA (n := 24)) (by first | (simp only [ints_size, digs_length, List.length_replicate, List.length_cons, List.length_nil]; done) | (simp only [ints_size, digs_length, List.length_replicate, List.length_cons, List.length_nil, List.length_set, List.length_append]; omega) | rfl) (by first | exact ints_one _ _ | decide | simp [*]) ?_)
        intro w2 hE2
        clear hE1
        simp only [pB, pC] at hE2
        simp only [Act.put, pA, pB, pC]
        repeat ((fail_if_success with_reducible show wA ..); (fail_if_success with_reducible show wB ..); go_step)
        refine wv (v_load (i := 4) hE2 rfl rfl rfl Try.underlying45 rfl (szA (n := 24))) ?_
        simp only [Act.put, pA, pB, pC]
        refine wv (v_load (i := 4) hE2 rfl rfl rfl Try.underlying45 rfl (szA (n := 24))) ?_
        simp only [Act.put, pA, pB, pC]
        refine wv (v_load (i := 1) hE2 rfl rfl rfl Try.underlying43 rfl (szA (n := 8))) ?_
        simp only [Act.put, pA, pB, pC]
        refine wl_step (st_gives hE2 rfl (run_call rfl Try.call23) (GD.out _) ?_)
        intro w3 hb3 hE3
        clear hE2
        simp only [Act.put, pA, pB, pC]
        refine wl_step (st_store (i := 4) hE3 rfl rfl rfl rfl rfl (szA (n := 24)) (by first | (simp only [ints_size, digs_length, List.length_replicate, List.length_cons, List.length_nil]; done) | (simp only [ints_size, digs_length, List.length_replicate, List.length_cons, List.length_nil, List.length_set, List.length_append]; omega) | rfl) (by first | exact ints_one _ _ | decide | simp [*]) ?_)
        intro w4 hE4
        clear hE3
        simp only [pB, pC] at hE4
        simp only [Act.put, pA, pB, pC]
        repeat ((fail_if_success with_reducible show wA ..); (fail_if_success with_reducible show wB ..); go_step)
        refine wv (v_moveT (.inl rfl) rfl) ?_
        simp only [Act.put, pA, pB, pC]
        refine wv (v_add (n := 1) rfl rfl rfl (w_i64 (by omega))) ?_
        simp only [Act.put, pA, pB, pC]
        refine wv (v_moveT (.inr rfl) rfl) ?_
        simp only [Act.put, pA, pB, pC]
        go_wp2
        go_roundw
        case rel => exact ⟨K + 1, by omega, rfl, by rw [Eo.out, Ed.out]; exact hE4⟩
        case measure => simp [intOf]; omega
      · rw [if_neg h1] at eo
        have Eo := Lib.hid eo
        have HB := Lib.hid (decide_eq_false (show ¬ c / 2 ^ (K % 8) % 2 = 1 by rw [hb1]; exact h1))
        clear eo h1 hb1
        repeat ((fail_if_success with_reducible show wA ..); (fail_if_success with_reducible show wB ..); go_step)
        refine wv (v_moveT (.inl rfl) rfl) ?_
        simp only [Act.put, pA, pB, pC]
        refine wv (v_lss (n := 256) rfl rfl rfl) ?_
        simp only [Act.put, pA, pB, pC]
        repeat ((fail_if_success with_reducible show wA ..); (fail_if_success with_reducible show wB ..); go_step)
        refine wv (v_moveT (.inl rfl) rfl) ?_
        simp only [Act.put, pA, pB, pC]
        refine wv (v_quo (n := 8) rfl rfl rfl (by omega) (w_i64 (by omega))) ?_
        simp only [Act.put, pA, pB, pC]
        refine wv (v_indexA0 rfl rfl rfl Try.underlying22 (by kernel_rfl) (by first | assumption | omega)) ?_
        simp only [Act.put, pA, pB, pC]
        refine wv (v_cell rfl rfl Try.underlying5 rfl (Env.cellv (i := 3) hE0 rfl (ints_get? _ _ _ (by first | assumption | omega | (simp; done) | (simp; omega))))) ?_
        simp only [Act.put, pA, pB, pC]
        rw [HC.out]
        refine wv (v_moveT (.inl rfl) rfl) ?_
        simp only [Act.put, pA, pB, pC]
        refine wv (v_rem (n := 8) rfl rfl rfl (by omega)) ?_
        simp only [Act.put, pA, pB, pC]
        refine wv (v_shr rfl rfl rfl h9) ?_
        simp only [Act.put, pA, pB, pC]
        refine wv (v_rem (n := 2) rfl rfl rfl (by omega)) ?_
        simp only [Act.put, pA, pB, pC]
        refine wv (v_eql (n := 1) rfl rfl rfl) ?_
        simp only [Act.put, pA, pB, pC]
        rw [HB.out]
        repeat ((fail_if_success with_reducible show wA ..); (fail_if_success with_reducible show wB ..); (fail_if_success (with_reducible show Code.wp _ (Code.cond _ _ _) _ _ _)); go_step)
        refine wp_cond_false (by first | rfl | exact congrArg Value.bool (decide_eq_false (by omega))) ?_
        skip
        repeat ((fail_if_success with_reducible show wA ..); (fail_if_success with_reducible show wB ..); go_step)
        refine wv (v_load (i := 4) hE0 rfl rfl rfl Try.underlying45 rfl (szA (n := 24))) ?_
        simp only [Act.put, pA, pB, pC]
        refine wv (v_load (i := 4) hE0 rfl rfl rfl Try.underlying45 rfl (szA (n := 24))) ?_
        simp only [Act.put, pA, pB, pC]
        refine wv (v_load (i := 1) hE0 rfl rfl rfl Try.underlying43 rfl (szA (n := 8))) ?_
        simp only [Act.put, pA, pB, pC]
        refine wl_step (st_gives hE0 rfl (run_call rfl Try.call23) (GD.out _) ?_)
        intro w1 hb1 hE1
        clear hE0
        simp only [Act.put, pA, pB, pC]
        refine wl_step (st_store (i := 4) hE1 rfl rfl rfl rfl rfl (szA (n := 24)) (by first | (simp only [ints_size, digs_length, List.length_replicate, List.length_cons, List.length_nil]; done) | (simp only [ints_size, digs_length, List.length_replicate, List.length_cons, List.length_nil, List.length_set, List.length_append]; omega) | rfl) (by first | exact ints_one _ _ | decide | simp [*]) ?_)
        intro w2 hE2
        clear hE1
        simp only [pB, pC] at hE2
        simp only [Act.put, pA, pB, pC]
        repeat ((fail_if_success with_reducible show wA ..); (fail_if_success with_reducible show wB ..); go_step)
        refine wv (v_moveT (.inl rfl) rfl) ?_
        simp only [Act.put, pA, pB, pC]
        refine wv (v_add (n := 1) rfl rfl rfl (w_i64 (by omega))) ?_
        simp only [Act.put, pA, pB, pC]
        refine wv (v_moveT (.inr rfl) rfl) ?_
        simp only [Act.put, pA, pB, pC]
        go_wp2
        go_roundw
        case rel => exact ⟨K + 1, by omega, rfl, by rw [Eo.out, Ed.out]; exact hE2⟩
        case measure => simp [intOf]; omega
    · have hK' : K = 256 := by omega
      subst hK'
      repeat ((fail_if_success with_reducible show wA ..); (fail_if_success with_reducible show wB ..); go_step)
      refine wv (v_moveT (.inl rfl) rfl) ?_
      simp only [Act.put, pA, pB, pC]
      refine wv (v_lss (n := 256) rfl rfl rfl) ?_
      simp only [Act.put, pA, pB, pC]
      repeat ((fail_if_success with_reducible show wA ..); (fail_if_success with_reducible show wB ..); go_step)
      refine wv (v_load (i := 0) hE0 rfl rfl rfl Try.underlying45 rfl (szA (n := 24))) ?_
      simp only [Act.put, pA, pB, pC]
      refine wl_step (st_store (i := 2) hE0 rfl rfl rfl rfl rfl (szA (n := 24)) (by first | (simp only [ints_size, digs_length, List.length_replicate, List.length_cons, List.length_nil]; done) | (simp only [ints_size, digs_length, List.length_replicate, List.length_cons, List.length_nil, List.length_set, List.length_append]; omega) | rfl) (by first | exact ints_one _ _ | decide | simp [*]) ?_)
      intro w1 hE1
      clear hE0
      simp only [pB, pC] at hE1
      simp only [Act.put, pA, pB, pC]
      repeat ((fail_if_success with_reducible show wA ..); (fail_if_success with_reducible show wB ..); go_step)
      refine bodyPost_ret (results_cell_row rfl _ _ _ _ _ (0, 0) _ rfl (hE1.get (i := 2) rfl) Try.underlying45 rfl (szA (n := 24))) rfl ⟨rfl, hE1.below⟩
theorem rPMul_any {p : P3} {b : List Nat} {P : Pt} (h : R3 p P) (hb : b.length = 32) (db : Digs 256 b) : ∃ r, R3 r (smul (val 256 b) P) ∧ ∀ w, Gives 24 #[rv p, .agg (ints .u8 b)] w (rv r) := by
  have h1 := out3_ok h (val 256 b) 256
  rw [Nat.mod_eq_of_lt (show val 256 b < 2 ^ 256 by have := val_lt db; rw [hb] at this; exact this)] at h1
  exact ⟨_, h1, fun w => rPMul_walk h hb db w⟩
end Go.Proofs.Ytmebjoehmheknaa
