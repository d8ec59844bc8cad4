/-
  Layer 5: the walks of the small functions of package order: what each returns; nothing that was there is written.
-/
import Derived.Test.YtobfgleckcpcpaaWord
namespace Go.Proofs.Ytobfgleckcpcpaa
open Go.RowKit
set_option linter.unusedVariables false

/-- The call gives v, and writes nothing that was there. -/
abbrev Gives (f : FuncId) (args : Array Value) (w : World) (v : Value) : Prop :=
  Calls Try.prog f args w fun e w' => e = .returned v ∧ Below w.heap.size w w'

/-- How many numbers of four words there are. -/
def big256 : Nat := 115792089237316195423570985008687907853269984665640564039457584007913129639936

/-- A number of four words. -/
abbrev num (N : Nat) : Value := .agg (ints .u64 (digs 18446744073709551616 4 N))

theorem digs4 (N : Nat) (hN : N < big256) : ∃ a b c d : Nat, digs 18446744073709551616 4 N = [a, b, c, d] ∧ a < 18446744073709551616 ∧ b < 18446744073709551616 ∧ c < 18446744073709551616 ∧ d < 18446744073709551616 ∧
    N = a + 18446744073709551616 * (b + 18446744073709551616 * (c + 18446744073709551616 * d)) := by
  unfold big256 at hN
  refine ⟨_, _, _, _, rfl, ?_, ?_, ?_, ?_, ?_⟩ <;> omega

theorem num_open (N : Nat) (hN : N < big256) : ∃ a b c d : Nat, num N = .agg #[.int .u64 a, .int .u64 b, .int .u64 c, .int .u64 d] ∧ a < 18446744073709551616 ∧ b < 18446744073709551616 ∧ c < 18446744073709551616 ∧ d < 18446744073709551616 ∧
    N = a + 18446744073709551616 * (b + 18446744073709551616 * (c + 18446744073709551616 * d)) := by
  obtain ⟨a, b, c, d, h, h'⟩ := digs4 N hN
  exact ⟨a, b, c, d, by simp [num, h, ints], h'⟩

theorem num_mk {a b c d M : Nat} (ha : a < 18446744073709551616) (hb : b < 18446744073709551616) (hc : c < 18446744073709551616) (hd : d < 18446744073709551616)
    (h : M = a + 18446744073709551616 * (b + 18446744073709551616 * (c + 18446744073709551616 * d))) : Value.agg #[.int .u64 a, .int .u64 b, .int .u64 c, .int .u64 d] = num M := by
  have e : digs 18446744073709551616 4 M = [a, b, c, d] := by
    simp only [digs]
    have e0 : M % 18446744073709551616 = a := by omega
    have e1 : M / 18446744073709551616 % 18446744073709551616 = b := by omega
    have e2 : M / 18446744073709551616 / 18446744073709551616 % 18446744073709551616 = c := by omega
    have e3 : M / 18446744073709551616 / 18446744073709551616 / 18446744073709551616 % 18446744073709551616 = d := by omega
    rw [e0, e1, e2, e3]
  simp [num, e, ints]

/-- The order. -/
def q : Nat := 7237005577332262213973186563042994240857116359379907606001950938285454250989
theorem q_eq : q = 2 ^ 252 + 27742317777372353535851937790883648493 := by decide

theorem q_any (w : World) : Gives 30 #[] w (num q) := by
  have e : Value.agg #[.int .u64 (6346243789798364141 : Nat), .int .u64 (1503914060200516822 : Nat), .int .u64 (0 : Nat), .int .u64 (1152921504606846976 : Nat)] = num q := num_mk (by decide) (by decide) (by decide) (by decide) (by decide)
  go_enter Try.func30, Try.ntmps30
  go_wp2
  go_returns
  exact ⟨by rw [← e]; rfl, by go_grown⟩

theorem dbl_word (a c : Nat) (hc : c ≤ 1) : bits .or .u64 (IntKind.u64.wrap ((a : Int) * 2)) (c : Int) = (((2 * a + c) % 18446744073709551616 : Nat) : Int) := by
  have e : IntKind.u64.wrap ((a : Int) * 2) = ((2 * a % 18446744073709551616 : Nat) : Int) := by rw [IntKind.wrap_u64]; omega
  rw [e, u64_or_nat _ _ (by omega) (by omega), nat_join 1 _ _ (by omega) (by omega)]
  omega

set_option maxHeartbeats 1000000 in
theorem double_any (N b : Nat) (hN : N < big256) (hb : b ≤ 1) (w : World) :
    Gives 34 #[num N, .int .u64 b] w (num ((2 * N + b) % big256)) := by
  obtain ⟨n0, n1, n2, n3, hn, h0, h1, h2, h3, HN⟩ := num_open N hN
  rw [hn]
  have fin : Value.agg #[.int .u64 (bits .or .u64 (IntKind.u64.wrap ((n0 : Int) * 2)) b), .int .u64 (bits .or .u64 (IntKind.u64.wrap ((n1 : Int) * 2)) ((n0 : Int) / 9223372036854775808)),
      .int .u64 (bits .or .u64 (IntKind.u64.wrap ((n2 : Int) * 2)) ((n1 : Int) / 9223372036854775808)), .int .u64 (bits .or .u64 (IntKind.u64.wrap ((n3 : Int) * 2)) ((n2 : Int) / 9223372036854775808))] = num ((2 * N + b) % big256) := by
    have e0 : (n0 : Int) / 9223372036854775808 = ((n0 / 9223372036854775808 : Nat) : Int) := by omega
    have e1 : (n1 : Int) / 9223372036854775808 = ((n1 / 9223372036854775808 : Nat) : Int) := by omega
    have e2 : (n2 : Int) / 9223372036854775808 = ((n2 / 9223372036854775808 : Nat) : Int) := by omega
    rw [e0, e1, e2, dbl_word _ _ hb, dbl_word _ _ (by omega), dbl_word _ _ (by omega), dbl_word _ _ (by omega)]
    refine num_mk (by omega) (by omega) (by omega) (by omega) ?_
    unfold big256
    omega
  clear hn h0 h1 h2 h3 HN hb
  have i0 : ∀ w, (Instr.index 37 (.agg #[.int .u64 n0, .int .u64 n1, .int .u64 n2, .int .u64 n3]) (.int .i64 0)).run Try.prog w = .ok (.int .u64 n0) w := fun _ => by kernel_rfl
  have i1 : ∀ w, (Instr.index 37 (.agg #[.int .u64 n0, .int .u64 n1, .int .u64 n2, .int .u64 n3]) (.int .i64 1)).run Try.prog w = .ok (.int .u64 n1) w := fun _ => by kernel_rfl
  have i2 : ∀ w, (Instr.index 37 (.agg #[.int .u64 n0, .int .u64 n1, .int .u64 n2, .int .u64 n3]) (.int .i64 2)).run Try.prog w = .ok (.int .u64 n2) w := fun _ => by kernel_rfl
  have i3 : ∀ w, (Instr.index 37 (.agg #[.int .u64 n0, .int .u64 n1, .int .u64 n2, .int .u64 n3]) (.int .i64 3)).run Try.prog w = .ok (.int .u64 n3) w := fun _ => by kernel_rfl
  have HF := Lib.hid fin
  clear fin
  go_enter Try.func34, Try.ntmps34
  go_wp2
  go_rounds 5
  go_returns
  exact ⟨by rw [← HF.out], by go_grown⟩

theorem int_one (c : Nat) : (c : Int) = 1 ↔ c = 1 := by omega
theorem four_key (d0 d1 d2 d3 o0 o1 o2 o3 n0 n1 n2 n3 c0 c1 c2 c3 V N O: Nat)
 (e0 : d0 + o0 + 0 = n0 + 18446744073709551616 * c0) (e1 : d1 + o1 + c0 = n1 + 18446744073709551616 * c1) (e2 : d2 + o2 + c1 = n2 + 18446744073709551616 * c2) (e3 : d3 + o3 + c2 = n3 + 18446744073709551616 * c3)
    (HN : N = n0 + 18446744073709551616 * (n1 + 18446744073709551616 * (n2 + 18446744073709551616 * n3))) (HO : O = o0 + 18446744073709551616 * (o1 + 18446744073709551616 * (o2 + 18446744073709551616 * o3)))
    (hV : V = d0 + 18446744073709551616 * (d1 + 18446744073709551616 * (d2 + 18446744073709551616 * d3))) : V + O = N + big256 * c3 := by
  unfold big256; omega
theorem four_sum (d0 d1 d2 d3 o0 o1 o2 o3 n0 n1 n2 n3 c0 c1 c2 c3 N O: Nat)
 (e0 : d0 + 18446744073709551616 * c0 = n0 + o0 + 0) (e1 : d1 + 18446744073709551616 * c1 = n1 + o1 + c0) (e2 : d2 + 18446744073709551616 * c2 = n2 + o2 + c1) (e3 : d3 + 18446744073709551616 * c3 = n3 + o3 + c2)
    (HN : N = n0 + 18446744073709551616 * (n1 + 18446744073709551616 * (n2 + 18446744073709551616 * n3))) (HO : O = o0 + 18446744073709551616 * (o1 + 18446744073709551616 * (o2 + 18446744073709551616 * o3))) :
    N + O = d0 + 18446744073709551616 * (d1 + 18446744073709551616 * (d2 + 18446744073709551616 * d3)) + big256 * c3 := by
  unfold big256; omega
theorem four_lt (d0 d1 d2 d3 V: Nat) (h0 : d0 < 18446744073709551616) (h1 : d1 < 18446744073709551616) (h2 : d2 < 18446744073709551616) (h3 : d3 < 18446744073709551616)
    (hV : V = d0 + 18446744073709551616 * (d1 + 18446744073709551616 * (d2 + 18446744073709551616 * d3))) : V < big256 := by
  unfold big256; omega
theorem four_dif (V O N c3: Nat) (key : V + O = N + big256 * c3) (lV : V < big256) (lO : O < big256) (lN : N < big256) (l3 : c3 ≤ 1): (N + big256 - O) % big256 = V ∧ (c3 = 1 ↔ N < O) := by
    unfold big256 at *
    rcases (show c3 = 0 ∨ c3 = 1 by omega) with rfl | rfl <;> omega

theorem minus_num {n0 n1 n2 n3 o0 o1 o2 o3 : Nat} (h0 : n0 < 18446744073709551616) (h1 : n1 < 18446744073709551616) (h2 : n2 < 18446744073709551616) (h3 : n3 < 18446744073709551616)
    (g0 : o0 < 18446744073709551616) (g1 : o1 < 18446744073709551616) (g2 : o2 < 18446744073709551616) (g3 : o3 < 18446744073709551616) {N O c0 c1 c2 c3 d0 d1 d2 d3 : Nat}
    (HN : N = n0 + 18446744073709551616 * (n1 + 18446744073709551616 * (n2 + 18446744073709551616 * n3))) (HO : O = o0 + 18446744073709551616 * (o1 + 18446744073709551616 * (o2 + 18446744073709551616 * o3)))
    (hc0 : c0 = borW n0 o0 0) (hd0 : d0 = difW n0 o0 0) (hc1 : c1 = borW n1 o1 c0) (hd1 : d1 = difW n1 o1 c0) (hc2 : c2 = borW n2 o2 c1) (hd2 : d2 = difW n2 o2 c1) (hc3 : c3 = borW n3 o3 c2) (hd3 : d3 = difW n3 o3 c2) :
    Value.agg #[.int .u64 d0, .int .u64 d1, .int .u64 d2, .int .u64 d3] = num ((N + big256 - O) % big256) ∧ ((c3 : Int) == 1) = decide (N < O) := by
  have l0 : c0 ≤ 1 := hc0 ▸ borW_le _ _ _
  have l1 : c1 ≤ 1 := hc1 ▸ borW_le _ _ _
  have l2 : c2 ≤ 1 := hc2 ▸ borW_le _ _ _
  have l3 : c3 ≤ 1 := hc3 ▸ borW_le _ _ _
  have e0 := dif_bor h0 g0 (c := 0) (by decide)
  have e1 := dif_bor h1 g1 l0
  have e2 := dif_bor h2 g2 l1
  have e3 := dif_bor h3 g3 l2
  have k0 := difW_lt n0 o0 0
  have k1 := difW_lt n1 o1 c0
  have k2 := difW_lt n2 o2 c1
  have k3 := difW_lt n3 o3 c2
  rw [← hd0, ← hc0] at e0
  rw [← hd1, ← hc1] at e1
  rw [← hd2, ← hc2] at e2
  rw [← hd3, ← hc3] at e3
  rw [← hd0] at k0
  rw [← hd1] at k1
  rw [← hd2] at k2
  rw [← hd3] at k3
  clear hc0 hc1 hc2 hc3 hd0 hd1 hd2 hd3
  obtain ⟨V, hV⟩ : ∃ V, V = d0 + 18446744073709551616 * (d1 + 18446744073709551616 * (d2 + 18446744073709551616 * d3)) := ⟨_, rfl⟩
  have hM := four_dif V O N c3 (four_key d0 d1 d2 d3 o0 o1 o2 o3 n0 n1 n2 n3 c0 c1 c2 c3 V N O e0 e1 e2 e3 HN HO hV) (four_lt d0 d1 d2 d3 V k0 k1 k2 k3 hV) (four_lt o0 o1 o2 o3 O g0 g1 g2 g3 HO) (four_lt n0 n1 n2 n3 N h0 h1 h2 h3 HN) l3
  constructor
  · rw [hM.1]
    exact num_mk k0 k1 k2 k3 hV
  · rw [Bool.eq_iff_iff]
    simp only [beq_iff_eq, decide_eq_true_eq]
    exact Iff.trans (int_one c3) hM.2

set_option maxHeartbeats 1000000 in
theorem minus_any (N O : Nat) (hN : N < big256) (hO : O < big256) (w : World) :
    Gives 31 #[num N, num O] w (.tuple #[num ((N + big256 - O) % big256), .bool (decide (N < O))]) := by
  obtain ⟨n0, n1, n2, n3, hn, h0, h1, h2, h3, HN⟩ := num_open N hN
  obtain ⟨o0, o1, o2, o3, ho, g0, g1, g2, g3, HO⟩ := num_open O hO
  rw [hn, ho]
  obtain ⟨c0, hc0⟩ : ∃ c, c = borW n0 o0 0 := ⟨_, rfl⟩
  obtain ⟨d0, hd0⟩ : ∃ c, c = difW n0 o0 0 := ⟨_, rfl⟩
  obtain ⟨c1, hc1⟩ : ∃ c, c = borW n1 o1 c0 := ⟨_, rfl⟩
  obtain ⟨d1, hd1⟩ : ∃ c, c = difW n1 o1 c0 := ⟨_, rfl⟩
  obtain ⟨c2, hc2⟩ : ∃ c, c = borW n2 o2 c1 := ⟨_, rfl⟩
  obtain ⟨d2, hd2⟩ : ∃ c, c = difW n2 o2 c1 := ⟨_, rfl⟩
  obtain ⟨c3, hc3⟩ : ∃ c, c = borW n3 o3 c2 := ⟨_, rfl⟩
  obtain ⟨d3, hd3⟩ : ∃ c, c = difW n3 o3 c2 := ⟨_, rfl⟩
  have s0 : ∀ w, (callFunc 36 #[.int .u64 n0, .int .u64 o0, .int .u64 0]).run Try.prog w = .ok (.value (.tuple #[.int .u64 d0, .int .u64 c0])) w := fun w => by rw [hd0, hc0]; exact run_Sub64 n0 o0 0 (by decide) w
  have s1 : ∀ w, (callFunc 36 #[.int .u64 n1, .int .u64 o1, .int .u64 c0]).run Try.prog w = .ok (.value (.tuple #[.int .u64 d1, .int .u64 c1])) w := fun w => by rw [hd1, hc1]; exact run_Sub64 n1 o1 c0 (hc0 ▸ borW_le _ _ _) w
  have s2 : ∀ w, (callFunc 36 #[.int .u64 n2, .int .u64 o2, .int .u64 c1]).run Try.prog w = .ok (.value (.tuple #[.int .u64 d2, .int .u64 c2])) w := fun w => by rw [hd2, hc2]; exact run_Sub64 n2 o2 c1 (hc1 ▸ borW_le _ _ _) w
  have s3 : ∀ w, (callFunc 36 #[.int .u64 n3, .int .u64 o3, .int .u64 c2]).run Try.prog w = .ok (.value (.tuple #[.int .u64 d3, .int .u64 c3])) w := fun w => by rw [hd3, hc3]; exact run_Sub64 n3 o3 c2 (hc2 ▸ borW_le _ _ _) w
  have HF := Lib.hid (minus_num h0 h1 h2 h3 g0 g1 g2 g3 HN HO hc0 hd0 hc1 hd1 hc2 hd2 hc3 hd3)
  clear hn ho h0 h1 h2 h3 g0 g1 g2 g3 HN HO hc0 hd0 hc1 hd1 hc2 hd2 hc3 hd3 hN hO
  go_enter Try.func31, Try.ntmps31
  go_wp2
  refine wp_loop_rounds 5 ?_
  iterate 4 (rw [rounds_succ]; go_wp2; go_region; go_wp2)
  rw [rounds_succ]
  go_wp2
  go_returns
  exact ⟨by rw [HF.out.1, HF.out.2], by go_grown⟩

end Go.Proofs.Ytobfgleckcpcpaa
