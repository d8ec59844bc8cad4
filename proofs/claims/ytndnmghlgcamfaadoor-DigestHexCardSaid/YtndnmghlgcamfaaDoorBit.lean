/-
  More of what only reads: minus and complement of a number, a negative number taken without its sign; words of 32 bits.
  No condition on the program.
-/
import Derived.Test.YtndnmghlgcamfaaDoorStep
namespace Go.Proofs.YtndnmghlgcamfaaDoor
open Go.RowKit
set_option maxRecDepth 100000
set_option linter.unusedVariables false
set_option linter.unusedSimpArgs false
section
variable {P : Program} {a : Act} {w : World} {o : Oper}
theorem v_negN {t : TypeId} {x : Operand} {m : Nat} (ho : o.op = .unOp .neg t x) (hx : a.eval x = .int .i64 (m : Int)) (hm : m < 9223372036854775808) : Val P o a (.int .i64 (-(m : Int))) w := v_run fun w => by
  unfold execOp
  simp only [ho, hx, Op.unary, Op.intArith, Sem.run_bind, Sem.run_pure]
  have h : IntKind.i64.wrap (-(m : Int)) = -(m : Int) := by rw [IntKind.wrap_i64]; omega
  simp [h]
theorem v_convNeg {s d : TypeId} {x : Operand} {m : Nat} {ds : TypeDesc} (ho : o.op = .convert s d x) (hx : a.eval x = .int .i64 (-(m : Int))) (hs : P.underlying s = some ds) (hd : P.underlying d = some (.int .u64)) (h0 : 0 < m) (hm : m < 9223372036854775808) :
    Val P o a (.int .u64 ((18446744073709551616 - m : Nat) : Int)) w := v_run fun w => by
  unfold execOp
  simp only [ho, hx, convert, Sem.run_bind, run_underlying hs, run_underlying hd, Result.andThen_ok]
  have : IntKind.u64.wrap (-(m : Int)) = ((18446744073709551616 - m : Nat) : Int) := by rw [IntKind.wrap_u64]; omega
  simp [Conv.intToInt, Sem.run_pure, this]
theorem v_compl {t : TypeId} {x : Operand} {k : IntKind} {m : Nat} (ho : o.op = .unOp .xor t x) (hx : a.eval x = .int k (m : Int)) (hk : k.signed = false) (hm : m < 2 ^ k.bits) : Val P o a (.int k ((2 ^ k.bits - 1 - m : Nat) : Int)) w := v_run fun w => by
  have hmax : k.max = ((2 ^ k.bits - 1 : Nat) : Int) := by cases k <;> first | (cases hk; done) | rfl
  have hlt : 2 ^ k.bits - 1 < 2 ^ k.bits := Nat.sub_lt (Nat.pow_pos (by decide)) (by decide)
  have hx' : (2 ^ k.bits - 1) ^^^ m = 2 ^ k.bits - 1 - m := by
    apply Nat.eq_of_testBit_eq
    intro i
    rw [Nat.testBit_xor, Nat.testBit_two_pow_sub_one]
    have e : 2 ^ k.bits - 1 - m = 2 ^ k.bits - (m + 1) := by omega
    rw [e, Nat.testBit_two_pow_sub_succ hm]
    by_cases hi : i < k.bits
    · simp [hi]
    · have : m.testBit i = false := Nat.testBit_lt_two_pow (Nat.lt_of_lt_of_le hm (Nat.pow_le_pow_right (by decide) (by omega)))
      simp [hi, this]
  have hw : k.wrap (((2 ^ k.bits - 1) ^^^ m : Nat) : Int) = (((2 ^ k.bits - 1) ^^^ m : Nat) : Int) := w_uns hk (Nat.xor_lt_two_pow hlt hm)
  rw [hx'] at hw
  unfold execOp
  simp only [ho, hx, Op.unary, hk, hmax, Sem.run_bind, Sem.run_pure, Op.intBits, ofInt_nat hm, ofInt_nat hlt, BitVec.toNat_xor, hx', hw, Bool.false_eq_true, if_false]
  rfl
theorem w_m32 (n : Nat) : IntKind.u32.wrap (n : Int) = ((n % 4294967296 : Nat) : Int) := by simp [IntKind.wrap, IntKind.bits, IntKind.signed]
end
end Go.Proofs.YtndnmghlgcamfaaDoor
