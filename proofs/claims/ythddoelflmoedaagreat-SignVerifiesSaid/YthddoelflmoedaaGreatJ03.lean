/-
  Words of 64 bits: what math/bits' Add64, Sub64, Mul64 answer at this dump; sums, differences and carries as natural numbers. No condition but that words are below 2^64 and carries below 2.
-/
import Derived.Test.YthddoelflmoedaaGreatJ01
import Derived.Test.YthddoelflmoedaaGreatJ02
import Derived.Test.YthddoelflmoedaaGreatProg
import Derived.Handy
import Derived.LoopTactic
import Derived.Shelf.Spec.BitsCarry
import Derived.Shelf.Bits.Mul64
import Derived.Laws.BitsAllLaws
import Derived.Lib.Hide
set_option linter.unusedVariables false
set_option linter.unusedSimpArgs false
namespace Go.Proofs.YthddoelflmoedaaGreat
open Go.RowKit
set_option maxRecDepth 100000

abbrev Gives (f : FuncId) (args : Array Value) (w : World) (v : Value) : Prop :=
 Calls Tryz.prog f args w fun e w' => e = .returned v ∧ Below w.heap.size w w'

def sumW (x y c : Nat) : Nat := (x + y + c) % 18446744073709551616
def carW (x y c : Nat) : Nat := (x + y + c) / 18446744073709551616
def difW (x y c : Nat) : Nat := (x + 18446744073709551616 - y - c) % 18446744073709551616
def borW (x y c : Nat) : Nat := if x < y + c then 1 else 0

theorem sumW_lt (x y c : Nat) : sumW x y c < 18446744073709551616 := Nat.mod_lt _ (by decide)
theorem difW_lt (x y c : Nat) : difW x y c < 18446744073709551616 := Nat.mod_lt _ (by decide)
theorem carW_le {x y c : Nat} (hx : x < 18446744073709551616) (hy : y < 18446744073709551616) (hc : c ≤ 1) : carW x y c ≤ 1 := by unfold carW; omega
theorem borW_le (x y c : Nat) : borW x y c ≤ 1 := by unfold borW; split <;> omega
theorem sum_car (x y c : Nat) : sumW x y c + 18446744073709551616 * carW x y c = x + y + c := Nat.mod_add_div _ _
theorem dif_bor {x y c : Nat} (hx : x < 18446744073709551616) (hy : y < 18446744073709551616) (hc : c ≤ 1) : difW x y c + y + c = x + 18446744073709551616 * borW x y c := by
 unfold difW borW; split <;> omega

theorem run_Add64 (x y c : Nat) (hc : c ≤ 1) (w : World) : (callFunc 95 #[.int .u64 x, .int .u64 y, .int .u64 c]).run Tryz.prog w =
  .ok (.value (.tuple #[.int .u64 (sumW x y c : Nat), .int .u64 (carW x y c : Nat)])) w := by
 rw [run_callFunc_extern Tryz.func95 (by kernel_rfl) (by kernel_rfl) (by kernel_rfl) (e := add64Entry) (by kernel_rfl), run_add64 x y c (by omega) (by omega) (by omega) (by omega)]
 simp only [Result.andThen, sumW, carW]
 congr 5 <;> omega
theorem run_Sub64 (x y c : Nat) (hc : c ≤ 1) (w : World) : (callFunc 116 #[.int .u64 x, .int .u64 y, .int .u64 c]).run Tryz.prog w =
  .ok (.value (.tuple #[.int .u64 (difW x y c : Nat), .int .u64 (borW x y c : Nat)])) w := by
 rw [run_callFunc_extern Tryz.func116 (by kernel_rfl) (by kernel_rfl) (by kernel_rfl) (e := sub64Entry) (by kernel_rfl), run_sub64 x y c hc]
 rfl

def mulHi (x y : Nat) : Nat := x * y / 18446744073709551616
def mulLo (x y : Nat) : Nat := x * y % 18446744073709551616
theorem mulLo_lt (x y : Nat) : mulLo x y < 18446744073709551616 := Nat.mod_lt _ (by decide)
theorem mul_hi_lo (x y : Nat) : mulLo x y + 18446744073709551616 * mulHi x y = x * y := Nat.mod_add_div _ _

set_option maxHeartbeats 1000000 in
theorem Mul64_any (x y : Nat) (hx : x < 18446744073709551616) (hy : y < 18446744073709551616) (w : World) :
  Calls Tryz.prog 96 #[.int .u64 x, .int .u64 y] w fun e w' => e = .returned (.tuple #[.int .u64 (mulHi x y : Nat), .int .u64 (mulLo x y : Nat)]) ∧ w = w' := by
 obtain ⟨bd, bt, bw, hhi⟩ := Lib.mul64_hi x y hx hy
 have ba := Lib.half_mul_le (a := x / 4294967296) (b := y / 4294967296) (by omega) (by omega)
 have bb := Lib.half_mul_le (a := x / 4294967296) (b := y % 4294967296) (by omega) (by omega)
 have bc := Lib.half_mul_le (a := x % 4294967296) (b := y / 4294967296) (by omega) (by omega)
 have ba' : x / 4294967296 * (y / 4294967296) < 18446744073709551616 := by omega
 have bb' : x / 4294967296 * (y % 4294967296) < 18446744073709551616 := by omega
 have bc' : x % 4294967296 * (y / 4294967296) < 18446744073709551616 := by omega
 have bh1 : x / 4294967296 * (y / 4294967296) + (x / 4294967296 * (y % 4294967296) + x % 4294967296 * (y % 4294967296) / 4294967296) / 4294967296 < 18446744073709551616 := by omega
 have bh : x / 4294967296 * (y / 4294967296) + (x / 4294967296 * (y % 4294967296) + x % 4294967296 * (y % 4294967296) / 4294967296) / 4294967296 + ((x / 4294967296 * (y % 4294967296) + x % 4294967296 * (y % 4294967296) / 4294967296) % 4294967296 + x % 4294967296 * (y / 4294967296)) / 4294967296 < 18446744073709551616 := by omega
 go_enter Tryz.func96, Tryz.ntmps96
 go_wp2
 simp only [Mul64.maskN x hx, Mul64.maskN y hy, Mul64.divN, Mul64.mulN, Mul64.addN, Mul64.wrapN _ bd, Mul64.wrapN _ bb', Mul64.wrapN _ bt, Mul64.maskN _ bt, Mul64.wrapN _ bc', Mul64.wrapN _ bw, Mul64.wrapN _ ba', Mul64.wrapN _ bh1, Mul64.wrapN _ bh, Mul64.wrapM (x * y)]
 rw [hhi]
 go_ret2
 exact ⟨rfl, rfl⟩

theorem run_index_row {P : Program} {t e : TypeId} {n : Nat} {i : TypeInfo} {k : IntKind} (ht : P.underlying t = some (.array n e)) (hi : P.info? e = some i) (hs : i.size = 1) (hu : P.underlying e = some (.int k))
  (l : List Nat) (kj : IntKind) (j : Nat) (hl : l.length = n) (hj : j < n) (w : World) :
  (Instr.index t (.agg (ints k l)) (.int kj (j : Int))).run P w = .ok (.int k (l.getD j 0 : Nat)) w := by
 have hv := ints_get? k l j (by omega)
 simp [Instr.index, asIntOf, run_underlying ht, part, isAgg, run_underlying hu, sizeOf, typeInfo, hi, hs, hj, hv]
end Go.Proofs.YthddoelflmoedaaGreat
