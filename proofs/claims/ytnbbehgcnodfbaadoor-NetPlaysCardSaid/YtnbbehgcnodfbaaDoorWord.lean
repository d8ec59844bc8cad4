/-
  Words of 64 bits: what math/bits' Add64, Sub64, Mul64 answer at this dump; sums, differences and carries as natural numbers.
  No condition but that words are below 2^64 and carries below 2.
-/
import Derived.Test.YtnbbehgcnodfbaaDoorProg
import Derived.Test.YtnbbehgcnodfbaaDoorNum
import Derived.Test.YtnbbehgcnodfbaaDoorVals
import Derived.Handy
import Derived.LoopTactic
import Derived.Shelf.Spec.BitsCarry
import Derived.Shelf.Bits.Mul64
import Derived.Laws.BitsAllLaws
import Derived.Lib.Hide
namespace Go.Proofs.YtnbbehgcnodfbaaDoor
open Go.RowKit
set_option maxRecDepth 100000

/-- The call gives v, and writes nothing that was there. -/
abbrev Gives (f : FuncId) (args : Array Value) (w : World) (v : Value) : Prop :=
  Calls Tryd.prog f args w fun e w' => e = .returned v ∧ Below w.heap.size w w'

def sumW (x y c : Nat) : Nat := (x + y + c) % 18446744073709551616
def carW (x y c : Nat) : Nat := (x + y + c) / 18446744073709551616
def difW (x y c : Nat) : Nat := (x + 18446744073709551616 - y - c) % 18446744073709551616
def borW (x y c : Nat) : Nat := if x < y + c then 1 else 0

theorem sumW_lt (x y c : Nat) : sumW x y c < 18446744073709551616 := Nat.mod_lt _ (by decide)
theorem difW_lt (x y c : Nat) : difW x y c < 18446744073709551616 := Nat.mod_lt _ (by decide)
theorem carW_le {x y c : Nat} (hx : x < 18446744073709551616) (hy : y < 18446744073709551616) (hc : c ≤ 1) : carW x y c ≤ 1 := by unfold carW; omega
theorem borW_le (x y c : Nat) : borW x y c ≤ 1 := by unfold borW; split <;> omega
theorem sum_car (x y c : Nat) : sumW x y c + 18446744073709551616 * carW x y c = x + y + c := Nat.mod_add_div _ _
theorem dif_bor {x y c : Nat} (hx : x < 18446744073709551616) (hy : y < 18446744073709551616) (hc : c ≤ 1) : difW x y c + y + c = x + 18446744073709551616 * borW x y c := by
  unfold difW borW; split <;> omega


def mulHi (x y : Nat) : Nat := x * y / 18446744073709551616
def mulLo (x y : Nat) : Nat := x * y % 18446744073709551616
theorem mulLo_lt (x y : Nat) : mulLo x y < 18446744073709551616 := Nat.mod_lt _ (by decide)
theorem mulHi_lt {x y : Nat} (hx : x < 18446744073709551616) (hy : y < 18446744073709551616) : mulHi x y < 18446744073709551615 := by
  unfold mulHi
  rw [Nat.div_lt_iff_lt_mul (by decide)]
  have := Nat.mul_le_mul (show x ≤ 18446744073709551615 by omega) (show y ≤ 18446744073709551615 by omega)
  omega
theorem mul_hi_lo (x y : Nat) : mulLo x y + 18446744073709551616 * mulHi x y = x * y := Nat.mod_add_div _ _


/-- All old cells and all old marks read as before. -/
theorem bcell {W w1 : World} (hb : Below W.heap.size W w1) : (∀ b o, b < W.heap.size → w1.cell? ⟨b, o, none⟩ = W.cell? ⟨b, o, none⟩) ∧ (∀ b o, b < W.heap.size → w1.frozen? ⟨b, o, none⟩ = W.frozen? ⟨b, o, none⟩) :=
  ⟨fun b o h => hb.cell (p := ⟨b, o, none⟩) h, fun b o h => hb.frozen (p := ⟨b, o, none⟩) h⟩

/-- A range over an array of integers that lies in a slot: what stands at an index. -/
theorem run_index_row {P : Program} {t e : TypeId} {n : Nat} {i : TypeInfo} {k : IntKind} (ht : P.underlying t = some (.array n e)) (hi : P.info? e = some i) (hs : i.size = 1) (hu : P.underlying e = some (.int k))
    (l : List Nat) (kj : IntKind) (j : Nat) (hl : l.length = n) (hj : j < n) (w : World) :
    (Instr.index t (.agg (ints k l)) (.int kj (j : Int))).run P w = .ok (.int k (l.getD j 0 : Nat)) w := by
  have hv := ints_get? k l j (by omega)
  simp [Instr.index, asIntOf, run_underlying ht, part, isAgg, run_underlying hu, sizeOf, typeInfo, hi, hs, hj, hv]
end Go.Proofs.YtnbbehgcnodfbaaDoor
