/-
  Arrays of bytes, compared.
-/
import Derived.Test.YthddoelflmoedaaGreatJ01
import Derived.Test.YthddoelflmoedaaGreatJ05
import Derived.Stop.BytesEq
set_option linter.unusedVariables false
set_option linter.unusedSimpArgs false
namespace Go.Proofs.YthddoelflmoedaaGreat
open Go.RowKit
open Extern.Stop (cell)
set_option maxRecDepth 100000

theorem ints_cells {l : List Nat} (h : Digs 256 l) : ints .u8 l = ((l.map UInt8.ofNat).map cell).toArray := by
 apply Array.ext'
 simp only [ints, List.map_map]
 apply List.map_congr_left
 intro x hx
 have := h x hx
 simp [cell, Nat.mod_eq_of_lt this]
theorem ofNat_beq : ∀ {x y : List Nat}, Digs 256 x → Digs 256 y → (x.map UInt8.ofNat == y.map UInt8.ofNat) = decide (x = y)
 | x, y, hx, hy => by
  rw [Bool.eq_iff_iff, beq_iff_eq, decide_eq_true_iff]
  constructor
  ·intro h
   have e : ∀ {l : List Nat}, Digs 256 l → (l.map UInt8.ofNat).map UInt8.toNat = l := by
    intro l hl
    rw [List.map_map]
    conv => rhs; rw [← List.map_id l]
    apply List.map_congr_left
    intro a ha
    have := hl a ha
    simp [Nat.mod_eq_of_lt this]
   rw [← e hx, ← e hy, h]
  ·rintro rfl; rfl
theorem run_equalIn_u8 {P : Program} {t e : TypeId} {n : Nat} {i : TypeInfo} (ht : P.underlying t = some (.array n e)) (he : P.underlying e = some (.int .u8)) (hi : P.info? e = some i) (hs : i.size = 1)
  {x y : List Nat} (hx : x.length = n) (hy : y.length = n) (dx : Digs 256 x) (dy : Digs 256 y) (w : World) :
  (Op.equalIn 10000 t (.agg (ints .u8 x)) (.agg (ints .u8 y))).run P w = .ok (decide (x = y)) w := by
 rw [ints_cells dx, ints_cells dy]
 have h := run_equalIn_bytes (P := P) w 9998 t e n ht he (fun w => by simp [sizeOf, typeInfo, hi, hs]) (x.map UInt8.ofNat) (y.map UInt8.ofNat) (by simpa using hx) (by simpa using hy)
 rw [ofNat_beq dx dy] at h
 exact h
end Go.Proofs.YthddoelflmoedaaGreat
