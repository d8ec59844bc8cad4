/-
  How an argument is read that is a slice of bytes. No program in sight.
-/
import Derived.Test.YthddoelflmoedaaGreatJ19
import Derived.ChangeSlices
set_option linter.unusedVariables false
set_option linter.unusedSimpArgs false
namespace Go.Proofs.YthddoelflmoedaaGreat
open Go.ChangeShapes Go.WideShapes Go.ChangeAt Go.RowKit
set_option maxRecDepth 100000

def RdRow (l : List Nat) (v : Value) (w : World) : Prop :=
 ((∃ p cap, v = .slice p 0 cap) ∧ l = []) ∨ ∃ b off cap, v = .slice (some ⟨b, off, none⟩) l.length cap ∧ w.rangeAt b off (ints .u8 l).toList
theorem RdRow.below {l : List Nat} {v : Value} {w w1 : World} (h : RdRow l v w) (hb : Below w.heap.size w w1) : RdRow l v w1 := by
 rcases h with h | ⟨b, off, cap, h1, h2⟩
 ·exact .inl h
 ·exact .inr ⟨b, off, cap, h1, range_below h2 hb⟩
theorem RdRow.len {l : List Nat} {v : Value} {w : World} (h : RdRow l v w) : ∃ p cap, v = .slice p l.length cap := by
 rcases h with ⟨⟨p, cap, rfl⟩, rfl⟩ | ⟨b, off, cap, rfl, -⟩
 ·exact ⟨_, _, rfl⟩
 ·exact ⟨_, _, rfl⟩
theorem RdRow.at {l : List Nat} {p : Option Addr} {n cap : Nat} {w : World} {j : Nat} (h : RdRow l (.slice p n cap) w) (hj : j < l.length) : ∃ b off, p = some ⟨b, off, none⟩ ∧ ∀ w1, Below w.heap.size w w1 → w1.cell? ⟨b, off + j, none⟩ = some (.int .u8 (l.getD j 0 : Nat)) := by
 rcases h with ⟨-, rfl⟩ | ⟨b, off, cap', h1, h2⟩
 ·simp at hj
 ·injection h1 with h1
  refine ⟨b, off, h1, fun w1 hb => range_below h2 hb j _ ?_⟩
  rw [Array.getElem?_toList]
  exact ints_get? _ _ _ hj

section
variable {H : Type} {enc : TypeId × Value → H} {P : Program} {w : World} {base : Nat} {spare : Nat → Bool} {held : Bool}
end
end Go.Proofs.YthddoelflmoedaaGreat
