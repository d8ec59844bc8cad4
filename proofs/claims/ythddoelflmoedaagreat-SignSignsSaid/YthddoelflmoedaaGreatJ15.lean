/-
  Rows of one size, one behind the other: one row; a row written. No program in sight.
-/
import Derived.WalkKit
set_option linter.unusedVariables false
set_option linter.unusedSimpArgs false
namespace Go.Proofs.YthddoelflmoedaaGreat
set_option maxRecDepth 100000

theorem rows_get {α : Type} (s : Nat) : ∀ (L : List (List α)), (∀ r ∈ L, r.length = s) → ∀ i (h : i < L.length), (L.flatten.drop (i * s)).take s = L[i]
 | [], _, i, h => absurd h (Nat.not_lt_zero _)
 | r :: L, hr, 0, h => by
  have h1 := hr r (List.mem_cons_self ..)
  rw [Nat.zero_mul, List.drop_zero, List.flatten_cons, List.take_left' h1]
  rfl
 | r :: L, hr, i + 1, h => by
  have h1 := hr r (List.mem_cons_self ..)
  have e : (i + 1) * s = s + i * s := by rw [Nat.add_mul, Nat.one_mul, Nat.add_comm]
  rw [e, ← List.drop_drop, List.flatten_cons, List.drop_left' h1]
  exact rows_get s L (fun r h => hr r (List.mem_cons_of_mem _ h)) i (by simpa using h)
theorem rows_set {α : Type} (s : Nat) : ∀ (L : List (List α)) (c : List α), (∀ r ∈ L, r.length = s) → ∀ i, i < L.length → L.flatten.take (i * s) ++ c ++ L.flatten.drop (i * s + s) = (L.set i c).flatten
 | [], _, _, i, h => absurd h (Nat.not_lt_zero _)
 | r :: L, c, hr, 0, h => by
  have h1 := hr r (List.mem_cons_self ..)
  rw [Nat.zero_mul, Nat.zero_add, List.flatten_cons, List.drop_left' h1]
  simp
 | r :: L, c, hr, i + 1, h => by
  have h1 := hr r (List.mem_cons_self ..)
  have e : (i + 1) * s = s + i * s := by rw [Nat.add_mul, Nat.one_mul, Nat.add_comm]
  have ih := rows_set s L c (fun r h => hr r (List.mem_cons_of_mem _ h)) i (by simpa using h)
  rw [e, List.flatten_cons, Nat.add_assoc, ← List.drop_drop, List.drop_left' h1, List.take_append, List.take_of_length_le (by omega), h1, Nat.add_sub_cancel_left, List.set_cons_succ, List.flatten_cons, ← ih]
  simp
theorem rows_length {α : Type} (s : Nat) : ∀ (L : List (List α)), (∀ r ∈ L, r.length = s) → L.flatten.length = L.length * s
 | [], _ => by simp
 | r :: L, hr => by
  rw [List.flatten_cons, List.length_append, rows_length s L (fun r h => hr r (List.mem_cons_of_mem _ h)), hr r (List.mem_cons_self ..), List.length_cons, Nat.add_mul, Nat.one_mul, Nat.add_comm]
end Go.Proofs.YthddoelflmoedaaGreat
