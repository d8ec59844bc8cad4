/-
  Layer 3, plain: a message taken block by block; whole blocks and what is left; the sum.
  No condition. No program in sight.
-/
import Derived.Test.YtndnmghlgcamfaaDoorDigF
import Derived.Test.YtndnmghlgcamfaaDoorDigC
namespace Go.Proofs.YtndnmghlgcamfaaDoor
set_option maxRecDepth 100000
set_option linter.unusedVariables false

/-- The state behind n blocks of a message. -/
def chainS (k : Kd) (B : Nat) (h m : List Nat) : Nat → List Nat
  | 0 => h
  | n + 1 => blockS k (chainS k B h m n) ((m.drop (n * B)).take B)
theorem chainS_len {k : Kd} {B : Nat} {h : List Nat} (hh : h.length = 8) (m : List Nat) : ∀ n, (chainS k B h m n).length = 8
  | 0 => hh
  | n + 1 => blockS_len _ _ _
theorem chainS_lt {k : Kd} {B : Nat} {h : List Nat} (hd : ∀ j, h.getD j 0 < 2 ^ k.w) (m : List Nat) : ∀ n j, (chainS k B h m n).getD j 0 < 2 ^ k.w
  | 0, j => hd j
  | n + 1, j => blockS_lt _ _ _ j
theorem chainS_append {k : Kd} {B : Nat} {h m b : List Nat} : ∀ n, n * B ≤ m.length → chainS k B h (m ++ b) n = chainS k B h m n
  | 0, _ => rfl
  | n + 1, hn => by
    have e : (n + 1) * B = n * B + B := by rw [Nat.add_mul, Nat.one_mul]
    have h1 : n * B ≤ m.length := by omega
    rw [chainS, chainS, chainS_append n h1, List.drop_append_of_le_length h1, List.take_append_of_le_length (by rw [List.length_drop]; omega)]
/-- How many whole blocks a message has, and what is left behind them. -/
def wholeN (B : Nat) (m : List Nat) : Nat := m.length / B
def restL (B : Nat) (m : List Nat) : List Nat := m.drop (m.length / B * B)
theorem restL_len {B : Nat} (hB : 0 < B) (m : List Nat) : (restL B m).length < B := by
  unfold restL
  rw [List.length_drop]
  have := Nat.div_add_mod m.length B
  have := Nat.mod_lt m.length hB
  rw [Nat.mul_comm B] at *
  omega
theorem whole_le (B : Nat) (m : List Nat) : m.length / B * B ≤ m.length := Nat.div_mul_le_self _ _
/-- What is left, with more behind it. -/
theorem restL_append {B : Nat} {m b : List Nat} : restL B m ++ b = (m ++ b).drop (m.length / B * B) := by
  unfold restL
  rw [List.drop_append_of_le_length (whole_le _ _)]
/-- The number of whole blocks is told by what is left behind them. -/
theorem whole_of {B n : Nat} {m : List Nat} (hB : 0 < B) (h1 : n * B ≤ m.length) (h2 : (m.drop (n * B)).length < B) : m.length / B = n := by
  rw [List.length_drop] at h2
  refine Nat.div_eq_of_lt_le (by omega) ?_
  rw [Nat.succ_mul]
  omega
/-- The message, filled up. -/
def padL (B r : Nat) (m : List Nat) : List Nat := m ++ fillL m.length B r
theorem fillL_len {n B r : Nat} (hr : 8 ≤ r) : (fillL n B r).length = 1 + padK n B r + r := by
  unfold fillL
  rw [List.length_cons, List.length_append, List.length_replicate, beD_len]
  omega
theorem padL_mod {B r : Nat} (hB : 0 < B) (hr : 8 ≤ r) (m : List Nat) : (padL B r m).length % B = 0 := by
  unfold padL
  rw [List.length_append, fillL_len hr]
  have := padK_zero (n := m.length) (r := r) hB
  rwa [Nat.add_assoc] at this
theorem fillL_Digs (n B r : Nat) : Digs 256 (fillL n B r) := Digs.cons (by decide) ((Digs.replicate (by decide) _).append (beD_Digs _ _))
theorem padL_Digs {B r : Nat} {m : List Nat} (h : Digs 256 m) : Digs 256 (padL B r m) := h.append (fillL_Digs _ _ _)
/-- The state's words as bytes. -/
def outL (n : Nat) (h : List Nat) : List Nat := (h.map (beD n)).flatten
theorem outL_len (n : Nat) (h : List Nat) : (outL n h).length = h.length * n := by
  unfold outL
  induction h with
  | nil => simp
  | cons x h ih => rw [List.map_cons, List.flatten_cons, List.length_append, beD_len, ih, List.length_cons, Nat.add_mul, Nat.one_mul, Nat.add_comm]
theorem outL_Digs (n : Nat) (h : List Nat) : Digs 256 (outL n h) := by
  unfold outL
  induction h with
  | nil => exact Digs.nil
  | cons x h ih => rw [List.map_cons, List.flatten_cons]; exact (beD_Digs _ _).append ih
/-- The sum of a message. -/
def sumS (k : Kd) (B r : Nat) (m : List Nat) : List Nat := outL (k.w / 8) (chainS k B k.first (padL B r m) ((padL B r m).length / B))
def sum256 (m : List Nat) : List Nat := sumS k256 64 8 m
def sum512 (m : List Nat) : List Nat := sumS k512 128 16 m
theorem k256_first : k256.first.length = 8 := rfl
theorem k512_first : k512.first.length = 8 := rfl
theorem sum256_len (m : List Nat) : (sum256 m).length = 32 := by
  unfold sum256 sumS
  rw [outL_len, chainS_len k256_first]
  rfl
theorem sum512_len (m : List Nat) : (sum512 m).length = 64 := by
  unfold sum512 sumS
  rw [outL_len, chainS_len k512_first]
  rfl
theorem sum256_Digs (m : List Nat) : Digs 256 (sum256 m) := outL_Digs _ _
theorem sum512_Digs (m : List Nat) : Digs 256 (sum512 m) := outL_Digs _ _
theorem small_getD {M : Nat} (hM : 0 < M) {l : List Nat} {n : Nat} (hl : l.length = n) (h : ∀ j : Fin n, l.getD j.val 0 < M) (j : Nat) : l.getD j 0 < M := by
  by_cases hj : j < n
  · exact h ⟨j, hj⟩
  · rw [List.getD_eq_getElem?_getD, List.getElem?_eq_none (by omega)]
    exact hM
theorem k256_firstD : ∀ j, k256.first.getD j 0 < 4294967296 := small_getD (by decide) k256_first (by decide)
theorem k512_firstD : ∀ j, k512.first.getD j 0 < 18446744073709551616 := small_getD (by decide) k512_first (by decide)
end Go.Proofs.YtndnmghlgcamfaaDoor
