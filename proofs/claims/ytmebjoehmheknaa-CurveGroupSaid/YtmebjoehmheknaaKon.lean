/-
  Layer 4: the program's numbers by their classes modulo p.
-/
import Derived.Test.YtmebjoehmheknaaZp
namespace Go.Proofs.Ytmebjoehmheknaa
open Go.RowKit
set_option linter.unusedVariables false

/-- A number's class. -/
def fk (l : List Nat) : Fin pN := kk pN (fval l)
theorem Add_K {l m : List Nat} (hl : Fe l) (hm : Fe m) : ∃ c, Fe c ∧ fk c = fk l + fk m ∧ ∀ w, Gives 35 #[elem l, elem m] w (elem c) := by
  obtain ⟨c, h1, h2, h3⟩ := Add_any hl hm
  exact ⟨c, h1, (kk_of h2).trans (kk_add _ _), h3⟩
theorem Mul_K {l m : List Nat} (hl : Fe l) (hm : Fe m) : ∃ c, Fe c ∧ fk c = fk l * fk m ∧ ∀ w, Gives 34 #[elem l, elem m] w (elem c) := by
  obtain ⟨c, h1, h2, h3⟩ := Mul_any hl hm
  exact ⟨c, h1, (kk_of h2).trans (kk_mul _ _), h3⟩
theorem Neg_K {l : List Nat} (hl : Fe l) : ∃ c, Fe c ∧ fk c = - fk l ∧ ∀ w, Gives 39 #[elem l] w (elem c) := by
  obtain ⟨c, h1, h2, h3⟩ := Neg_any hl
  refine ⟨c, h1, ?_, h3⟩
  have h4 : kk pN (fval c) = kk pN (pN - fval l % pN) := kk_of h2
  rw [kk_neg (Nat.le_of_lt (Nat.mod_lt _ pos_pN)), kk_mod] at h4
  exact h4
theorem Sub_K {l m : List Nat} (hl : Fe l) (hm : Fe m) : ∃ c, Fe c ∧ fk c = fk l - fk m ∧ ∀ w, Gives 33 #[elem l, elem m] w (elem c) := by
  obtain ⟨c, h1, h2, h3⟩ := Sub_any hl hm
  refine ⟨c, h1, ?_, h3⟩
  have h4 : kk pN (fval c) = kk pN (fval l + (pN - fval m % pN)) := kk_of h2
  rw [kk_add, kk_neg (Nat.le_of_lt (Nat.mod_lt _ pos_pN)), kk_mod] at h4
  unfold fk
  rw [h4]
  grind
theorem Invert_K {l : List Nat} (hl : Fe l) : ∃ c, Fe c ∧ fk c = fk l ^ (pN - 2) ∧ ∀ w, Gives 40 #[elem l] w (elem c) := by
  obtain ⟨c, h1, h2, h3⟩ := Invert_any hl
  exact ⟨c, h1, (kk_of h2).trans (kk_pow _ _), h3⟩
theorem Same_K {l m : List Nat} (hl : Fe l) (hm : Fe m) (w : World) : Gives 37 #[elem l, elem m] w (.bool (decide (fk l = fk m))) := by
  have h := Same_any hl hm w
  rwa [show decide (fval l % pN = fval m % pN) = decide (fk l = fk m) from decide_eq_decide.2 kk_iff.symm] at h
theorem Zero_K {l : List Nat} (hl : Fe l) (w : World) : Gives 47 #[elem l] w (.bool (decide (fk l = 0))) := by
  have h := Zero_any hl w
  rwa [show decide (fval l % pN = 0) = decide (fk l = 0) from decide_eq_decide.2 kk_is_zero.symm] at h
theorem Small_K {n : Nat} (hn : n < 4294967296) : Fe [n, 0, 0, 0, 0] ∧ fk [n, 0, 0, 0, 0] = kk pN n ∧ ∀ w, Gives 38 #[.int .u32 n] w (elem [n, 0, 0, 0, 0]) := by
  obtain ⟨h1, h2, h3⟩ := Small_any hn
  exact ⟨h1, by unfold fk; rw [h2], h3⟩
theorem K_zero_pow : (0 : Fin pN) * (0 : Fin pN) ^ (pN - 2) = 0 := by grind
end Go.Proofs.Ytmebjoehmheknaa
