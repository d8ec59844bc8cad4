/-
  Rows of cells that hold numbers of one kind: how a cell is read, how one is put. No program in sight but the model's values.
  No condition.
-/
import GoSem.Core.Value
import Derived.WalkKit
namespace Go.Proofs.YtnbbehgcnodfbaaDoor
set_option maxRecDepth 100000

/-- A row of cells: numbers of one kind. -/
def ints (k : IntKind) (l : List Nat) : Array Value := (l.map fun n : Nat => Value.int k (n : Int)).toArray

theorem ints_size (k : IntKind) (l : List Nat) : (ints k l).size = l.length := by simp [ints]
theorem ints_get? (k : IntKind) (l : List Nat) (i : Nat) (h : i < l.length) : (ints k l)[i]? = some (.int k (l.getD i 0 : Nat)) := by
  simp [ints, List.getElem?_map, List.getElem?_eq_getElem h, List.getD_eq_getElem?_getD]
theorem ints_set (k : IntKind) (l : List Nat) (i v : Nat) : (ints k l).setIfInBounds i (.int k (v : Int)) = ints k (l.set i v) := by
  unfold ints
  rw [List.map_set]
  simp
theorem ints_one (k : IntKind) (l : List Nat) : (ints k l).all (·.oneCell') = true := by
  simp [ints, Value.oneCell']
theorem ints_append (k : IntKind) (l r : List Nat) : ints k l ++ ints k r = ints k (l ++ r) := by simp [ints]
theorem ints_replicate (k : IntKind) (n : Nat) : ints k (List.replicate n 0) = Array.replicate n (.int k 0) := by
  apply Array.ext'
  simp [ints]
theorem ints_inj {k : IntKind} {l r : List Nat} (h : ints k l = ints k r) : l = r := by
  have h' := congrArg Array.toList h
  simp only [ints] at h'
  refine List.map_inj_right (f := fun n : Nat => Value.int k (n : Int)) ?_ |>.1 h'
  intro a b hab
  injection hab with _ hab
  exact Int.ofNat_inj.1 hab

/-- A row that is filled from the left: one cell more. -/
theorem ints_fill (k : IntKind) (A : List Nat) (m n v : Nat) (hA : A.length = n) (hn : n < m) :
    (ints k (A ++ List.replicate (m - n) 0)).setIfInBounds n (.int k (v : Int)) = ints k (A ++ [v] ++ List.replicate (m - (n + 1)) 0) := by
  rw [ints_set]
  congr 1
  have : m - n = (m - (n + 1)) + 1 := by omega
  rw [this, List.replicate_succ, List.append_assoc, List.set_append_right _ _ (by omega), hA, Nat.sub_self]
  rfl

end Go.Proofs.YtnbbehgcnodfbaaDoor
