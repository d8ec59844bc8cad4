/-
  Layer 5, the document's answer: the digits of the order.
-/
import Derived.Test.YtobfgleckcpcpaaRefB
namespace Go.Proofs.Ytobfgleckcpcpaa
open Go.RowKit
set_option linter.unusedVariables false
set_option linter.unusedSimpArgs false

/-- The digits of the order, the lowest one first. -/
def qd : List Nat := [237, 211, 245, 92, 26, 99, 18, 88, 214, 156, 247, 162, 222, 249, 222, 20, 0, 0, 0, 0, 0, 0, 0, 0, 0, 0, 0, 0, 0, 0, 0, 16]
theorem val_qd : val 256 qd = q := by decide
theorem qd_Digs : Digs 256 qd := by unfold Digs; decide

set_option maxHeartbeats 1000000 in
theorem Q_any (w : World) : Calls Try.prog 29 #[] w fun e w' => ∃ g, e = .returned (.slice (some ⟨g, 0, none⟩) 32 32) ∧ Below w.heap.size w w' ∧ w.heap.size ≤ g ∧ w'.heap[g]? = some (.cells (ints .i64 qd) 3 (0, 0)) := by
  go_enter Try.func29, Try.ntmps29
  go_wp2
  go_returns
  refine ⟨_, rfl, (Below.refl _ _).alloc (Nat.le_refl _) _, Nat.le_refl _, ?_⟩
  exact heap_alloc_new w _
end Go.Proofs.Ytobfgleckcpcpaa
