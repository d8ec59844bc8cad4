/-
  What stays true of a world behind a call that writes nothing that was there: for regions that draw their order and hold calls. No program in sight.
-/
import Derived.WalkKit
import Derived.Deep.RegionHeld3
import Derived.Lib.Hide
namespace Go.Proofs.Ythddoelflmoedaa
open Go.RowKit
set_option maxRecDepth 100000
set_option linter.unusedVariables false

/-- S holds on behind whatever writes nothing that was there. -/
def Stable (S : World → Prop) : Prop := ∀ W w1 : World, Below W.heap.size W w1 → S W → S w1

theorem Stable.and {S T : World → Prop} (h : Stable S) (k : Stable T) : Stable fun w => S w ∧ T w := fun W w1 hb hs => ⟨h W w1 hb hs.1, k W w1 hb hs.2⟩
theorem Stable.cell {p : Addr} {v : Value} : Stable fun w => w.cell? p = some v := fun W w1 hb h => (hb.cell (World.block_lt_of_cell? W p h)).trans h
theorem Stable.size {n : Nat} : Stable fun w => n ≤ w.heap.size := fun _ _ hb h => Nat.le_trans h hb.size
theorem Stable.size' {n : Nat} : Stable fun w => n < w.heap.size := fun _ _ hb h => Nat.lt_of_lt_of_le h hb.size
theorem Stable.range {b o : Nat} {cs : List Value} : Stable fun w => w.rangeAt b o cs := fun W w1 hb h j v hv => Stable.cell W w1 hb (h j v hv)
theorem Stable.block {b : Nat} {o : Obj} : Stable fun w => w.heap[b]? = some o := fun W w1 hb h => by
  have h : W.heap[b]? = some o := h
  have hlt : b < W.heap.size := by
    rcases Nat.lt_or_ge b W.heap.size with hlt | hge
    · exact hlt
    · rw [Array.getElem?_eq_none hge] at h; cases h
  exact (hb.block b hlt).trans h
theorem Stable.below {B : Nat} {w0 : World} (hB : B ≤ w0.heap.size) : Stable fun w => Below B w0 w := fun _ _ hb h => h.trans (hb.mono (Nat.le_trans hB h.size))
theorem Stable.frozen {b o : Nat} : Stable fun w => b < w.heap.size ∧ w.frozen? ⟨b, o, none⟩ = false := fun _ _ hb h => ⟨Nat.lt_of_lt_of_le h.1 hb.size, (hb.frozen h.1).trans h.2⟩
theorem Stable.alloc {S : World → Prop} (h : Stable S) {w : World} (hs : S w) (o : Obj) : S (w.alloc o) := h w _ ((Below.refl _ _).alloc (Nat.le_refl _) o) hs
theorem Stable.drew {S : World → Prop} (h : Stable S) {w : World} (hs : S w) : S w.drew := h w _ (Below.refl _ _).drew hs
theorem Stable.call {S : World → Prop} (h : Stable S) {W w1 : World} (hb : Below W.heap.size W w1) (hs : S W) : S w1 := h W w1 hb hs

/-- The world under a letter: what follows is told S of it, and nothing else. -/
theorem wp_world {P : Program} {c : Code} {Q : Exit → Act → World → Prop} {a : Act} {w : World} (S : World → Prop) (hS : S w) (h : ∀ w', S w' → c.wp P Q a w') : c.wp P Q a w := h w hS

end Go.Proofs.Ythddoelflmoedaa
