/-
  What stays true of a world behind a call that writes nothing that was there: for regions that draw their order and hold calls. No program in sight.
-/
import Derived.WalkKit
import Derived.Deep.RegionHeld3
import Derived.Lib.Hide
set_option linter.unusedVariables false
set_option linter.unusedSimpArgs false
namespace Go.Proofs.YthddoelflmoedaaGreat
open Go.RowKit
set_option maxRecDepth 100000

def Stable (S : World → Prop) : Prop := ∀ W w1 : World, Below W.heap.size W w1 → S W → S w1

theorem Stable.cell {p : Addr} {v : Value} : Stable fun w => w.cell? p = some v := fun W w1 hb h => (hb.cell (World.block_lt_of_cell? W p h)).trans h
theorem Stable.size {n : Nat} : Stable fun w => n ≤ w.heap.size := fun _ _ hb h => Nat.le_trans h hb.size
theorem Stable.range {b o : Nat} {cs : List Value} : Stable fun w => w.rangeAt b o cs := fun W w1 hb h j v hv => Stable.cell W w1 hb (h j v hv)
theorem Stable.below {B : Nat} {w0 : World} (hB : B ≤ w0.heap.size) : Stable fun w => Below B w0 w := fun _ _ hb h => h.trans (hb.mono (Nat.le_trans hB h.size))
theorem Stable.frozen {b o : Nat} : Stable fun w => b < w.heap.size ∧ w.frozen? ⟨b, o, none⟩ = false := fun _ _ hb h => ⟨Nat.lt_of_lt_of_le h.1 hb.size, (hb.frozen h.1).trans h.2⟩
theorem Stable.alloc {S : World → Prop} (h : Stable S) {w : World} (hs : S w) (o : Obj) : S (w.alloc o) := h w _ ((Below.refl _ _).alloc (Nat.le_refl _) o) hs
theorem Stable.drew {S : World → Prop} (h : Stable S) {w : World} (hs : S w) : S w.drew := h w _ (Below.refl _ _).drew hs
theorem Stable.call {S : World → Prop} (h : Stable S) {W w1 : World} (hb : Below W.heap.size W w1) (hs : S W) : S w1 := h W w1 hb hs

theorem wp_world {P : Program} {c : Code} {Q : Exit → Act → World → Prop} {a : Act} {w : World} (S : World → Prop) (hS : S w) (h : ∀ w', S w' → c.wp P Q a w') : c.wp P Q a w := h w hS

end Go.Proofs.YthddoelflmoedaaGreat
