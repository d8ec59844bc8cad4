/-
  Layer 3, the document's: both sums, as arrays.
-/
import Derived.Test.YthddoelflmoedaaGreatJ26
import Derived.Laws.CopyRow
set_option linter.unusedVariables false
set_option linter.unusedSimpArgs false
namespace Go.Proofs.YthddoelflmoedaaGreat
open Go.RowKit
set_option maxRecDepth 100000

section
variable {P : Program} {ops : Array Oper} {Q : Exit → Act → World → Prop} {a : Act} {w w0 : World} {l : List Blk} {o : Oper} {K : Act → World → Prop}
theorem st_copyAll {x y : Operand} {t t' e : TypeId} {g i n c : Nat} {T : TypeId} {cs : Array Value} {k : IntKind} {m : List Nat} {yv : Value} (hE : Env w0 l w) (hw : Region.wanted o (yielded ops a.tmps) = true)
  (ho : o.op = .call { callee := .builtin .copy, args := #[x, y], argTypes := #[t, t'] }) (hx : a.eval x = .slice (some ⟨g, 0, none⟩) n c) (hy : a.eval y = yv) (hr : RdS k m yv w) (hm : m.length = n) (h0 : 0 < n)
  (ht : P.underlying t = some (.slice e)) (hs : (P.info? e).map (·.size) = some 1) (hi : l[i]? = some ⟨g, T, cs⟩) (hc : cs.size = n)
  (kk : ∀ w1, Env w0 (l.set i ⟨g, T, ints k m⟩) w1 → K (a.put o.dst (goInt n)) w1) : Step P ops Q o K a w := by
 obtain ⟨p, cap, rfl, hcap, h3⟩ := hr
 rcases h3 with h3 | ⟨b, off, rfl, h5⟩
 ·rw [h3] at hm
  rw [← hm] at h0
  exact absurd h0 (by decide)
 ·have hnl : (nats k m).length = n := by rw [nats_len, hm]
  have hrun := run_copy_row (P := P) w t t' o.type e g 0 n c ⟨b, off, none⟩ m.length cap cs T (nats k m) ht hs (hE.get hi) (by rw [hnl, hm]; exact (Nat.min_self n).symm) (fun j u hj => by
   rw [addr_add]
   exact h5 j u hj) (by rw [hnl, hc]; omega) (nats_one k m)
  have hrow : (cs.toList.take 0 ++ nats k m ++ cs.toList.drop (0 + (nats k m).length)).toArray = ints k m := by
   rw [List.take_zero, List.nil_append, Nat.zero_add, List.drop_of_length_le (by rw [Array.length_toList, hnl, hc]; exact Nat.le_refl _), List.append_nil]
  rw [hrow, hnl] at hrun
  refine st_run (w1 := w.setRow g (ints k m)) (v := goInt n) hw ?_ (kk _ (hE.store hi _))
  unfold execOp
  simp only [ho, resolve, invoke, builtin, Sem.run_bind, Sem.run_pure, Result.andThen_ok, List.map_toArray, List.map_cons, List.map_nil, hx, hy, hrun]
end
theorem sum512_r (m : List Nat) : sumS k512 (2 * k512.w) 16 m = sum512 m := rfl

end Go.Proofs.YthddoelflmoedaaGreat
