/-
  A slice built of numbers. No condition on the program.
-/
import Derived.Test.YtnbbehgcnodfbaaDoorApp
namespace Go.Proofs.YtnbbehgcnodfbaaDoor
open Go.RowKit
set_option maxRecDepth 100000
set_option linter.unusedVariables false
set_option linter.unusedSimpArgs false

theorem fill_nums (k : IntKind) : ∀ (ns : List Nat) (j : Nat) (cells : Array Value), cells.size = j + ns.length →
    ∃ r, Instr.fill (fun i => some (i * 1, 1)) cells ((ns.zipIdx j).map fun x => (x.2, Value.int k (x.1 : Int))) = some r ∧ r.toList = cells.toList.take j ++ nats k ns
  | [], j, cells, h => by
    refine ⟨cells, rfl, ?_⟩
    rw [show nats k [] = [] from rfl, List.append_nil, List.take_of_length_le (by simp at h ⊢; omega)]
  | n :: ns, j, cells, h => by
    rw [List.length_cons] at h
    obtain ⟨r, h1, h2⟩ := fill_nums k ns (j + 1) (cells.setIfInBounds (j * 1 + 0) (Value.int k (n : Int))) (by rw [Array.size_setIfInBounds]; omega)
    refine ⟨r, ?_, ?_⟩
    · rw [List.zipIdx_cons, List.map_cons, Instr.fill]
      have hc : ¬ (((Value.int k (n : Int)).cells.size ≠ 1 || decide (j * 1 + (Value.int k (n : Int)).cells.size > cells.size)) = true) := by
        simp [Value.cells]; omega
      simp only []
      rw [if_neg hc]
      exact h1
    · rw [h2, Array.toList_setIfInBounds, Nat.mul_one]
      simp only [Nat.add_zero]
      rw [List.take_succ_eq_append_getElem (by simp; omega), List.take_set, List.getElem_set_self, List.set_eq_of_length_le (by simp; omega)]
      rw [show nats k (n :: ns) = Value.int k (n : Int) :: nats k ns from by unfold nats ints; simp]
      simp
section
variable {P : Program} {ops : Array Oper} {Q : Exit → Act → World → Prop} {a : Act} {w w0 : World} {l : List Blk} {o : Oper} {K : Act → World → Prop}
theorem st_buildNums {t e : TypeId} {n : Nat} {parts : List (Nat × Operand)} {z : Value} {k : IntKind} (ns : List Nat) (hE : Env w0 l w) (hw : Region.wanted o (yielded ops a.tmps) = true) (ho : o.op = .buildSlice t n parts.toArray)
    (hp : parts.map (fun p => (p.1, a.eval p.2)) = ns.zipIdx.map fun x => (x.2, Value.int k (x.1 : Int))) (hn : ns.length = n) (h0 : 0 < n) (h24 : n ≤ 2 ^ 24) (ht : P.underlying t = some (.slice e)) (hs : (P.info? e).map (·.size) = some 1)
    (hz : ∀ w, (zeroValue e).run P w = .ok z w)
    (kk : ∀ g w1, Below w.heap.size w w1 → Env w0 (⟨g, e, ints k ns⟩ :: l) w1 → K (a.put o.dst (.slice (some ⟨g, 0, none⟩) n n)) w1) : Step P ops Q o K a w := by
  obtain ⟨r, hf, hl⟩ := fill_nums k ns 0 ((Array.range (n * 1)).map fun i => z.cells[i % z.cells.size]!) (by simp [hn])
  have hre : r = ints k ns := by
    apply Array.ext'
    rw [hl]
    simp
  subst hre
  refine st_run (w1 := w.alloc (.cells (ints k ns) e)) (v := .slice (some ⟨w.heap.size, 0, none⟩) n n) hw ?_ (kk _ _ ((Below.refl _ _).alloc (Nat.le_refl _) _) (hE.alloc e _))
  have h1 : ¬ n * 1 > 2 ^ 24 := by omega
  have h2 : ¬ n * 1 = 0 := by omega
  unfold execOp
  simp only [ho, List.map_toArray, hp, Instr.buildSlice, Sem.run_bind, run_underlying ht, size_run hs, Result.andThen_ok, if_neg h1, if_neg h2, hz, Sem.run_pure]
  rw [hf]
  simp [newRow, newObj, Sem.run, Sem.run_bind, Sem.run_pure]
theorem Env.perm {l' : List Blk} (h : Env w0 l w) (hp : l.Perm l') : Env w0 l' w :=
  ⟨h.below, fun b hb => h.holds b (hp.mem_iff.2 hb), fun b hb => h.new b (hp.mem_iff.2 hb), (hp.pairwise_iff (fun h => Ne.symm h)).1 h.dist⟩
/-- A fresh block as a slice of the call's own. -/
theorem Sl.of_block {g : Nat} {e : TypeId} {cs : Array Value} (h : Env w0 (⟨g, e, cs⟩ :: l) w) (hc : cs.size ≤ maxLen) : Sl w0 l e cs.toList (.slice (some ⟨g, 0, none⟩) cs.size cs.size) w :=
  .inr ⟨g, cs.size, cs, by rw [Array.length_toList], by rw [Array.length_toList]; exact Nat.le_refl _, hc, rfl, List.take_of_length_le (by rw [Array.length_toList]; exact Nat.le_refl _), h⟩
end
end Go.Proofs.YtnbbehgcnodfbaaDoor
