/-
  Strings: a byte of a constant one; bytes as a string; a constant's bytes; slices built of values. No condition on the program.
-/
import Derived.Test.YthddoelflmoedaaGreatJ26
import Derived.Laws.BytesArg
import Derived.Laws.IdiomStrings
set_option linter.unusedVariables false
set_option linter.unusedSimpArgs false
namespace Go.Proofs.YthddoelflmoedaaGreat
open Go.RowKit
set_option maxRecDepth 100000

theorem RdSs.of_block {k : IntKind} {rows : List (List Nat)} {vs : List Value} {g : Nat} {T : TypeId} {w : World} (h : w.heap[g]? = some (.cells vs.toArray T (0, 0))) (hl : vs.length = rows.length) (hr : ∀ j, (h : j < rows.length) → ∃ u, vs[j]? = some u ∧ RdS k rows[j] u w) :
  RdSs k rows (.slice (some ⟨g, 0, none⟩) rows.length rows.length) w := by
 refine ⟨_, _, rfl, Nat.le_refl _, .inr ⟨g, 0, rfl, fun j hj => ?_⟩⟩
 obtain ⟨u, h1, h2⟩ := hr j hj
 refine ⟨u, ?_, h2⟩
 rw [cell_of_row w g _ _ _ _ h, Nat.zero_add, List.getElem?_toArray, h1]
theorem RdSs.one {k : IntKind} {r : List Nat} {v : Value} {g : Nat} {T : TypeId} {w : World} (h : w.heap[g]? = some (.cells #[v] T (0, 0))) (hr : RdS k r v w) : RdSs k [r] (.slice (some ⟨g, 0, none⟩) 1 1) w :=
 RdSs.of_block (vs := [v]) (rows := [r]) h rfl (fun j hj => by
  have : j = 0 := by simp at hj; omega
  subst this
  exact ⟨v, rfl, hr⟩)

section
variable {P : Program} {ops : Array Oper} {Q : Exit → Act → World → Prop} {a : Act} {w w0 : World} {l : List Blk} {o : Oper} {K : Act → World → Prop}
theorem fill_vals : ∀ (ns : List Value) (j : Nat) (cells : Array Value), (∀ v ∈ ns, v.cells = #[v]) → cells.size = j + ns.length →
  ∃ r, Instr.fill (fun i => some (i * 1, 1)) cells ((ns.zipIdx j).map fun x => (x.2, x.1)) = some r ∧ r.toList = cells.toList.take j ++ ns
 | [], j, cells, _, h => by
  refine ⟨cells, rfl, ?_⟩
  rw [List.append_nil, List.take_of_length_le (by simp at h ⊢; omega)]
 | n :: ns, j, cells, hv, h => by
  have hn := hv n (List.mem_cons_self ..)
  rw [List.length_cons] at h
  obtain ⟨r, h1, h2⟩ := fill_vals ns (j + 1) (cells.setIfInBounds (j * 1 + 0) n) (fun v hm => hv v (List.mem_cons_of_mem _ hm)) (by rw [Array.size_setIfInBounds]; omega)
  refine ⟨r, ?_, ?_⟩
  ·rw [List.zipIdx_cons, List.map_cons, Instr.fill]
   have hc : ¬ ((n.cells.size ≠ 1 || decide (j * 1 + n.cells.size > cells.size)) = true) := by
    rw [hn]
    simp
    omega
   simp only []
   rw [if_neg hc, hn]
   exact h1
  ·rw [h2, Array.toList_setIfInBounds, Nat.mul_one]
   simp only [Nat.add_zero]
   rw [List.take_succ_eq_append_getElem (by simp; omega), List.take_set, List.getElem_set_self, List.set_eq_of_length_le (by simp; omega)]
   simp
theorem st_buildVs {t e : TypeId} {n : Nat} {parts : List (Nat × Operand)} {z : Value} (vs : List Value) (hv : ∀ v ∈ vs, v.cells = #[v]) (hE : Env w0 l w) (hw : Region.wanted o (yielded ops a.tmps) = true) (ho : o.op = .buildSlice t n parts.toArray)
  (hp : parts.map (fun p => (p.1, a.eval p.2)) = vs.zipIdx.map fun x => (x.2, x.1)) (hn : vs.length = n) (h0 : 0 < n) (h24 : n ≤ 2 ^ 24) (ht : P.underlying t = some (.slice e)) (hs : (P.info? e).map (·.size) = some 1)
  (hz : ∀ w, (zeroValue e).run P w = .ok z w)
  (kk : ∀ g w1, Below w.heap.size w w1 → Env w0 (⟨g, e, vs.toArray⟩ :: l) w1 → K (a.put o.dst (.slice (some ⟨g, 0, none⟩) n n)) w1) : Step P ops Q o K a w := by
 obtain ⟨r, hf, hl⟩ := fill_vals vs 0 ((Array.range (n * 1)).map fun i => z.cells[i % z.cells.size]!) hv (by simp [hn])
 have hre : r = vs.toArray := by
  apply Array.ext'
  rw [hl]
  simp
 subst hre
 refine st_run (w1 := w.alloc (.cells vs.toArray e)) (v := .slice (some ⟨w.heap.size, 0, none⟩) n n) hw ?_ (kk _ _ ((Below.refl _ _).alloc (Nat.le_refl _) _) (hE.alloc e _))
 have h1 : ¬ n * 1 > 2 ^ 24 := by omega
 have h2 : ¬ n * 1 = 0 := by omega
 unfold execOp
 simp only [ho, List.map_toArray, hp, Instr.buildSlice, Sem.run_bind, run_underlying ht, size_run hs, Result.andThen_ok, if_neg h1, if_neg h2, hz, Sem.run_pure]
 rw [hf]
 simp [newRow, newObj, Sem.run, Sem.run_bind, Sem.run_pure]
theorem one_slice {p : Option Addr} {n c : Nat} : ∀ v ∈ [Value.slice p n c], v.cells = #[v] := fun v hv => by
 rw [List.mem_singleton.1 hv]
 rfl
end
end Go.Proofs.YthddoelflmoedaaGreat
