/-
  Appends to a slice of the call's own: out of whatever slice, an empty one included; of zeros. No condition on the program.
-/
import Derived.Test.YtnbbehgcnodfbaaDoorSli
import Derived.Deep.Upon
namespace Go.Proofs.YtnbbehgcnodfbaaDoor
open Go.RowKit
set_option maxRecDepth 100000
set_option linter.unusedVariables false
set_option linter.unusedSimpArgs false

/-- Numbers as cells. -/
abbrev nats (k : IntKind) (l : List Nat) : List Value := (ints k l).toList
theorem nats_len (k : IntKind) (l : List Nat) : (nats k l).length = l.length := by unfold nats; rw [Array.length_toList, ints_size]
theorem nats_append (k : IntKind) (l m : List Nat) : nats k l ++ nats k m = nats k (l ++ m) := by unfold nats ints; simp
theorem nats_one (k : IntKind) (l : List Nat) : ∀ u ∈ nats k l, u.oneCell' = true := fun u hu => by
  unfold nats ints at hu
  simp only [List.mem_map] at hu
  obtain ⟨n, _, rfl⟩ := hu
  rfl

section
variable {P : Program} {w0 w : World} {l : List Blk} {e : TypeId} {xs : List Value} {v : Value}
theorem Sl.append_rd {t ty : TypeId} {i : TypeInfo} {z : Value} {bytes : Nat} (h : Sl w0 l e xs v w) (ht : P.underlying t = some (.slice e)) (hi : P.info? e = some i) (hz : i.zero = some z) (hs : i.size = 1) (hzs : z.cells.size = 1) (hby : i.bytes = bytes)
    {k : IntKind} {m : List Nat} {x : Value} (hx : RdS k m x w) (h63 : xs.length + m.length ≤ maxLen) (hb : (xs.length + m.length) * bytes ≤ 140737488355328) :
    ∃ v' w', (Builtin.append_ #[t, t] ty #[v, x]).run P w = .ok v' w' ∧ Sl w0 l e (xs ++ nats k m) v' w' := by
  obtain ⟨p, cap, rfl, hcap, h3⟩ := hx
  by_cases hm : m = []
  · subst hm
    obtain ⟨q, c, rfl⟩ := h.len
    refine ⟨_, w, ?_, by rw [show nats k [] = [] from rfl, List.append_nil]; exact h⟩
    have hle : xs.length ≤ c := by
      rcases h with ⟨h1, h2, -⟩ | ⟨g, c', cs, h1, h2, -⟩
      · injection h1 with _ e2 e3
        omega
      · injection h1 with _ e2 e3
        omega
    cases q <;> cases p <;> simp [Builtin.append_, run_underlying ht, sizeOf, typeInfo, hi, hs, Builtin.lenOf, hle, Builtin.firstCells, storeCells, loadCells, loadCellsFrom]
  · rcases h3 with h3 | ⟨b, off, rfl, h5⟩
    · exact absurd h3 hm
    · have hpos : 0 < m.length := List.length_pos_iff.2 hm
      exact h.append (ty := ty) (c := cap) ht hi hz hs hzs hby (m := m.length) (news := nats k m) (nats_len k m) hpos (fun j u hj => by rw [addr_add]; exact h5 j u hj) (nats_one k m) h63 hb

theorem st_append {ops : Array Oper} {o : Oper} {a : Act} {Q : Exit → Act → World → Prop} {K : Act → World → Prop} {s x : Operand} {t : TypeId} {i : TypeInfo} {z : Value} {bytes : Nat} {k : IntKind} {m : List Nat} {xv : Value} (h : Sl w0 l e xs v w) (hw : Region.wanted o (yielded ops a.tmps) = true)
    (ho : o.op = .call { callee := .builtin .append, args := #[s, x], argTypes := #[t, t] }) (ht : P.underlying t = some (.slice e)) (hi : P.info? e = some i) (hz : i.zero = some z) (hsz : i.size = 1) (hzs : z.cells.size = 1) (hby : i.bytes = bytes)
    (hs : a.eval s = v) (hx : a.eval x = xv) (hr : RdS k m xv w) (h63 : xs.length + m.length ≤ maxLen) (hb : (xs.length + m.length) * bytes ≤ 140737488355328)
    (kk : ∀ v' w', Sl w0 l e (xs ++ nats k m) v' w' → K (a.put o.dst v') w') : Step P ops Q o K a w := by
  obtain ⟨v', w', hrun, h2⟩ := h.append_rd (ty := o.type) ht hi hz hsz hzs hby hr h63 hb
  refine st_run (w1 := w') (v := v') hw ?_ (kk v' w' h2)
  unfold execOp
  simp only [ho, resolve, invoke, builtin, Sem.run_bind, Sem.run_pure, Result.andThen_ok, List.map_toArray, List.map_cons, List.map_nil, hs, hx, hrun]
end
end Go.Proofs.YtnbbehgcnodfbaaDoor
