/-
  A struct built of rows of one size.
  No condition on the program.
-/
import Derived.Test.YtndnmghlgcamfaaDoorEqV
namespace Go.Proofs.YtndnmghlgcamfaaDoor
open Go.RowKit
set_option maxRecDepth 100000
set_option linter.unusedVariables false

theorem fill_congr {p q : Nat → Option (Nat × Nat)} : ∀ (parts : List (Nat × Value)) (cells : Array Value), (∀ x ∈ parts, p x.1 = q x.1) → Instr.fill p cells parts = Instr.fill q cells parts
  | [], _, _ => rfl
  | (i, v) :: rest, cells, h => by
    have hh : p i = q i := h (i, v) (List.mem_cons_self ..)
    unfold Instr.fill
    rw [hh]
    cases q i with
    | none => rfl
    | some x =>
      simp only []
      split
      · rfl
      · exact fill_congr rest _ (fun x hx => h x (List.mem_cons_of_mem _ hx))

section
variable {P : Program} {a : Act} {w : World} {o : Oper}
theorem v_buildRows {t n s : Nat} {parts : List (Nat × Operand)} {it : TypeInfo} {fields : Array Field} {z : Value} {kd : IntKind} (rows : List (List Nat)) (ho : o.op = .build t parts.toArray)
    (h1 : P.info? t = some it) (h2 : P.underlying t = some (.struct fields)) (h3 : it.zero = some z) (h4 : fields.toList.mapM (fun f => (P.info? f.type).map fun i => (f.offset, i.size)) = some ((List.range n).map fun i => (i * s, s))) (h5 : z.cells.size = n * s)
    (hp : parts.map (fun p => (p.1, a.eval p.2)) = (rows.map (ints kd)).zipIdx.map fun x => (x.2, Value.agg x.1)) (hn : rows.length = n) (hr : ∀ r ∈ rows, r.length = s) : Val P o a (.agg (ints kd rows.flatten)) w := v_run fun w => by
  obtain ⟨r, hf, hl⟩ := fill_rows s (rows.map (ints kd)) 0 z.cells (fun v hv => by
    obtain ⟨x, hx, rfl⟩ := List.mem_map.1 hv
    rw [ints_size, hr x hx]) (by simp [hn, h5])
  have hre : r = ints kd rows.flatten := by
    apply Array.ext'
    rw [hl]
    simp [ints, List.map_flatten, Function.comp_def]
  subst hre
  have hb : P.built t ((rows.map (ints kd)).zipIdx.map fun x => (x.2, Value.agg x.1)) = some (ints kd rows.flatten) := by
    unfold Program.built
    simp only [h1, h2, h3, h4]
    rw [← hf]
    refine fill_congr _ _ fun x hx => ?_
    obtain ⟨y, hy, rfl⟩ := List.mem_map.1 hx
    obtain ⟨v, i⟩ := y
    have hi := List.mem_zipIdx hy
    have hlt : i < n := by
      have := hi.2.1
      rw [List.length_map, hn] at this
      omega
    simp [hlt]
  unfold execOp
  simp only [ho, List.map_toArray, Sem.run_bind]
  rw [run_build (P := P) w t _ (ints kd rows.flatten) (by rw [← hb, ← hp])]
  rfl
theorem v_loadPartE {w0 : World} {l : List Blk} {ty : TypeId} {x : Operand} {g i k n : Nat} {T : TypeId} {X Y : List Nat} {kd : IntKind} {d : TypeDesc} (he : (X.drop k).take n = Y) (hE : Env w0 l w) (ho : o.op = .load ty x) (hx : a.eval x = .pointer (some ⟨g, k, none⟩)) (hi : l[i]? = some ⟨g, T, ints kd X⟩)
    (hu : P.underlying ty = some d) (hd : d.isRow = true) (hs : (P.info? ty).map (·.size) = some n) (hn : k + n ≤ X.length) : Val P o a (.agg (ints kd Y)) w := he ▸ v_loadPart hE ho hx hi hu hd hs hn
end
end Go.Proofs.YtndnmghlgcamfaaDoor
