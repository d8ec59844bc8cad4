/-
  A struct built of parts of whatever sizes; blocks that stand first in the list; appends to nil, that write nothing that was there.
  No condition on the program.
-/
import Derived.Test.YtnbbehgcnodfbaaDoorSlw
namespace Go.Proofs.YtnbbehgcnodfbaaDoor
open Go.RowKit
set_option maxRecDepth 100000
set_option linter.unusedVariables false
set_option linter.unusedSimpArgs false

/-- Parts put into a row of cells, one behind the other. -/
def laidAll (lay : List (Nat × Nat)) (X : List Value) : List (Nat × Value) → Option (List Value)
  | [] => some X
  | (i, v) :: r => match lay[i]? with
    | none => none
    | some (off, sz) => if v.cells.size = sz ∧ off + sz ≤ X.length then laidAll lay (X.take off ++ v.cells.toList ++ X.drop (off + sz)) r else none
theorem fill_laid (lay : List (Nat × Nat)) : ∀ (vs : List (Nat × Value)) (X : Array Value) (Z : List Value), laidAll lay X.toList vs = some Z → Instr.fill (lay.toArray[·]?) X vs = some Z.toArray
  | [], X, Z, h => by
    simp only [laidAll, Option.some.injEq] at h
    rw [← h]
    rfl
  | (i, v) :: r, X, Z, h => by
    simp only [laidAll] at h
    unfold Instr.fill
    have e : lay.toArray[i]? = lay[i]? := by simp
    rw [e]
    cases hl : lay[i]? with
    | none => rw [hl] at h; cases h
    | some x =>
      rw [hl] at h
      simp only [] at h
      split at h
      · rename_i hc
        obtain ⟨h1, h2⟩ := hc
        have hlen : X.toList.length = X.size := Array.length_toList
        have hne : ¬ ((v.cells.size ≠ x.2 || decide (x.1 + v.cells.size > X.size)) = true) := by
          simp only [Bool.or_eq_true, decide_eq_true_eq, not_or]
          exact ⟨fun h => h h1, by omega⟩
        simp only []
        rw [if_neg hne]
        have hput := foldl_put x.1 v.cells.toList 0 X (by rw [Array.length_toList]; omega)
        have hf : v.cells.zipIdx.foldl (fun cs (y : Value × Nat) => cs.setIfInBounds (x.1 + y.2) y.1) X = (X.toList.take x.1 ++ v.cells.toList ++ X.toList.drop (x.1 + x.2)).toArray := by
          apply Array.toList_inj.1
          rw [← Array.foldl_toList]
          simp only [Nat.add_zero, Array.length_toList, h1] at hput
          simpa using hput
        refine Eq.trans (congrArg (fun Y => Instr.fill (lay.toArray[·]?) Y r) hf) ?_
        exact fill_laid lay r _ Z (by simpa using h)
      · cases h

section
variable {P : Program} {ops : Array Oper} {Q : Exit → Act → World → Prop} {a : Act} {w w0 : World} {l : List Blk} {o : Oper} {K : Act → World → Prop} {v : Value}
theorem v_buildV {t : TypeId} {parts : List (Nat × Operand)} {vals : List (Nat × Value)} {fields : Array Field} {lay : List (Nat × Nat)} {zs : List Value} (Z : List Value) (ho : o.op = .build t parts.toArray)
    (h1 : (P.info? t).bind (fun i => i.zero.map fun z => z.cells.toList) = some zs) (h2 : P.underlying t = some (.struct fields)) (h4 : fields.toList.mapM (fun f => (P.info? f.type).map fun i => (f.offset, i.size)) = some lay)
    (hp : parts.map (fun p => (p.1, a.eval p.2)) = vals) (hZ : laidAll lay zs vals = some Z) : Val P o a (.agg Z.toArray) w := v_run fun w => by
  cases hi : P.info? t with
  | none => rw [hi] at h1; cases h1
  | some it =>
    rw [hi] at h1
    cases hz : it.zero with
    | none => simp [hz] at h1
    | some z =>
      simp [hz] at h1
      subst h1
      have hb : P.built t vals = some Z.toArray := by
        unfold Program.built
        simp only [hi, h2, hz, h4]
        exact fill_laid lay vals z.cells Z hZ
      unfold execOp
      simp only [ho, List.map_toArray, Sem.run_bind]
      rw [run_build (P := P) w t _ Z.toArray (by rw [← hb, ← hp])]
      rfl
/-! ### A block that stands first -/
theorem v_cellH {ty : TypeId} {x : Operand} {g j : Nat} {T : TypeId} {cs : List Value} {d : TypeDesc} (hc : cs[j]? = some v) (hE : Env w0 (⟨g, T, cs.toArray⟩ :: l) w) (ho : o.op = .load ty x) (hx : a.eval x = .pointer (some ⟨g, j, none⟩)) (hu : P.underlying ty = some d) (hd : (match d with | .struct _ | .array _ _ => false | _ => true) = true) : Val P o a v w :=
  v_cell ho hx hu hd (Env.cellv hE (i := 0) rfl (by rw [List.getElem?_toArray]; exact hc))
theorem v_loadH {ty : TypeId} {x : Operand} {g k n : Nat} {T : TypeId} {X Y : List Value} {d : TypeDesc} (he : (X.drop k).take n = Y) (hE : Env w0 (⟨g, T, X.toArray⟩ :: l) w) (ho : o.op = .load ty x) (hx : a.eval x = .pointer (some ⟨g, k, none⟩))
    (hu : P.underlying ty = some d) (hd : d.isRow = true) (hs : (P.info? ty).map (·.size) = some n) (hn : k + n ≤ X.length) : Val P o a (.agg Y.toArray) w :=
  v_loadCut (i := 0) he hE ho hx rfl hu hd hs (by rw [List.size_toArray]; exact hn)
theorem st_putH {ty : TypeId} {x y : Operand} {g j : Nat} {T : TypeId} {cs Z : List Value} {v : Value} (hZ : cs.set j v = Z) (hE : Env w0 (⟨g, T, cs.toArray⟩ :: l) w) (hw : Region.wanted o (yielded ops a.tmps) = true) (ho : o.op = .store ty x y) (hx : a.eval x = .pointer (some ⟨g, j, none⟩)) (hy : a.eval y = v)
    (hs : (P.info? ty).map (·.size) = some 1) (hv : v.cells = #[v]) (h1 : v.oneCell' = true) (hj : j < cs.length)
    (k : ∀ w1, Env w0 (⟨g, T, Z.toArray⟩ :: l) w1 → K (a.put o.dst undef) w1) : Step P ops Q o K a w :=
  st_put (i := 0) hE hw ho hx hy rfl hs hv h1 (by rw [List.size_toArray]; exact hj) (fun w1 h => k w1 (by
    rw [List.set_cons_zero, List.setIfInBounds_toArray, hZ] at h
    exact h))
theorem st_putCutH {ty : TypeId} {x y : Operand} {g k n : Nat} {T : TypeId} {X Y Z : List Value} (hZ : X.take k ++ Y ++ X.drop (k + n) = Z) (hE : Env w0 (⟨g, T, X.toArray⟩ :: l) w) (hw : Region.wanted o (yielded ops a.tmps) = true) (ho : o.op = .store ty x y) (hx : a.eval x = .pointer (some ⟨g, k, none⟩)) (hy : a.eval y = .agg Y.toArray)
    (hs : (P.info? ty).map (·.size) = some n) (hY : Y.length = n) (hn : k + n ≤ X.length) (h1 : Y.all (·.oneCell') = true)
    (kk : ∀ w1, Env w0 (⟨g, T, Z.toArray⟩ :: l) w1 → K (a.put o.dst undef) w1) : Step P ops Q o K a w :=
  st_putCut (i := 0) hE hw ho hx hy rfl hs hY (by rw [List.size_toArray]; exact hn) h1 (by simpa using hZ) (fun w1 h => kk w1 h)
theorem nats_all (k : IntKind) (l : List Nat) : (nats k l).all (·.oneCell') = true := List.all_eq_true.2 (nats_one k l)
/-! ### An append to nil: new memory, and nothing else -/
theorem st_appendN {s x : Operand} {t e : TypeId} {i : TypeInfo} {z : Value} {bytes : Nat} {k : IntKind} {m : List Nat} {xv : Value} (hE : Env w0 l w) (hw : Region.wanted o (yielded ops a.tmps) = true)
    (ho : o.op = .call { callee := .builtin .append, args := #[s, x], argTypes := #[t, t] }) (ht : P.underlying t = some (.slice e)) (hi : P.info? e = some i) (hz : i.zero = some z) (hsz : i.size = 1) (hzs : z.cells.size = 1) (hby : i.bytes = bytes)
    (hs : a.eval s = .slice none 0 0) (hx : a.eval x = xv) (hr : RdS k m xv w) (h63 : m.length ≤ maxLen) (hb : m.length * bytes ≤ 140737488355328)
    (kk : ∀ v' w' bs, Below w.heap.size w w' → Ow e (nats k m) v' bs → Env w0 (bs ++ l) w' → K (a.put o.dst v') w') : Step P ops Q o K a w := by
  obtain ⟨v', w', hrun, h2⟩ := (Sl.nil (e := e) (Env.nil w)).append_rd (ty := o.type) ht hi hz hsz hzs hby hr (by simpa using h63) (by simpa using hb)
  have hrun' := hrun
  refine st_run (w1 := w') (v := v') hw ?_ ?_
  · unfold execOp
    simp only [ho, resolve, invoke, builtin, Sem.run_bind, Sem.run_pure, Result.andThen_ok, List.map_toArray, List.map_cons, List.map_nil, hs, hx, hrun]
  · obtain ⟨bs, ho', hE'⟩ := h2.ow
    rw [List.nil_append] at ho'
    rw [List.append_nil] at hE'
    refine kk v' w' bs hE'.below ho' ?_
    rcases ho' with ⟨-, -, rfl⟩ | ⟨g, cap, cs, -, -, -, -, -, rfl⟩
    · exact hE.call hE'.below
    · have hn : w.heap.size ≤ g := hE'.new _ (List.mem_singleton_self _)
      exact (hE.call hE'.below).add (hE'.get (i := 0) rfl) (Nat.le_trans hE.below.size hn) fun b hm => Nat.ne_of_gt (Nat.lt_of_lt_of_le (hE.lt hm) hn)
/-- What a call has made for itself alone, beside what was known. -/
theorem Env.lift {e : TypeId} {xs : List Value} {w' : World} (hE : Env w0 l w) (h : Sl w [] e xs v w') : ∃ bs, Ow e xs v bs ∧ Env w0 (bs ++ l) w' := by
  obtain ⟨bs, ho, hE'⟩ := h.ow
  rw [List.append_nil] at hE'
  refine ⟨bs, ho, ?_⟩
  rcases ho with ⟨-, -, rfl⟩ | ⟨g, cap, cs, -, -, -, -, -, rfl⟩
  · exact hE.call hE'.below
  · have hn : w.heap.size ≤ g := hE'.new _ (List.mem_singleton_self _)
    exact (hE.call hE'.below).add (hE'.get (i := 0) rfl) (Nat.le_trans hE.below.size hn) fun b hm => Nat.ne_of_gt (Nat.lt_of_lt_of_le (hE.lt hm) hn)
theorem Env.mid {bs : List Blk} {b : Blk} : Env w0 (bs ++ b :: l) w ↔ Env w0 (b :: (bs ++ l)) w := ⟨fun h => h.perm List.perm_middle, fun h => h.perm List.perm_middle.symm⟩
end
end Go.Proofs.YtnbbehgcnodfbaaDoor
