/-
  Appends of zeros to a slice of the call's own. No condition on the program.
-/
import Derived.Test.YtnbbehgcnodfbaaDoorApp
import Derived.Lib.AppendZeros
namespace Go.Proofs.YtnbbehgcnodfbaaDoor
open Go.RowKit
set_option maxRecDepth 100000
set_option linter.unusedVariables false
set_option linter.unusedSimpArgs false

theorem zeroCells_one (c : Value) (n : Nat) : (Builtin.zeroCells #[c] n).toList = List.replicate n c := by
  unfold Builtin.zeroCells
  apply List.ext_getElem
  · simp
  · intro j h1 h2
    simp [Nat.mod_one]
section
variable {P : Program} {w0 w : World} {l : List Blk} {e : TypeId} {xs : List Value} {v : Value}
theorem Sl.append_zeros {t tn ty : TypeId} {i : TypeInfo} {z c : Value} {bytes : Nat} {kn : IntKind} (h : Sl w0 l e xs v w) (ht : P.underlying t = some (.slice e)) (htn : P.underlying tn = some (.int kn)) (hi : P.info? e = some i) (hz : i.zero = some z) (hs : i.size = 1) (hzs : z.cells = #[c]) (h1 : c.oneCell' = true) (hby : i.bytes = bytes)
    {n : Nat} (h0 : 0 < n) (h63 : xs.length + n ≤ maxLen) (hb : (xs.length + n) * bytes ≤ 140737488355328) :
    ∃ v' w', (Builtin.append_ #[t, tn] ty #[v, .int .i64 (n : Int)]).run P w = .ok v' w' ∧ Sl w0 l e (xs ++ List.replicate n c) v' w' := by
  subst hby
  have h63' : ((xs.length + n : Nat) : Int) ≤ 9223372036854775807 := by simp only [maxLen] at h63; omega
  have hn63 : (n : Int) ≤ 9223372036854775807 := by omega
  have hnb : n * i.bytes ≤ (xs.length + n) * i.bytes := Nat.mul_le_mul_right _ (by omega)
  have hn48 : n * i.bytes ≤ 281474976710656 := by omega
  have hn : n ≠ 0 := by omega
  have hw : IntKind.i64.wrap (n : Int) = n := by rw [IntKind.wrap_i64]; omega
  have h48i : ¬ (281474976710656 < (n : Int) * (i.bytes : Int)) := by
    rw [← Int.natCast_mul]
    omega
  have hneg : ¬ ((n : Int) < 0) := by omega
  have hlen : (xs ++ List.replicate n c).length = xs.length + n := by simp
  have hzc := zeroCells_one c n
  have made : ∀ (old : Nat), old < xs.length + n → Env w0 l w → Sl w0 l e (xs ++ List.replicate n c) (.slice (some ⟨w.heap.size, 0, none⟩) (xs.length + n) (grownCap w (xs.length + n) old e))
      (w.drew.alloc (.cells (xs.toArray ++ Builtin.zeroCells #[c] n ++ Builtin.zeroCells #[c] (grownCap w (xs.length + n) old e - (xs.length + n))) e)) := by
    intro old ho hE
    have hge := grownCap_ge w (xs.length + n) old e
    refine .inr ⟨w.heap.size, _, _, by rw [hlen], by rw [hlen]; exact hge, grownCap_le_maxLen w (xs.length + n) old e h63, ?_, ?_, (hE.drew).alloc' _ _ rfl⟩
    · simp only [Array.size_append, List.size_toArray, size_zeroCells]
      simp
      omega
    · simp only [Array.toList_append, hzc]
      exact List.take_left
  rcases h with ⟨rfl, rfl, hE⟩ | ⟨g, cap, cs, rfl, h2, h3, h4, h5, hE⟩
  · have hr := Lib.run_append_nil_zeros (P := P) w t tn ty e i z .i64 kn ht htn hi hz n h0 (by omega) hn63 hn48
    have hgr := made 0 (by omega) hE
    simp only [List.length_nil, Nat.zero_add, List.nil_append, Array.empty_append, hzs] at hgr hr ⊢
    exact ⟨_, _, hr, hgr⟩
  · by_cases hroom : xs.length + n ≤ cap
    · have hst := run_storeCells_at P g xs.length e (List.replicate n c) 0 cs w (hE.get (i := 0) rfl) (by simp; omega) (fun u hu => by rw [(List.mem_replicate.1 hu).2]; exact h1)
      simp only [Nat.add_zero] at hst
      refine ⟨.slice (some ⟨g, 0, none⟩) (xs.length + n) cap, w.setRow g (cs.toList.take xs.length ++ List.replicate n c ++ cs.toList.drop (xs.length + (List.replicate n c).length)).toArray, ?_, .inr ⟨g, cap, _, by rw [hlen], by rw [hlen]; exact hroom, h3, ?_, ?_, hE.store (i := 0) rfl _⟩⟩
      · simp [Builtin.append_, run_underlying ht, run_underlying htn, sizeOf, typeInfo, zeroValue, hi, hz, hs, hzs, hzc, asInt, asIntOf, hw, hn, hneg, h48i, hroom, Addr.add_lit, hst]
      · simp only [List.size_toArray, List.length_append, List.length_take, List.length_drop, Array.length_toList, List.length_replicate]
        omega
      · simp only []
        rw [h5]
        exact List.take_left
    · have h48' : ¬ (281474976710656 < Builtin.nextslicecap (xs.length + n) cap * i.bytes) := by
        have := growslice_fits (need := xs.length + n) (old := cap) (bytes := i.bytes) (by omega) hb
        omega
      have h63'' : ¬ (9223372036854775807 < ((xs.length : Int) + (n : Int))) := by omega
      have hfo := run_firstCells_some (P := P) w.drew i.size xs.length ⟨g, 0, none⟩ xs.length cap xs (by rw [hs, Nat.mul_one]) (fun j u hu => by
        have ha : (⟨g, 0, none⟩ : Addr).add j = ⟨g, j, none⟩ := by unfold Addr.add; split <;> simp_all
        rw [ha, (hE.drew).cell (i := 0) rfl j]
        rw [← h5, List.getElem?_take] at hu
        split at hu
        · simpa using hu
        · cases hu)
      refine ⟨_, _, ?_, made cap (by omega) (hE.sub (List.sublist_cons_self _ _))⟩
      rw [hs] at hfo
      simp [Builtin.append_, run_underlying ht, run_underlying htn, sizeOf, typeInfo, zeroValue, hi, hz, hs, hzs, asInt, asIntOf, hw, hn, hneg, h48i, hroom, h63'', h48', Question.forced, hfo, newRow, grownCap]
theorem st_appendZ {ops : Array Oper} {o : Oper} {a : Act} {Q : Exit → Act → World → Prop} {K : Act → World → Prop} {s x : Operand} {t tn : TypeId} {i : TypeInfo} {z c : Value} {bytes n : Nat} {kn : IntKind} (h : Sl w0 l e xs v w) (hw : Region.wanted o (yielded ops a.tmps) = true)
    (ho : o.op = .call { callee := .builtin .append, args := #[s, x], argTypes := #[t, tn] }) (ht : P.underlying t = some (.slice e)) (htn : P.underlying tn = some (.int kn)) (hi : P.info? e = some i) (hz : i.zero = some z) (hsz : i.size = 1) (hzs : z.cells = #[c]) (h1 : c.oneCell' = true) (hby : i.bytes = bytes)
    (hs : a.eval s = v) (hx : a.eval x = .int .i64 (n : Int)) (h0 : 0 < n) (h63 : xs.length + n ≤ maxLen) (hb : (xs.length + n) * bytes ≤ 140737488355328)
    (kk : ∀ v' w', Sl w0 l e (xs ++ List.replicate n c) v' w' → K (a.put o.dst v') w') : Step P ops Q o K a w := by
  obtain ⟨v', w', hrun, h2⟩ := h.append_zeros (ty := o.type) ht htn hi hz hsz hzs h1 hby h0 h63 hb
  refine st_run (w1 := w') (v := v') hw ?_ (kk v' w' h2)
  unfold execOp
  simp only [ho, resolve, invoke, builtin, Sem.run_bind, Sem.run_pure, Result.andThen_ok, List.map_toArray, List.map_cons, List.map_nil, hs, hx, hrun]
end
end Go.Proofs.YtnbbehgcnodfbaaDoor
