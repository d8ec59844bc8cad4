/-
  Parts of arrays as slices; copies into a part; appends of slices to a slice of slices. No condition on the program.
-/
import Derived.Test.YthddoelflmoedaaGreatJ26
import Derived.Laws.CopyRow
set_option linter.unusedVariables false
set_option linter.unusedSimpArgs false
namespace Go.Proofs.YthddoelflmoedaaGreat
open Go.RowKit
set_option maxRecDepth 100000

theorem RdS.part {k : IntKind} {l : List Nat} {g lo n c : Nat} {T : TypeId} {fr : Nat × Nat} {w : World} (h : w.heap[g]? = some (.cells (ints k l) T fr)) (hn : lo + n ≤ l.length) (hc : n ≤ c) : RdS k ((l.drop lo).take n) (.slice (some ⟨g, lo, none⟩) n c) w := by
 have hl : ((l.drop lo).take n).length = n := by rw [List.length_take, List.length_drop]; omega
 refine ⟨_, _, by rw [hl], by rw [hl]; exact hc, .inr ⟨g, lo, rfl, fun j u hj => ?_⟩⟩
 have hjn : j < n := by
  have := (List.getElem?_eq_some_iff.1 hj).1
  rwa [Array.length_toList, ints_size, hl] at this
 rw [cell_of_row w g _ _ _ _ h, ← hj]
 unfold ints
 simp only [List.getElem?_toArray, List.getElem?_map, List.getElem?_take, List.getElem?_drop, if_pos hjn]
theorem RdS.whole {k : IntKind} {l : List Nat} {g n : Nat} {T : TypeId} {fr : Nat × Nat} {w : World} (h : w.heap[g]? = some (.cells (ints k l) T fr)) (hn : l.length = n) : RdS k l (.slice (some ⟨g, 0, none⟩) n n) w := by
 have := RdS.part (lo := 0) (n := n) (c := n) h (by omega) (Nat.le_refl _)
 rwa [List.drop_zero, List.take_of_length_le (by omega)] at this

section
variable {P : Program} {ops : Array Oper} {Q : Exit → Act → World → Prop} {a : Act} {w w0 : World} {l : List Blk} {o : Oper} {K : Act → World → Prop}
theorem v_sliceArrL {t e : TypeId} {x y : Operand} {k : IntKind} {g n lo : Nat} (ho : o.op = .slice t x (some y) none none) (hx : a.eval x = .pointer (some ⟨g, 0, none⟩)) (hy : a.eval y = .int k (lo : Int))
  (ht : P.underlying t = some (.array n e)) (hs : (P.info? e).map (·.size) = some 1) (h3 : lo < n) : Val P o a (.slice (some ⟨g, lo, none⟩) (n - lo) (n - lo)) w := v_run fun w => by
 have h1 : lo ≤ n := by omega
 have h4 : ¬ n = lo := by omega
 unfold execOp
 simp [ho, hx, hy, Instr.sliceAt, Instr.sureAddr, run_underlying ht, size_run hs, Instr.sliceBounds, run_sliceBound, Sem.run_bind, Sem.run_pure, h1, h4, Addr.add]
 try omega
theorem v_sliceArrH {t e : TypeId} {x z : Operand} {k : IntKind} {g n hi : Nat} (ho : o.op = .slice t x none (some z) none) (hx : a.eval x = .pointer (some ⟨g, 0, none⟩)) (hz : a.eval z = .int k (hi : Int))
  (ht : P.underlying t = some (.array n e)) (hs : (P.info? e).map (·.size) = some 1) (h2 : hi ≤ n) (h3 : 0 < n) : Val P o a (.slice (some ⟨g, 0, none⟩) hi n) w := v_run fun w => by
 have h4 : ¬ n = 0 := by omega
 unfold execOp
 simp [ho, hx, hz, Instr.sliceAt, Instr.sureAddr, run_underlying ht, size_run hs, Instr.sliceBounds, run_sliceBound, Sem.run_bind, Sem.run_pure, h2, h4, Addr.add]
theorem st_copyInto {x y : Operand} {t t' e : TypeId} {g i n c off : Nat} {T : TypeId} {X : List Nat} {k : IntKind} {m Z : List Nat} {yv : Value} (hZ : X.take off ++ m ++ X.drop (off + n) = Z) (hE : Env w0 l w) (hw : Region.wanted o (yielded ops a.tmps) = true)
  (ho : o.op = .call { callee := .builtin .copy, args := #[x, y], argTypes := #[t, t'] }) (hx : a.eval x = .slice (some ⟨g, off, none⟩) n c) (hy : a.eval y = yv) (hr : RdS k m yv w) (hm : m.length = n) (h0 : 0 < n)
  (ht : P.underlying t = some (.slice e)) (hs : (P.info? e).map (·.size) = some 1) (hi : l[i]? = some ⟨g, T, ints k X⟩) (hc : off + n ≤ X.length)
  (kk : ∀ w1, Env w0 (l.set i ⟨g, T, ints k Z⟩) w1 → K (a.put o.dst (goInt n)) w1) : Step P ops Q o K a w := by
 subst hZ
 obtain ⟨p, cap, rfl, hcap, h3⟩ := hr
 rcases h3 with h3 | ⟨b, off', rfl, h5⟩
 ·rw [h3] at hm
  rw [← hm] at h0
  exact absurd h0 (by decide)
 ·have hnl : (nats k m).length = n := by rw [nats_len, hm]
  have hrun := run_copy_row (P := P) w t t' o.type e g off n c ⟨b, off', none⟩ m.length cap (ints k X) T (nats k m) ht hs (hE.get hi) (by rw [hnl, hm]; exact (Nat.min_self n).symm) (fun j u hj => by
   rw [addr_add]
   exact h5 j u hj) (by rw [hnl, ints_size]; exact hc) (nats_one k m)
  have hrow : ((ints k X).toList.take off ++ nats k m ++ (ints k X).toList.drop (off + (nats k m).length)).toArray = ints k (X.take off ++ m ++ X.drop (off + n)) := by
   rw [hnl]
   unfold nats ints
   simp [List.map_take, List.map_drop]
  rw [hrow, hnl] at hrun
  refine st_run (w1 := w.setRow g (ints k (X.take off ++ m ++ X.drop (off + n)))) (v := goInt n) hw ?_ (kk _ (hE.store hi _))
  unfold execOp
  simp only [ho, resolve, invoke, builtin, Sem.run_bind, Sem.run_pure, Result.andThen_ok, List.map_toArray, List.map_cons, List.map_nil, hx, hy, hrun]
end
theorem RdS.one {k : IntKind} {l : List Nat} {v : Value} {w : World} (h : RdS k l v w) : v.oneCell' = true := by
 obtain ⟨p, c, rfl, -⟩ := h
 rfl
theorem RdSs.vals {k : IntKind} {rows : List (List Nat)} {v : Value} {w : World} (h : RdSs k rows v w) : ∃ us : List Value, us.length = rows.length ∧ (∀ j (hj : j < rows.length), ∃ u, us[j]? = some u ∧ RdS k rows[j] u w) ∧
  ∃ p c, v = .slice p rows.length c ∧ rows.length ≤ c ∧ (rows = [] ∨ ∃ b off, p = some ⟨b, off, none⟩ ∧ ∀ j u, us[j]? = some u → w.cell? ⟨b, off + j, none⟩ = some u) := by
 obtain ⟨p, c, rfl, hc, h3⟩ := h
 rcases h3 with rfl | ⟨b, off, rfl, h5⟩
 ·exact ⟨[], rfl, fun j hj => by simp at hj, p, c, rfl, hc, .inl rfl⟩
 ·have key : ∀ n, n ≤ rows.length → ∃ us : List Value, us.length = n ∧ ∀ j (hj : j < n) (hr : j < rows.length), ∃ u, us[j]? = some u ∧ w.cell? ⟨b, off + j, none⟩ = some u ∧ RdS k rows[j] u w := by
   intro n
   induction n with
   | zero => intro _; exact ⟨[], rfl, fun j hj => by omega⟩
   | succ n ih =>
    intro hn
    obtain ⟨us, h1, h2⟩ := ih (by omega)
    obtain ⟨u, hu, hr⟩ := h5 n (by omega)
    refine ⟨us ++ [u], by simp [h1], fun j hj hjr => ?_⟩
    rcases Nat.lt_or_ge j n with hlt | hge
    ·obtain ⟨u', h3, h4⟩ := h2 j hlt hjr
     exact ⟨u', by rw [List.getElem?_append_left (by omega)]; exact h3, h4⟩
    ·have : j = n := by omega
     subst this
     exact ⟨u, by rw [List.getElem?_append_right (by omega), h1, Nat.sub_self]; rfl, hu, hr⟩
  obtain ⟨us, h1, h2⟩ := key _ (Nat.le_refl _)
  refine ⟨us, h1, fun j hj => ?_, _, c, rfl, hc, .inr ⟨b, off, rfl, fun j u hu => ?_⟩⟩
  ·obtain ⟨u, h3, -, h5⟩ := h2 j hj hj
   exact ⟨u, h3, h5⟩
  ·have hj : j < rows.length := by
    have := (List.getElem?_eq_some_iff.1 hu).1
    omega
   obtain ⟨u', h3, h4, -⟩ := h2 j hj hj
   rw [hu] at h3
   injection h3 with h3
   rw [h3]
   exact h4
section
variable {P : Program} {ops : Array Oper} {Q : Exit → Act → World → Prop} {a : Act} {w w0 : World} {l : List Blk} {o : Oper} {K : Act → World → Prop}
theorem st_appendSs {s x : Operand} {t e : TypeId} {i : TypeInfo} {z : Value} {bytes g : Nat} {k : IntKind} {r0 : List (List Nat)} {vs : List Value} {rows : List (List Nat)} {xv : Value} (hE : Env w0 (⟨g, e, vs.toArray⟩ :: l) w) (hw : Region.wanted o (yielded ops a.tmps) = true)
  (ho : o.op = .call { callee := .builtin .append, args := #[s, x], argTypes := #[t, t] }) (ht : P.underlying t = some (.slice e)) (hi : P.info? e = some i) (hz : i.zero = some z) (hsz : i.size = 1) (hzs : z.cells.size = 1) (hby : i.bytes = bytes)
  (hs : a.eval s = .slice (some ⟨g, 0, none⟩) vs.length vs.length) (hx : a.eval x = xv) (h0 : vs.length = r0.length) (hv : ∀ j (hj : j < r0.length), ∃ u, vs[j]? = some u ∧ RdS k r0[j] u w0) (hr : RdSs k rows xv w0)
  (h63 : vs.length + rows.length ≤ maxLen) (hb : (vs.length + rows.length) * bytes ≤ 140737488355328)
  (kk : ∀ v' w', Env w0 l w' → RdSs k (r0 ++ rows) v' w' → K (a.put o.dst v') w') : Step P ops Q o K a w := by
 obtain ⟨us, hul, hu, p, c, rfl, hc, h3⟩ := hr.vals
 have hE0 := hE.sub (List.sublist_cons_self _ _)
 have hEb : Below w0.heap.size w0 w := hE.below
 have hS : Sl w0 l e vs (.slice (some ⟨g, 0, none⟩) vs.length vs.length) w := by
  have := Sl.of_block hE (by simp only [List.size_toArray]; omega)
  simpa using this
 -- what reads, once all values lie in one row
 have key : ∀ (v' : Value) (w' : World), Sl w0 l e (vs ++ us) v' w' → RdSs k (r0 ++ rows) v' w' := fun v' w' h => by
  have hbl := h.env.below
  have hlen : (vs ++ us).length = (r0 ++ rows).length := by rw [List.length_append, List.length_append, h0, hul]
  have each : ∀ j (hj : j < (r0 ++ rows).length), ∃ u, (vs ++ us)[j]? = some u ∧ RdS k (r0 ++ rows)[j] u w' := fun j hj => by
   rcases Nat.lt_or_ge j r0.length with hlt | hge
   ·obtain ⟨u, h1, h2⟩ := hv j hlt
    exact ⟨u, by rw [List.getElem?_append_left (by omega)]; exact h1, by rw [List.getElem_append_left hlt]; exact h2.below hbl⟩
   ·have hj2 : j - r0.length < rows.length := by rw [List.length_append] at hj; omega
    obtain ⟨u, h1, h2⟩ := hu (j - r0.length) hj2
    exact ⟨u, by rw [List.getElem?_append_right (by omega), h0]; exact h1, by rw [List.getElem_append_right hge]; exact h2.below hbl⟩
  rcases h with ⟨rfl, h2, -⟩ | ⟨g', cap, cs, rfl, h2, -, h4, h5, hE'⟩
  ·rw [h2] at hlen
   have : r0 ++ rows = [] := List.eq_nil_of_length_eq_zero hlen.symm
   rw [this]
   exact RdSs.nil k w'
  ·refine ⟨_, cap, by rw [hlen], by rw [← hlen]; exact h2, .inr ⟨g', 0, rfl, fun j hj => ?_⟩⟩
   obtain ⟨u, h6, h7⟩ := each j hj
   refine ⟨u, ?_, h7⟩
   rw [Nat.zero_add, hE'.cell (i := 0) rfl]
   have h8 : (cs.toList.take (vs ++ us).length)[j]? = (vs ++ us)[j]? := by rw [h5]
   rw [List.getElem?_take, if_pos (by omega), Array.getElem?_toList] at h8
   rw [h8, h6]
 by_cases hm : rows = []
 ·subst hm
  have hus : us = [] := List.eq_nil_of_length_eq_zero (by rw [hul]; rfl)
  subst hus
  have hk := key _ w (by rw [List.append_nil]; exact hS)
  refine st_run (w1 := w) (v := .slice (some ⟨g, 0, none⟩) vs.length vs.length) hw ?_ (kk _ _ hE0 hk)
  unfold execOp
  have hrun : (Builtin.append_ #[t, t] o.type #[.slice (some ⟨g, 0, none⟩) vs.length vs.length, .slice p ([] : List (List Nat)).length c]).run P w = .ok (.slice (some ⟨g, 0, none⟩) vs.length vs.length) w := by
   cases p <;> simp [Builtin.append_, run_underlying ht, sizeOf, typeInfo, hi, hsz, Builtin.lenOf, Builtin.firstCells, storeCells, loadCells, loadCellsFrom]
  simp only [ho, resolve, invoke, builtin, Sem.run_bind, Sem.run_pure, Result.andThen_ok, List.map_toArray, List.map_cons, List.map_nil, hs, hx, hrun]
 ·rcases h3 with h3 | ⟨b, off, rfl, h5⟩
  ·exact absurd h3 hm
  ·have hpos : 0 < rows.length := List.length_pos_iff.2 hm
   have hone : ∀ u ∈ us, u.oneCell' = true := fun u hu' => by
    obtain ⟨j, hj, rfl⟩ := List.getElem_of_mem hu'
    obtain ⟨u', h6, h7⟩ := hu j (by omega)
    rw [List.getElem?_eq_getElem hj] at h6
    injection h6 with h6
    rw [h6]
    exact h7.one
   obtain ⟨v', w', hrun, h2⟩ := hS.append (ty := o.type) (c := c) ht hi hz hsz hzs hby hul hpos (fun j u hj => by
    rw [addr_add]
    have := h5 j u hj
    exact (hEb.cell (World.block_lt_of_cell? _ _ this)).trans this) hone h63 hb
   refine st_run (w1 := w') (v := v') hw ?_ (kk _ _ h2.env (key _ _ h2))
   unfold execOp
   simp only [ho, resolve, invoke, builtin, Sem.run_bind, Sem.run_pure, Result.andThen_ok, List.map_toArray, List.map_cons, List.map_nil, hs, hx, hrun]
end
end Go.Proofs.YthddoelflmoedaaGreat
