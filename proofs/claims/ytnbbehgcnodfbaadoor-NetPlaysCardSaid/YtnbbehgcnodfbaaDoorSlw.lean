/-
  Own slices as lists of blocks, so that several may stand beside each other; blocks of mixed cells; a slice that reads out of a known block.
  No condition on the program.
-/
import Derived.Test.YtnbbehgcnodfbaaDoorApz
import Derived.Test.YtnbbehgcnodfbaaDoorBsl
namespace Go.Proofs.YtnbbehgcnodfbaaDoor
open Go.RowKit
set_option maxRecDepth 100000
set_option linter.unusedVariables false
set_option linter.unusedSimpArgs false

/-- v is a slice of the call's own, of the cells xs, that lies in the blocks bs (none, or one). -/
def Ow (e : TypeId) (xs : List Value) (v : Value) (bs : List Blk) : Prop :=
  (v = .slice none 0 0 ∧ xs = [] ∧ bs = []) ∨
  ∃ g cap cs, v = .slice (some ⟨g, 0, none⟩) xs.length cap ∧ xs.length ≤ cap ∧ cap ≤ maxLen ∧ cs.size = cap ∧ cs.toList.take xs.length = xs ∧ bs = [⟨g, e, cs⟩]
section
variable {w0 w : World} {l : List Blk} {e : TypeId} {xs : List Value} {v : Value} {bs : List Blk}
theorem Ow.nil (e : TypeId) : Ow e [] (.slice none 0 0) [] := .inl ⟨rfl, rfl, rfl⟩
theorem Ow.sl (h : Ow e xs v bs) (hE : Env w0 (bs ++ l) w) : Sl w0 l e xs v w := by
  rcases h with ⟨h1, h2, rfl⟩ | ⟨g, cap, cs, h1, h2, h3, h4, h5, rfl⟩
  · exact .inl ⟨h1, h2, hE⟩
  · exact .inr ⟨g, cap, cs, h1, h2, h3, h4, h5, hE⟩
theorem Sl.ow (h : Sl w0 l e xs v w) : ∃ bs, Ow e xs v bs ∧ Env w0 (bs ++ l) w := by
  rcases h with ⟨h1, h2, hE⟩ | ⟨g, cap, cs, h1, h2, h3, h4, h5, hE⟩
  · exact ⟨[], .inl ⟨h1, h2, rfl⟩, hE⟩
  · exact ⟨_, .inr ⟨g, cap, cs, h1, h2, h3, h4, h5, rfl⟩, hE⟩
theorem Ow.len (h : Ow e xs v bs) : ∃ p c, v = .slice p xs.length c ∧ xs.length ≤ c := by
  rcases h with ⟨rfl, rfl, -⟩ | ⟨g, cap, cs, rfl, h2, -⟩
  · exact ⟨_, _, rfl, Nat.le_refl _⟩
  · exact ⟨_, _, rfl, h2⟩
end

/-- v is a slice that reads these numbers out of the block of the cells cs. -/
def RdB (k : IntKind) (g : Nat) (cs : Array Value) (l : List Nat) (v : Value) : Prop :=
  ∃ p c, v = .slice p l.length c ∧ l.length ≤ c ∧ (l = [] ∨ ∃ off, p = some ⟨g, off, none⟩ ∧ (cs.toList.drop off).take l.length = nats k l)
theorem RdB.rd {k : IntKind} {g : Nat} {cs : Array Value} {l : List Nat} {v : Value} {T : TypeId} {w : World} (h : RdB k g cs l v) (hg : w.heap[g]? = some (.cells cs T (0, 0))) : RdS k l v w := by
  obtain ⟨p, c, rfl, h2, h3⟩ := h
  refine ⟨p, c, rfl, h2, h3.imp id fun ⟨off, h4, h5⟩ => ⟨g, off, h4, fun j u hj => ?_⟩⟩
  have hjl : j < l.length := by
    have := (List.getElem?_eq_some_iff.1 hj).1
    rwa [Array.length_toList, ints_size] at this
  rw [cell_of_row w g _ _ _ _ hg]
  have h6 : nats k l = (ints k l).toList := rfl
  rw [← h6, ← h5, List.getElem?_take, if_pos hjl, List.getElem?_drop] at hj
  rw [← hj, Array.getElem?_toList]
theorem RdB.slcd {k : IntKind} {g : Nat} {cs : Array Value} {l : List Nat} {p : Option Addr} {n c lo : Nat} (h : RdB k g cs l (.slice p n c)) (h1 : lo ≤ n) : RdB k g cs (l.drop lo) (slcd p lo n c) := by
  obtain ⟨p', c', e1, h2, h3⟩ := h
  injection e1 with e1 e2 e3
  subst e1 e2 e3
  have hl : (l.drop lo).length = l.length - lo := by rw [List.length_drop]
  refine ⟨if c = lo then p else p.map (·.add lo), c - lo, by rw [hl]; rfl, by rw [hl]; omega, ?_⟩
  by_cases hc : c = lo
  · left
    exact List.drop_eq_nil_of_le (by omega)
  · rw [if_neg hc]
    rcases h3 with rfl | ⟨off, rfl, h5⟩
    · left; simp
    · refine .inr ⟨off + lo, by simp [Addr.add], ?_⟩
      rw [hl, ← List.drop_drop, ← List.drop_take, h5]
      unfold nats ints
      simp [List.map_drop]
theorem Ow.rdB {k : IntKind} {e : TypeId} {l : List Nat} {v : Value} {bs : List Blk} (h : Ow e (nats k l) v bs) : (bs = [] ∧ l = [] ∧ v = .slice none 0 0) ∨ ∃ g cs, bs = [⟨g, e, cs⟩] ∧ RdB k g cs l v := by
  rcases h with ⟨h1, h2, h3⟩ | ⟨g, cap, cs, h1, h2, h3, h4, h5, h6⟩
  · refine .inl ⟨h3, ?_, h1⟩
    have := congrArg List.length h2
    rw [nats_len] at this
    exact List.eq_nil_of_length_eq_zero this
  · rw [nats_len] at h1 h2 h5
    exact .inr ⟨g, cs, h6, _, _, h1, h2, .inr ⟨0, rfl, by rw [List.drop_zero]; exact h5⟩⟩
/-- An own slice reads its cells. -/
theorem Sl.rdS {k : IntKind} {e : TypeId} {l : List Nat} {v : Value} {w0 w : World} {bl : List Blk} (h : Sl w0 bl e (nats k l) v w) : RdS k l v w := by
  obtain ⟨bs, ho, hE⟩ := h.ow
  rcases ho.rdB with ⟨-, rfl, rfl⟩ | ⟨g, cs, rfl, h1⟩
  · exact RdS.nil k w
  · exact h1.rd (hE.get (i := 0) rfl)

section
variable {P : Program} {ops : Array Oper} {Q : Exit → Act → World → Prop} {a : Act} {w w0 : World} {l : List Blk} {o : Oper} {K : Act → World → Prop} {v : Value}
/-- A part of a block of whatever cells. -/
theorem v_loadCut {ty : TypeId} {x : Operand} {g i k n : Nat} {T : TypeId} {X : Array Value} {Y : List Value} {d : TypeDesc} (he : (X.toList.drop k).take n = Y) (hE : Env w0 l w) (ho : o.op = .load ty x) (hx : a.eval x = .pointer (some ⟨g, k, none⟩)) (hi : l[i]? = some ⟨g, T, X⟩)
    (hu : P.underlying ty = some d) (hd : d.isRow = true) (hs : (P.info? ty).map (·.size) = some n) (hn : k + n ≤ X.size) : Val P o a (.agg Y.toArray) w :=
  v_loadMid ho hx (fun w1 hb => by
    have h := World.rangeAt_of_block ((hE.call hb).get hi) k n
    have e : (X.extract k (k + n)).toList = Y.toArray.toList := by
      rw [← he]
      simp
    rwa [e] at h) hu hd (sz_of hs (by
      rw [← he]
      simp
      omega))
theorem fold_put : ∀ (Y : List Value) (X : Array Value) (o : Nat), o + Y.length ≤ X.size → (Y.zipIdx o).foldl (fun (c : Array Value) x => c.setIfInBounds x.2 x.1) X = (X.toList.take o ++ Y ++ X.toList.drop (o + Y.length)).toArray
  | [], X, o, _ => by simp
  | y :: Y, X, o, h => by
    rw [List.length_cons] at h
    rw [List.zipIdx_cons, List.foldl_cons]
    simp only []
    rw [fold_put Y (X.setIfInBounds o y) (o + 1) (by simp; omega)]
    congr 1
    rw [Array.toList_setIfInBounds]
    have h1 : (X.toList.set o y).take (o + 1) = X.toList.take o ++ [y] := by
      rw [List.take_succ_eq_append_getElem (by simp; omega), List.take_set, List.getElem_set_self, List.set_eq_of_length_le (by simp; omega)]
    have h2 : (X.toList.set o y).drop (o + 1 + Y.length) = X.toList.drop (o + (Y.length + 1)) := by
      rw [List.drop_set_of_lt (by omega)]
      congr 1
      omega
    rw [h1, h2]
    simp
/-- A store of a part of a block of whatever cells. -/
theorem st_putCut {ty : TypeId} {x y : Operand} {g i k n : Nat} {T : TypeId} {X : Array Value} {Y Z : List Value} (hE : Env w0 l w) (hw : Region.wanted o (yielded ops a.tmps) = true) (ho : o.op = .store ty x y) (hx : a.eval x = .pointer (some ⟨g, k, none⟩)) (hy : a.eval y = .agg Y.toArray)
    (hi : l[i]? = some ⟨g, T, X⟩) (hs : (P.info? ty).map (·.size) = some n) (hY : Y.length = n) (hn : k + n ≤ X.size) (h1 : Y.all (·.oneCell') = true) (hZ : X.toList.take k ++ Y ++ X.toList.drop (k + n) = Z)
    (kk : ∀ w1, Env w0 (l.set i ⟨g, T, Z.toArray⟩) w1 → K (a.put o.dst undef) w1) : Step P ops Q o K a w := by
  subst hY hZ
  have hth : w.there g k Y.toArray.size := fun j hj => by
    rw [List.size_toArray] at hj
    refine ⟨?_, hE.frozen hi _⟩
    rw [hE.cell hi, Array.getElem?_eq_getElem (by omega)]
    rfl
  have h := run_storeVar_mid (P := P) w g k ty Y.toArray hth (sz_of hs (List.size_toArray ..)) (by simpa using h1)
  refine st_skipRun (w1 := w.setCells g k Y) hw ?_ (kk _ ?_)
  · unfold execOp
    simp only [ho, hx, hy, Instr.storeAt, Instr.sureAddr, Sem.run_bind, Sem.run_pure, Result.andThen_ok, h]
  · have h2 := Env.setCells Y k hE hi
    rwa [fold_put Y X k hn] at h2
/-- A cell of a block. -/
theorem v_cellB {ty : TypeId} {x : Operand} {g i j : Nat} {T : TypeId} {cs : Array Value} {d : TypeDesc} (hE : Env w0 l w) (ho : o.op = .load ty x) (hx : a.eval x = .pointer (some ⟨g, j, none⟩)) (hi : l[i]? = some ⟨g, T, cs⟩) (hu : P.underlying ty = some d) (hd : (match d with | .struct _ | .array _ _ => false | _ => true) = true)
    (hc : cs[j]? = some v) : Val P o a v w := v_cell ho hx hu hd (Env.cellv hE hi hc)
end
end Go.Proofs.YtnbbehgcnodfbaaDoor
