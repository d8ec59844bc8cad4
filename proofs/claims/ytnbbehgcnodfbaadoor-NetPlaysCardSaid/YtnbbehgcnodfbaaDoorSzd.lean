/-
  Slices of elements of several cells: the call's own as lists of blocks, and such as are read; appends to them. No condition on the program.
-/
import Derived.Test.YtnbbehgcnodfbaaDoorBlm
namespace Go.Proofs.YtnbbehgcnodfbaaDoor
open Go.RowKit
set_option maxRecDepth 100000
set_option linter.unusedVariables false
set_option linter.unusedSimpArgs false

/-- v is a slice of the call's own, of n elements of s cells each, that lies in the blocks bs (none, or one). -/
def Oz (s : Nat) (e : TypeId) (n : Nat) (xs : List Value) (v : Value) (bs : List Blk) : Prop :=
  xs.length = n * s ∧ ((v = .slice none 0 0 ∧ n = 0 ∧ bs = []) ∨
  ∃ g cap cs, v = .slice (some ⟨g, 0, none⟩) n cap ∧ n ≤ cap ∧ cap ≤ maxLen ∧ cs.size = cap * s ∧ cs.toList.take (n * s) = xs ∧ bs = [⟨g, e, cs⟩])
/-- v is a slice that reads these cells, n elements of s cells each. -/
def RdZ (s n : Nat) (xs : List Value) (v : Value) (w : World) : Prop :=
  xs.length = n * s ∧ ∃ p cap, v = .slice p n cap ∧ n ≤ cap ∧ (n = 0 ∨ ∃ b off, p = some ⟨b, off, none⟩ ∧ w.rangeAt b off xs)
section
variable {P : Program} {s n : Nat} {w0 w : World} {l : List Blk} {e : TypeId} {xs : List Value} {v : Value} {bs : List Blk}
theorem Oz.nil (s : Nat) (e : TypeId) : Oz s e 0 [] (.slice none 0 0) [] := ⟨by simp, .inl ⟨rfl, rfl, rfl⟩⟩
theorem Oz.len (h : Oz s e n xs v bs) : ∃ p c, v = .slice p n c ∧ n ≤ c := by
  rcases h with ⟨-, ⟨rfl, rfl, -⟩ | ⟨g, cap, cs, rfl, h2, -⟩⟩
  · exact ⟨_, _, rfl, Nat.le_refl _⟩
  · exact ⟨_, _, rfl, h2⟩
theorem RdZ.len (h : RdZ s n xs v w) : ∃ p c, v = .slice p n c ∧ n ≤ c := by
  obtain ⟨-, p, c, rfl, hc, -⟩ := h
  exact ⟨p, c, rfl, hc⟩
theorem Oz.rd (h : Oz s e n xs v bs) (hE : Env w0 (bs ++ l) w) : RdZ s n xs v w := by
  rcases h with ⟨h0, ⟨rfl, rfl, rfl⟩ | ⟨g, cap, cs, rfl, h2, h3, h4, h5, rfl⟩⟩
  · exact ⟨h0, none, 0, rfl, Nat.le_refl _, .inl rfl⟩
  · refine ⟨h0, _, _, rfl, h2, .inr ⟨g, 0, rfl, fun j u hj => ?_⟩⟩
    rw [hE.cell (i := 0) rfl]
    rw [← h5, List.getElem?_take] at hj
    split at hj
    · rw [Nat.zero_add]
      simpa using hj
    · cases hj
theorem RdZ.below {w1 : World} (h : RdZ s n xs v w) (hb : Below w.heap.size w w1) : RdZ s n xs v w1 := by
  obtain ⟨h0, p, c, h1, h2, h3⟩ := h
  refine ⟨h0, p, c, h1, h2, ?_⟩
  rcases h3 with h3 | ⟨b, off, h4, h5⟩
  · exact .inl h3
  · exact .inr ⟨b, off, h4, range_below h5 hb⟩
/-- Element j of a slice that is read. -/
theorem RdZ.elem {p : Option Addr} {c : Nat} (h : RdZ s n xs (.slice p n c) w) {j : Nat} (hj : j < n) : ∃ b off, p = some ⟨b, off, none⟩ ∧ ∀ w1, Below w.heap.size w w1 → w1.rangeAt b (off + j * s) ((xs.drop (j * s)).take s) := by
  obtain ⟨h0, p', c', h1, h2, h3⟩ := h
  injection h1 with h1 _ _
  subst h1
  rcases h3 with rfl | ⟨b, off, h4, h5⟩
  · omega
  · refine ⟨b, off, h4, fun w1 hb k u hk => ?_⟩
    have hr := range_below h5 hb
    have hks : k < s := by
      have := (List.getElem?_eq_some_iff.1 hk).1
      rw [List.length_take] at this
      omega
    rw [List.getElem?_take, if_pos hks, List.getElem?_drop] at hk
    have := hr (j * s + k) u hk
    rwa [← Nat.add_assoc] at this
theorem Oz.append {t ty : TypeId} {i : TypeInfo} {z : Value} {bytes : Nat} (h : Oz s e n xs v bs) (hE : Env w0 (bs ++ l) w) (ht : P.underlying t = some (.slice e)) (hi : P.info? e = some i) (hz : i.zero = some z) (hs : i.size = s) (hzs : z.cells.size = s) (hby : i.bytes = bytes)
    {m : Nat} {news : List Value} {x : Value} (hx : RdZ s m news x w) (h1 : ∀ u ∈ news, u.oneCell' = true) (h63 : n + m ≤ maxLen) (hb : (n + m) * bytes ≤ 140737488355328) :
    ∃ v' w' bs', (Builtin.append_ #[t, t] ty #[v, x]).run P w = .ok v' w' ∧ Oz s e (n + m) (xs ++ news) v' bs' ∧ Env w0 (bs' ++ l) w' := by
  obtain ⟨hnl, p, c, rfl, hcap, h3⟩ := hx
  have hxl := h.1
  rcases Nat.eq_zero_or_pos m with rfl | hm
  · have hnews : news = [] := List.eq_nil_of_length_eq_zero (by rw [hnl, Nat.zero_mul])
    subst hnews
    obtain ⟨q, c', rfl, hle⟩ := h.len
    refine ⟨_, w, bs, ?_, by rw [List.append_nil, Nat.add_zero]; exact h, hE⟩
    cases q <;> cases p <;> simp [Builtin.append_, run_underlying ht, sizeOf, typeInfo, hi, hs, Builtin.lenOf, hle, Builtin.firstCells, storeCells, loadCells, loadCellsFrom]
  · rcases h3 with h3 | ⟨b, off, rfl, h5⟩
    · omega
    subst hby
    have hnews : ∀ j u, news[j]? = some u → w.cell? ((⟨b, off, none⟩ : Addr).add j) = some u := fun j u hj => by rw [addr_add]; exact h5 j u hj
    have h63' : ((n + m : Nat) : Int) ≤ 9223372036854775807 := by simp only [maxLen] at h63; omega
    have hl' : news.length = m * i.size := by rw [hs, hnl]
    have hlen : (xs ++ news).length = (n + m) * s := by rw [List.length_append, hxl, hnl, Nat.add_mul]
    have made : ∀ (old : Nat), old < n + m → Env w0 l w → Oz s e (n + m) (xs ++ news) (.slice (some ⟨w.heap.size, 0, none⟩) (n + m) (grownCap w (n + m) old e)) [⟨w.heap.size, e, xs.toArray ++ news.toArray ++ Builtin.zeroCells z.cells (grownCap w (n + m) old e - (n + m))⟩] ∧
        Env w0 ([⟨w.heap.size, e, xs.toArray ++ news.toArray ++ Builtin.zeroCells z.cells (grownCap w (n + m) old e - (n + m))⟩] ++ l) (w.drew.alloc (.cells (xs.toArray ++ news.toArray ++ Builtin.zeroCells z.cells (grownCap w (n + m) old e - (n + m))) e)) := by
      intro old ho hE
      have hge := grownCap_ge w (n + m) old e
      refine ⟨⟨hlen, .inr ⟨w.heap.size, _, _, rfl, hge, grownCap_le_maxLen w (n + m) old e h63, ?_, ?_, rfl⟩⟩, (hE.drew).alloc' _ _ rfl⟩
      · simp only [Array.size_append, List.size_toArray, size_zeroCells, hzs]
        rw [hxl, hnl, ← Nat.add_mul, ← Nat.add_mul, Nat.add_sub_cancel' hge]
      · simp only [Array.toList_append]
        rw [← hlen]
        exact List.take_left
    rcases h with ⟨h0, ⟨rfl, rfl, rfl⟩ | ⟨g, cap, cs, rfl, h2, h3, h4, h5', rfl⟩⟩
    · have hxs : xs = [] := List.eq_nil_of_length_eq_zero (by rw [h0, Nat.zero_mul])
      subst hxs
      have hr := run_append_nil (P := P) w t ty e i z ht hi hz ⟨b, off, none⟩ m c news hl' hnews hm (by simpa using h63') (by simp at hb; omega)
      have hgr := made 0 (by omega) hE
      simp only [Nat.zero_add, List.nil_append, Array.empty_append] at hgr ⊢
      exact ⟨_, _, _, hr, hgr⟩
    · by_cases hroom : n + m ≤ cap
      · have hr := run_append_room (P := P) w t ty e i ht hi g n cap cs (hE.get (i := 0) rfl) ⟨b, off, none⟩ m c news hl' hnews h1 hroom (by rw [hs, hnl, h4, ← Nat.add_mul]; exact Nat.mul_le_mul_right _ hroom)
        refine ⟨_, _, _, hr, ⟨hlen, .inr ⟨g, cap, _, rfl, hroom, h3, ?_, ?_, rfl⟩⟩, hE.store (i := 0) rfl _⟩
        · have hle : (n + m) * s ≤ cap * s := Nat.mul_le_mul_right _ hroom
          rw [Nat.add_mul] at hle
          simp only [List.size_toArray, List.length_append, List.length_take, List.length_drop, Array.length_toList]
          rw [hs, hnl]
          omega
        · rw [hs]
          simp only []
          rw [h5', ← hlen]
          exact List.take_left
      · have hr := run_append_grow (P := P) w t ty e i z ht hi hz ⟨g, 0, none⟩ n cap xs (by rw [hs, hxl]) (fun j u hu => by
            have ha : (⟨g, 0, none⟩ : Addr).add j = ⟨g, j, none⟩ := by unfold Addr.add; split <;> simp_all
            rw [ha, hE.cell (i := 0) rfl j]
            rw [← h5', List.getElem?_take] at hu
            split at hu
            · simpa using hu
            · cases hu) ⟨b, off, none⟩ m c news hl' hnews (by omega) h63' (growslice_fits (by omega) hb)
        exact ⟨_, _, _, hr, made cap (by omega) (hE.sub (List.sublist_cons_self _ _))⟩
theorem st_appendOz {ops : Array Oper} {o : Oper} {a : Act} {Q : Exit → Act → World → Prop} {K : Act → World → Prop} {x y : Operand} {t : TypeId} {i : TypeInfo} {z : Value} {bytes m : Nat} {news : List Value} {xv : Value} (h : Oz s e n xs v bs) (hE : Env w0 (bs ++ l) w) (hw : Region.wanted o (yielded ops a.tmps) = true)
    (ho : o.op = .call { callee := .builtin .append, args := #[x, y], argTypes := #[t, t] }) (ht : P.underlying t = some (.slice e)) (hi : P.info? e = some i) (hz : i.zero = some z) (hsz : i.size = s) (hzs : z.cells.size = s) (hby : i.bytes = bytes)
    (hs : a.eval x = v) (hx : a.eval y = xv) (hr : RdZ s m news xv w) (h1 : ∀ u ∈ news, u.oneCell' = true) (h63 : n + m ≤ maxLen) (hb : (n + m) * bytes ≤ 140737488355328)
    (kk : ∀ v' w' bs', Oz s e (n + m) (xs ++ news) v' bs' → Env w0 (bs' ++ l) w' → K (a.put o.dst v') w') : Step P ops Q o K a w := by
  obtain ⟨v', w', bs', hrun, h2, h3⟩ := h.append (ty := o.type) hE ht hi hz hsz hzs hby hr h1 h63 hb
  refine st_run (w1 := w') (v := v') hw ?_ (kk v' w' bs' h2 h3)
  unfold execOp
  simp only [ho, resolve, invoke, builtin, Sem.run_bind, Sem.run_pure, Result.andThen_ok, List.map_toArray, List.map_cons, List.map_nil, hs, hx, hrun]
end
end Go.Proofs.YtnbbehgcnodfbaaDoor
