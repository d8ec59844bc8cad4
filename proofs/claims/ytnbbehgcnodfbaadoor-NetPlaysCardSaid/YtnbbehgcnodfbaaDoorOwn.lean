/-
  A slice that the call itself has made and appends to: nil, or a row of its own; with the other blocks that the call knows.
-/
import Derived.Test.YtnbbehgcnodfbaaDoorEnv
import Derived.Laws.AppendOwn
namespace Go.Proofs.YtnbbehgcnodfbaaDoor
open Go.RowKit
set_option maxRecDepth 100000
set_option linter.unusedVariables false

/-- v is a slice of the call's own, of the cells xs: nil, or a row that begins with them. -/
def Sl (w0 : World) (l : List Blk) (e : TypeId) (xs : List Value) (v : Value) (w : World) : Prop :=
  (v = .slice none 0 0 ∧ xs = [] ∧ Env w0 l w) ∨
  ∃ g cap cs, v = .slice (some ⟨g, 0, none⟩) xs.length cap ∧ xs.length ≤ cap ∧ cap ≤ maxLen ∧ cs.size = cap ∧ cs.toList.take xs.length = xs ∧ Env w0 (⟨g, e, cs⟩ :: l) w

section
variable {P : Program} {w0 w : World} {l : List Blk} {e : TypeId} {xs : List Value} {v : Value}

theorem Sl.nil (h : Env w0 l w) : Sl w0 l e [] (.slice none 0 0) w := .inl ⟨rfl, rfl, h⟩
theorem Sl.env (h : Sl w0 l e xs v w) : Env w0 l w := by
  rcases h with ⟨-, -, h⟩ | ⟨g, cap, cs, -, -, -, -, -, h⟩
  · exact h
  · exact h.sub (List.sublist_cons_self _ _)
theorem Sl.len (h : Sl w0 l e xs v w) : ∃ p cap, v = .slice p xs.length cap := by
  rcases h with ⟨rfl, rfl, h⟩ | ⟨g, cap, cs, rfl, -⟩
  · exact ⟨_, _, rfl⟩
  · exact ⟨_, _, rfl⟩
theorem Sl.sub {l' : List Blk} (h : Sl w0 l e xs v w) (hs : l'.Sublist l) : Sl w0 l' e xs v w := by
  rcases h with ⟨h1, h2, h⟩ | ⟨g, cap, cs, h1, h2, h3, h4, h5, h⟩
  · exact .inl ⟨h1, h2, h.sub hs⟩
  · exact .inr ⟨g, cap, cs, h1, h2, h3, h4, h5, h.sub (hs.cons_cons _)⟩
theorem Sl.call {w1 : World} (h : Sl w0 l e xs v w) (hb : Below w.heap.size w w1) : Sl w0 l e xs v w1 := by
  rcases h with ⟨h1, h2, h⟩ | ⟨g, cap, cs, h1, h2, h3, h4, h5, h⟩
  · exact .inl ⟨h1, h2, h.call hb⟩
  · exact .inr ⟨g, cap, cs, h1, h2, h3, h4, h5, h.call hb⟩

theorem Sl.append {t ty : TypeId} {i : TypeInfo} {z : Value} {bytes : Nat} (h : Sl w0 l e xs v w) (ht : P.underlying t = some (.slice e)) (hi : P.info? e = some i) (hz : i.zero = some z) (hs : i.size = 1) (hzs : z.cells.size = 1) (hby : i.bytes = bytes)
    {ad : Addr} {m c : Nat} {news : List Value} (hl : news.length = m) (hm : 0 < m) (hnews : ∀ j u, news[j]? = some u → w.cell? (ad.add j) = some u) (h1 : ∀ u ∈ news, u.oneCell' = true)
    (h63 : xs.length + m ≤ maxLen) (hb : (xs.length + m) * bytes ≤ 140737488355328) :
    ∃ v' w', (Builtin.append_ #[t, t] ty #[v, .slice (some ad) m c]).run P w = .ok v' w' ∧ Sl w0 l e (xs ++ news) v' w' := by
  subst hby
  have h63' : ((xs.length + m : Nat) : Int) ≤ 9223372036854775807 := by simp only [maxLen] at h63; omega
  have hlen : (xs ++ news).length = xs.length + m := by simp [hl]
  have hl' : news.length = m * i.size := by rw [hs, hl, Nat.mul_one]
  have made : ∀ (old : Nat), old < xs.length + m → Env w0 l w → Sl w0 l e (xs ++ news) (.slice (some ⟨w.heap.size, 0, none⟩) (xs.length + m) (grownCap w (xs.length + m) old e))
      (w.drew.alloc (.cells (xs.toArray ++ news.toArray ++ Builtin.zeroCells z.cells (grownCap w (xs.length + m) old e - (xs.length + m))) e)) := by
    intro old ho hE
    have hge := grownCap_ge w (xs.length + m) old e
    refine .inr ⟨w.heap.size, _, _, by rw [hlen], by rw [hlen]; exact hge, grownCap_le_maxLen w (xs.length + m) old e h63, ?_, ?_, (hE.drew).alloc' _ _ rfl⟩
    · simp only [Array.size_append, List.size_toArray, size_zeroCells, hzs, hl]
      omega
    · simp only [Array.toList_append]
      exact List.take_left
  rcases h with ⟨rfl, rfl, hE⟩ | ⟨g, cap, cs, rfl, h2, h3, h4, h5, hE⟩
  · have hr := run_append_nil (P := P) w t ty e i z ht hi hz ad m c news hl' hnews hm (by simpa using h63') (by simp at hb; omega)
    have hgr := made 0 (by omega) hE
    simp only [List.length_nil, Nat.zero_add, List.nil_append, Array.empty_append] at hgr ⊢
    exact ⟨_, _, hr, hgr⟩
  · by_cases hroom : xs.length + m ≤ cap
    · have hr := run_append_room (P := P) w t ty e i ht hi g xs.length cap cs (hE.get (i := 0) rfl) ad m c news hl' hnews h1 hroom (by rw [hs, hl, h4]; omega)
      refine ⟨_, _, hr, .inr ⟨g, cap, _, by rw [hlen], by rw [hlen]; exact hroom, h3, ?_, ?_, hE.store (i := 0) rfl _⟩⟩
      · simp only [List.size_toArray, List.length_append, List.length_take, List.length_drop, Array.length_toList]
        rw [hs, Nat.mul_one, hl]
        omega
      · rw [hs, Nat.mul_one]
        simp only []
        rw [h5]
        exact List.take_left
    · have hr := run_append_grow (P := P) w t ty e i z ht hi hz ⟨g, 0, none⟩ xs.length cap xs (by rw [hs, Nat.mul_one]) (fun j u hu => by
          have ha : (⟨g, 0, none⟩ : Addr).add j = ⟨g, j, none⟩ := by unfold Addr.add; split <;> simp_all
          rw [ha, hE.cell (i := 0) rfl j]
          rw [← h5, List.getElem?_take] at hu
          split at hu
          · simpa using hu
          · cases hu) ad m c news hl' hnews (by omega) h63' (growslice_fits (by omega) hb)
      exact ⟨_, _, hr, made cap (by omega) (hE.sub (List.sublist_cons_self _ _))⟩

theorem wl_append {ops : Array Oper} {rest : List Oper} {o : Oper} {a : Act} {Q : Exit → Act → World → Prop} {s x : Operand} {t : TypeId} {i : TypeInfo} {z : Value} {bytes : Nat} (h : Sl w0 l e xs v w) (hg : o.guard = none)
    (ho : o.op = .call { callee := .builtin .append, args := #[s, x], argTypes := #[t, t] }) (ht : P.underlying t = some (.slice e)) (hi : P.info? e = some i) (hz : i.zero = some z) (hsz : i.size = 1) (hzs : z.cells.size = 1) (hby : i.bytes = bytes)
    (hs : a.eval s = v) {ad : Addr} {m c : Nat} {news : List Value} (hx : a.eval x = .slice (some ad) m c) (hl : news.length = m) (hm : 0 < m) (hnews : ∀ j u, news[j]? = some u → w.cell? (ad.add j) = some u) (h1 : ∀ u ∈ news, u.oneCell' = true)
    (h63 : xs.length + m ≤ maxLen) (hb : (xs.length + m) * bytes ≤ 140737488355328)
    (k : ∀ v' w', Sl w0 l e (xs ++ news) v' w' → wpList P ops Q rest (a.put o.dst v') w') : wpList P ops Q (o :: rest) a w :=
  wpList_plain hg fun _ hK => by
    obtain ⟨v', w', hr, h2⟩ := h.append (ty := o.type) (c := c) ht hi hz hsz hzs hby hl hm hnews h1 h63 hb
    unfold Oper.wp execOp
    simp only [ho, resolve, invoke, builtin, Sem.run_bind, Sem.run_pure, Result.andThen_ok, List.map_toArray, List.map_cons, List.map_nil, hs, hx, hr]
    exact hK _ _ (k v' w' h2)
end
end Go.Proofs.YtnbbehgcnodfbaaDoor
