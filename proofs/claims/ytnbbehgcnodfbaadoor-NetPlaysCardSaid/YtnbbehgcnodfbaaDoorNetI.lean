/-
  Layer 28: how arguments are read that are packets, and rows of calls with packets in them.
-/
import Derived.Test.YtnbbehgcnodfbaaDoorNetH
namespace Go.Proofs.YtnbbehgcnodfbaaDoor
open Go.ChangeShapes Go.WideShapes Go.ChangeAt Go.RowKit
set_option maxRecDepth 100000
set_option linter.unusedVariables false
set_option linter.unusedSimpArgs false

theorem len3 {α : Type} : ∀ {l : List α}, l.length = 3 → ∃ a b c, l = [a, b, c]
  | [a, b, c], _ => ⟨a, b, c, rfl⟩
theorem len4 {α : Type} : ∀ {l : List α}, l.length = 4 → ∃ a b c d, l = [a, b, c, d]
  | [a, b, c, d], _ => ⟨a, b, c, d, rfl⟩
section
variable {H : Type} {enc : TypeId × Value → H} {w : World} {base : Nat} {spare : Nat → Bool} {held : Bool}
/-- A slice of elements of s cells. -/
theorem trod_rows {P : Program} {t e s fuel : Nat} {cs : List Value} {x : DataW H × List MemPlace} {Good : List Value → Prop} (ht : P.underlying t = some (.slice e)) (hce : P.cellsOf e = s) (h0 : 0 < s) (hG : ∀ n cs x, DataW.trod enc P w base spare held n e cs = some x → cs.length = s ∧ Good cs)
    (h : DataW.trod enc P w base spare held fuel t cs = some x) : ∃ (rows : List (List Value)) (v : Value), cs = [v] ∧ RdZ s rows.length rows.flatten v w ∧ (∀ r ∈ rows, r.length = s ∧ Good r) ∧ rows.length ≤ maxLen := by
  rcases DataW.trod_slice ht h with ⟨h0, -⟩ | ⟨a, len0, cap0, elems, rest, n, -, hcs, -, hb, hl, hm, hlen, hel, -, -⟩
  · exact ⟨[], _, h0, ⟨by simp, _, _, rfl, Nat.le_refl _, .inl rfl⟩, (fun r hr => by cases hr), Nat.zero_le _⟩
  · have key : ∀ i, i < len0 → ∃ r : List Value, (∃ b off, a.add (i * s) = ⟨b, off, none⟩ ∧ w.rangeAt b off r) ∧ r.length = s ∧ Good r := fun i hi => by
      have h1 := hel i hi
      rw [hce, List.getElem?_eq_getElem (by omega), Option.bind_eq_some_iff] at h1
      obtain ⟨cs', hc, h2⟩ := h1
      obtain ⟨b, off, h6, h7⟩ := cells_range hc h0
      exact ⟨cs', ⟨b, off, h6, h7⟩, hG _ _ _ h2⟩
    rcases Nat.eq_zero_or_pos len0 with rfl | hpos
    · exact ⟨[], _, hcs, ⟨by simp, _, _, rfl, Nat.zero_le _, .inl rfl⟩, (fun r hr => by cases hr), Nat.zero_le _⟩
    · obtain ⟨b, off, ha⟩ : ∃ b off, a = ⟨b, off, none⟩ := by
        obtain ⟨r, ⟨b, off, h1, -⟩, -⟩ := key 0 hpos
        rw [Nat.zero_mul] at h1
        exact ⟨b, off, h1⟩
      subst ha
      have all : ∀ n, n ≤ len0 → ∃ rows : List (List Value), rows.length = n ∧ w.rangeAt b off rows.flatten ∧ ∀ r ∈ rows, r.length = s ∧ Good r := by
        intro n
        induction n with
        | zero => intro _; exact ⟨[], rfl, fun j v hj => by simp at hj, fun r hr => by cases hr⟩
        | succ n ih =>
          intro hn
          obtain ⟨rows, h1, h2, h3⟩ := ih (by omega)
          obtain ⟨r, ⟨b', off', h4, h5⟩, h6, h7⟩ := key n (by omega)
          rw [addr_add] at h4
          injection h4 with h4 h4' _
          subst h4 h4'
          have hfl : rows.flatten.length = n * s := by
            rw [List.length_flatten, ← h1]
            have : ∀ (l : List (List Value)), (∀ r ∈ l, r.length = s) → (l.map List.length).sum = l.length * s := fun l => by
              induction l with
              | nil => intro _; simp
              | cons q l ih => intro h; rw [List.map_cons, List.sum_cons, h q (List.mem_cons_self ..), ih (fun r hr => h r (List.mem_cons_of_mem _ hr)), List.length_cons, Nat.add_mul]; omega
            exact this rows (fun r hr => (h3 r hr).1)
          refine ⟨rows ++ [r], by simp [h1], fun j v hj => ?_, fun q hq => ?_⟩
          · rw [List.flatten_append, List.getElem?_append] at hj
            split at hj
            · exact h2 j v hj
            · rename_i hge
              rw [hfl] at hj hge
              have := h5 (j - n * s) v (by simpa using hj)
              rwa [show off + n * s + (j - n * s) = off + j by omega] at this
          · rcases List.mem_append.1 hq with hq | hq
            · exact h3 q hq
            · rw [List.mem_singleton.1 hq]; exact ⟨h6, h7⟩
      obtain ⟨rows, h1, h2, h3⟩ := all len0 (Nat.le_refl _)
      subst h1
      have hfl : rows.flatten.length = rows.length * s := by
        have : ∀ (l : List (List Value)), (∀ r ∈ l, r.length = s) → l.flatten.length = l.length * s := fun l => by
          induction l with
          | nil => intro _; simp
          | cons q l ih => intro h; rw [List.flatten_cons, List.length_append, h q (List.mem_cons_self ..), ih (fun r hr => h r (List.mem_cons_of_mem _ hr)), List.length_cons, Nat.add_mul]; omega
        exact this rows (fun r hr => (h3 r hr).1)
      exact ⟨rows, _, hcs, ⟨hfl, _, _, rfl, hl, .inr ⟨b, off, rfl, h2⟩⟩, h3, by omega⟩

/-- A packet that is read. -/
def RdPk (w : World) (m : PV) : Prop := RdS .u8 m.by' m.sl w ∧ Digs 256 m.by' ∧ m.by'.length ≤ maxLen
theorem RdPk.below {w w1 : World} {m : PV} (h : RdPk w m) (hb : Below w.heap.size w w1) : RdPk w1 m := ⟨h.1.below hb, h.2⟩
theorem trod_packet {fuel : Nat} {cs : List Value} {x : DataW H × List MemPlace} (h : DataW.trod enc Tryd.prog w base spare held fuel 43 cs = some x) : cs.length = 3 ∧ ∃ m : PV, cs = m.cells ∧ RdPk w m := by
  obtain ⟨xs, n, -, -, hl, hxl, hf⟩ := DataW.trod_struct Tryd.underlying43 h
  have c3 : Tryd.prog.cellsOf 43 = 3 := by kernel_rfl
  have ci : Tryd.prog.cellsOf 3 = 1 := by kernel_rfl
  have cs1 : Tryd.prog.cellsOf 41 = 1 := by kernel_rfl
  have cu : Tryd.prog.cellsOf 5 = 1 := by kernel_rfl
  have hl3 : cs.length = 3 := by rw [hl, c3]
  have hx3 : xs.length = 3 := hxl
  refine ⟨hl3, ?_⟩
  obtain ⟨a, b, c, rfl⟩ := len3 hl3
  have h0 : DataW.trod enc Tryd.prog w base spare held n 3 (([a, b, c].drop 0).take (Tryd.prog.cellsOf 3)) = xs[0]? := hf 0 _ rfl
  have h1 : DataW.trod enc Tryd.prog w base spare held n 3 (([a, b, c].drop 1).take (Tryd.prog.cellsOf 3)) = xs[1]? := hf 1 _ rfl
  have h2 : DataW.trod enc Tryd.prog w base spare held n 41 (([a, b, c].drop 2).take (Tryd.prog.cellsOf 41)) = xs[2]? := hf 2 _ rfl
  simp only [ci, cs1, List.drop_zero, List.drop_succ_cons, List.take_succ_cons, List.take_zero] at h0 h1 h2
  rw [List.getElem?_eq_getElem (by omega)] at h0 h1 h2
  obtain ⟨f, e0, -, -⟩ := DataW.trod_int Tryd.underlying3 h0
  obtain ⟨t, e1, -, -⟩ := DataW.trod_int Tryd.underlying3 h1
  obtain ⟨l, v, e2, g1, g2, g3⟩ := trod_bytes Tryd.underlying41 Tryd.underlying5 cu h2
  simp only [List.cons.injEq, and_true] at e0 e1 e2
  subst e0 e1 e2
  exact ⟨⟨f, t, l, c⟩, rfl, g1, g2, g3⟩
theorem rows_pcells {rows : List (List Value)} (h : ∀ r ∈ rows, r.length = 3 ∧ ∃ m : PV, r = m.cells ∧ RdPk w m) : ∃ M : List PV, M.length = rows.length ∧ pcells M = rows.flatten ∧ ∀ m ∈ M, RdPk w m := by
  induction rows with
  | nil => exact ⟨[], rfl, rfl, fun m hm => by cases hm⟩
  | cons r rows ih =>
    obtain ⟨M, h1, h2, h3⟩ := ih (fun q hq => h q (List.mem_cons_of_mem _ hq))
    obtain ⟨-, m, rfl, hm⟩ := h r (List.mem_cons_self ..)
    refine ⟨m :: M, by rw [List.length_cons, h1, List.length_cons], by rw [pcells_cons, h2, List.flatten_cons], fun q hq => ?_⟩
    rcases List.mem_cons.1 hq with rfl | hq
    · exact hm
    · exact h3 q hq
theorem trod_packets {fuel : Nat} {cs : List Value} {x : DataW H × List MemPlace} (h : DataW.trod enc Tryd.prog w base spare held fuel 31 cs = some x) : ∃ (M : List PV) (v : Value), cs = [v] ∧ RdZ 3 M.length (pcells M) v w ∧ (∀ m ∈ M, RdPk w m) ∧ M.length ≤ maxLen := by
  obtain ⟨rows, v, h1, h2, h3, h4⟩ := trod_rows (s := 3) (Good := fun r => ∃ m : PV, r = m.cells ∧ RdPk w m) Tryd.underlying31 (by kernel_rfl) (by decide) (fun n cs x h => trod_packet h) h
  obtain ⟨M, e1, e2, e3⟩ := rows_pcells h3
  exact ⟨M, v, h1, by rw [e1, e2]; exact h2, e3, by rw [e1]; exact h4⟩
end

/-- A call: its kind, its numbers, its packets, and the slice that holds them. -/
structure OV where
  kd : Nat
  i : Int
  k : Int
  L : List PV
  sl : Value
def OV.cells (o : OV) : List Value := [.int .u8 (o.kd : Int), .int .i64 o.i, .int .i64 o.k, o.sl]
def ocells (O : List OV) : List Value := O.flatMap OV.cells
def RdOv (w : World) (o : OV) : Prop := o.kd < 256 ∧ RdZ 3 o.L.length (pcells o.L) o.sl w ∧ (∀ m ∈ o.L, RdPk w m) ∧ o.L.length ≤ maxLen
theorem RdOv.below {w w1 : World} {o : OV} (h : RdOv w o) (hb : Below w.heap.size w w1) : RdOv w1 o := ⟨h.1, h.2.1.below hb, fun m hm => (h.2.2.1 m hm).below hb, h.2.2.2⟩
theorem ocells_cons (o : OV) (O : List OV) : ocells (o :: O) = o.cells ++ ocells O := rfl
theorem ocells_len : ∀ (O : List OV), (ocells O).length = O.length * 4
  | [] => rfl
  | o :: O => by rw [ocells_cons, List.length_append, ocells_len O, List.length_cons]; show 4 + _ = _; omega
theorem ocells_at : ∀ {O : List OV} {j : Nat} {o : OV}, O[j]? = some o → ((ocells O).drop (j * 4)).take 4 = o.cells
  | [], j, o, h => by simp at h
  | q :: O, 0, o, h => by
    simp only [List.getElem?_cons_zero, Option.some.injEq] at h
    subst h
    rw [ocells_cons, Nat.zero_mul, List.drop_zero]
    exact List.take_left' rfl
  | q :: O, j + 1, o, h => by
    rw [List.getElem?_cons_succ] at h
    rw [ocells_cons, show (j + 1) * 4 = q.cells.length + j * 4 from by show _ = 4 + _; omega, List.drop_length_add_append]
    exact ocells_at h
section
variable {H : Type} {enc : TypeId × Value → H} {w : World} {base : Nat} {spare : Nat → Bool} {held : Bool}
theorem trod_op {fuel : Nat} {cs : List Value} {x : DataW H × List MemPlace} (h : DataW.trod enc Tryd.prog w base spare held fuel 36 cs = some x) : cs.length = 4 ∧ ∃ o : OV, cs = o.cells ∧ RdOv w o := by
  obtain ⟨xs, n, -, -, hl, hxl, hf⟩ := DataW.trod_struct Tryd.underlying36 h
  have c4 : Tryd.prog.cellsOf 36 = 4 := by kernel_rfl
  have ci : Tryd.prog.cellsOf 3 = 1 := by kernel_rfl
  have cu : Tryd.prog.cellsOf 5 = 1 := by kernel_rfl
  have cp : Tryd.prog.cellsOf 31 = 1 := by kernel_rfl
  have hl4 : cs.length = 4 := by rw [hl, c4]
  have hx4 : xs.length = 4 := hxl
  refine ⟨hl4, ?_⟩
  obtain ⟨a, b, c, d, rfl⟩ := len4 hl4
  have h0 : DataW.trod enc Tryd.prog w base spare held n 5 (([a, b, c, d].drop 0).take (Tryd.prog.cellsOf 5)) = xs[0]? := hf 0 _ rfl
  have h1 : DataW.trod enc Tryd.prog w base spare held n 3 (([a, b, c, d].drop 1).take (Tryd.prog.cellsOf 3)) = xs[1]? := hf 1 _ rfl
  have h2 : DataW.trod enc Tryd.prog w base spare held n 3 (([a, b, c, d].drop 2).take (Tryd.prog.cellsOf 3)) = xs[2]? := hf 2 _ rfl
  have h3 : DataW.trod enc Tryd.prog w base spare held n 31 (([a, b, c, d].drop 3).take (Tryd.prog.cellsOf 31)) = xs[3]? := hf 3 _ rfl
  simp only [ci, cu, cp, List.drop_zero, List.drop_succ_cons, List.take_succ_cons, List.take_zero] at h0 h1 h2 h3
  rw [List.getElem?_eq_getElem (by omega)] at h0 h1 h2 h3
  obtain ⟨k, e0, -, hw⟩ := DataW.trod_int Tryd.underlying5 h0
  obtain ⟨f, e1, -, -⟩ := DataW.trod_int Tryd.underlying3 h1
  obtain ⟨t, e2, -, -⟩ := DataW.trod_int Tryd.underlying3 h2
  obtain ⟨M, v, e3, g1, g2, g3⟩ := trod_packets h3
  simp only [List.cons.injEq, and_true] at e0 e1 e2 e3
  subst e0 e1 e2 e3
  have hb := bounds_u8 hw
  refine ⟨⟨k.toNat, f, t, M, d⟩, ?_, ?_, g1, g2, g3⟩
  · show [Value.int .u8 k, _, _, _] = [Value.int .u8 ((k.toNat : Nat) : Int), _, _, _]
    rw [Int.toNat_of_nonneg hb.1]
  · show k.toNat < 256
    omega
theorem rows_ocells {rows : List (List Value)} (h : ∀ r ∈ rows, r.length = 4 ∧ ∃ o : OV, r = o.cells ∧ RdOv w o) : ∃ O : List OV, O.length = rows.length ∧ ocells O = rows.flatten ∧ ∀ o ∈ O, RdOv w o := by
  induction rows with
  | nil => exact ⟨[], rfl, rfl, fun m hm => by cases hm⟩
  | cons r rows ih =>
    obtain ⟨M, h1, h2, h3⟩ := ih (fun q hq => h q (List.mem_cons_of_mem _ hq))
    obtain ⟨-, m, rfl, hm⟩ := h r (List.mem_cons_self ..)
    refine ⟨m :: M, by rw [List.length_cons, h1, List.length_cons], by rw [ocells_cons, h2, List.flatten_cons], fun q hq => ?_⟩
    rcases List.mem_cons.1 hq with rfl | hq
    · exact hm
    · exact h3 q hq
theorem open_ops {v : Value} {d : DataW H} {p : List MemPlace} {b0 : Nat} (hv : Value.okWide Tryd.prog w .any b0 22 v) (h : DataW.Trod enc Tryd.prog w base spare held 22 v d p) : ∃ O : List OV, RdZ 4 O.length (ocells O) v w ∧ (∀ o ∈ O, RdOv w o) ∧ O.length ≤ maxLen := by
  obtain ⟨a0, len0, cap0, rfl⟩ := okWide_slice Tryd.underlying22 hv
  obtain ⟨fuel, hf⟩ := h
  obtain ⟨rows, v, h1, h2, h3, h4⟩ := trod_rows (s := 4) (Good := fun r => ∃ o : OV, r = o.cells ∧ RdOv w o) Tryd.underlying22 (by kernel_rfl) (by decide) (fun n cs x h => trod_op h) hf
  simp [Value.cells] at h1
  subst h1
  obtain ⟨O, e1, e2, e3⟩ := rows_ocells h3
  exact ⟨O, by rw [e1, e2]; exact h2, e3, by rw [e1]; exact h4⟩
theorem open_packet {v : Value} {d : DataW H} {p : List MemPlace} {b0 : Nat} (hv : Value.okWide Tryd.prog w .any b0 43 v) (h : DataW.Trod enc Tryd.prog w base spare held 43 v d p) : ∃ m : PV, v = .agg #[.int .i64 m.fr, .int .i64 m.to, m.sl] ∧ RdPk w m := by
  obtain ⟨fuel, hf⟩ := h
  obtain ⟨hl, m, hm, hr⟩ := trod_packet hf
  obtain ⟨cs, rfl, -⟩ := okWide_struct Tryd.underlying43 hv
  refine ⟨m, ?_, hr⟩
  simp only [Value.cells] at hm
  rw [← Array.toArray_toList (xs := cs), hm]
  rfl
end
end Go.Proofs.YtnbbehgcnodfbaaDoor
