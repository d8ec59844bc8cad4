/-
  Strings: a byte of a constant one; bytes as a string; a constant's bytes; slices built of values. No condition on the program.
-/
import Derived.Test.YtnbbehgcnodfbaaDoorBlm
import Derived.Test.YtnbbehgcnodfbaaDoorOpn
import Derived.Laws.BytesArg
import Derived.Laws.IdiomStrings
namespace Go.Proofs.YtnbbehgcnodfbaaDoor
open Go.RowKit
set_option maxRecDepth 100000
set_option linter.unusedVariables false
set_option linter.unusedSimpArgs false

/-- Numbers as a string's bytes. -/
def bytesOf (l : List Nat) : ByteArray := ⟨(l.map UInt8.ofNat).toArray⟩
theorem bytesOf_inj {l m : List Nat} (hl : Digs 256 l) (hm : Digs 256 m) (h : bytesOf l = bytesOf m) : l = m := by
  unfold bytesOf at h
  injection h with h
  have h1 : l.map UInt8.ofNat = m.map UInt8.ofNat := by simpa using h
  have back : ∀ {l : List Nat}, Digs 256 l → (l.map UInt8.ofNat).map UInt8.toNat = l := fun {l} hl => by
    rw [List.map_map]
    conv => rhs; rw [← List.map_id l]
    apply List.map_congr_left
    intro x hx
    simp only [Function.comp, id]
    rw [UInt8.toNat_ofNat']
    exact Nat.mod_eq_of_lt (hl x hx)
  rw [← back hl, h1, back hm]
theorem RdS.of_blockF {k : IntKind} {l : List Nat} {g : Nat} {T : TypeId} {fr : Nat × Nat} {w : World} (h : w.heap[g]? = some (.cells (ints k l) T fr)) : RdS k l (.slice (some ⟨g, 0, none⟩) l.length l.length) w := by
  refine ⟨_, _, rfl, Nat.le_refl _, .inr ⟨g, 0, rfl, fun j u hj => ?_⟩⟩
  rw [cell_of_row w g _ _ _ _ h, Nat.zero_add, ← hj, Array.getElem?_toList]
theorem RdSs.of_block {k : IntKind} {rows : List (List Nat)} {vs : List Value} {g : Nat} {T : TypeId} {w : World} (h : w.heap[g]? = some (.cells vs.toArray T (0, 0))) (hl : vs.length = rows.length) (hr : ∀ j, (h : j < rows.length) → ∃ u, vs[j]? = some u ∧ RdS k rows[j] u w) :
    RdSs k rows (.slice (some ⟨g, 0, none⟩) rows.length rows.length) w := by
  refine ⟨_, _, rfl, Nat.le_refl _, .inr ⟨g, 0, rfl, fun j hj => ?_⟩⟩
  obtain ⟨u, h1, h2⟩ := hr j hj
  refine ⟨u, ?_, h2⟩
  rw [cell_of_row w g _ _ _ _ h, Nat.zero_add, List.getElem?_toArray, h1]
theorem RdSs.one {k : IntKind} {r : List Nat} {v : Value} {g : Nat} {T : TypeId} {w : World} (h : w.heap[g]? = some (.cells #[v] T (0, 0))) (hr : RdS k r v w) : RdSs k [r] (.slice (some ⟨g, 0, none⟩) 1 1) w :=
  RdSs.of_block (vs := [v]) (rows := [r]) h rfl (fun j hj => by
    have : j = 0 := by simp at hj; omega
    subst this
    exact ⟨v, rfl, hr⟩)

section
variable {P : Program} {ops : Array Oper} {Q : Exit → Act → World → Prop} {a : Act} {w w0 : World} {l : List Blk} {o : Oper} {K : Act → World → Prop}
/-- A byte of a string. -/
theorem v_idxStr {t : TypeId} {x y : Operand} {k : IntKind} {s : ByteArray} {j : Nat} {b : UInt8} (ho : o.op = .index t x y) (hx : a.eval x = .string s) (hy : a.eval y = .int k (j : Int)) (ht : P.underlying t = some .string) (hb : s[j]? = some b) : Val P o a (.int .u8 (b.toNat : Int)) w := v_run fun w => by
  have h0 : (0 : Int) ≤ (j : Int) := by omega
  unfold execOp
  simp [ho, hx, hy, Instr.index, asIntOf, run_underlying ht, h0, hb, Sem.run_bind, Sem.run_pure]
theorem v_toStr {src dst e : TypeId} {x : Operand} {m : List Nat} {v : Value} (hr : RdS .u8 m v w) (hd : Digs 256 m) (ho : o.op = .convert src dst x) (hx : a.eval x = v) (hs : P.underlying src = some (.slice e)) (he : P.underlying e = some (.int .u8)) (hu : P.underlying dst = some .string) : Val P o a (.string (bytesOf m)) w := fun w1 hb => by
  obtain ⟨p, c, rfl, hc, h3⟩ := hr.below hb
  unfold execOp
  simp only [ho, hx, Sem.run_bind]
  cases p with
  | none =>
    rcases h3 with rfl | ⟨b, off, h4, -⟩
    · rw [run_convert_bytes_nil w1 src e hs he _ _ _ hu]
      rfl
    · cases h4
  | some ad =>
    have hml : (m.map UInt8.ofNat).length = m.length := List.length_map ..
    have hcell : ∀ j (hj : j < (m.map UInt8.ofNat).length), w1.cell? (ad.add j) = some (.int .u8 ((m.map UInt8.ofNat)[j].toNat : Int)) := fun j hj => by
      have hj' : j < m.length := by rw [hml] at hj; exact hj
      rcases h3 with rfl | ⟨b, off, h4, h5⟩
      · cases hj'
      · injection h4 with h4
        subst h4
        rw [addr_add, h5 j (.int .u8 (m[j] : Nat)) (by rw [Array.getElem?_toList, ints_get? _ _ _ hj', List.getD_eq_getElem?_getD, List.getElem?_eq_getElem hj']; rfl)]
        congr 2
        rw [List.getElem_map, UInt8.toNat_ofNat', Nat.mod_eq_of_lt (hd _ (List.getElem_mem hj'))]
    have h := run_convert_bytes_back (P := P) w1 src dst e ad c (m.map UInt8.ofNat) hs he hu hcell
    rw [hml] at h
    rw [h]
    rfl
/-- A string compared with itself. -/
theorem v_eqStrT {t t' : TypeId} {x y : Operand} {s s' : ByteArray} (ho : o.op = .binOp .eql t x y t') (hx : a.eval x = .string s) (hy : a.eval y = .string s') (h : s = s') : Val P o a (.bool true) w := v_run fun w => by
  subst h
  unfold execOp
  simp [ho, hx, hy, eqGuard, binOp, Op.stringOp, Sem.run_bind, Sem.run_pure]
theorem v_neqStrF {t t' : TypeId} {x y : Operand} {s s' : ByteArray} (ho : o.op = .binOp .neq t x y t') (hx : a.eval x = .string s) (hy : a.eval y = .string s') (h : s = s') : Val P o a (.bool false) w := v_run fun w => by
  subst h
  unfold execOp
  simp [ho, hx, hy, eqGuard, binOp, Op.stringOp, Sem.run_bind, Sem.run_pure]
/-- A constant's bytes: the mark. -/
theorem st_mark {t e : TypeId} {x : Operand} {g n c : Nat} {cs : Array Value} (hE : Env w0 (⟨g, e, cs⟩ :: l) w) (hw : Region.wanted o (yielded ops a.tmps) = true) (ho : o.op = .convert t t x) (hx : a.eval x = .slice (some ⟨g, 0, none⟩) n c)
    (ht : P.underlying t = some (.slice e)) (he : P.underlying e = some (.int .u8))
    (kk : ∀ w1, Env w0 l w1 → w1.heap[g]? = some (.cells cs e (cs.size, cs.size + 1)) → K (a.put o.dst (.slice (some ⟨g, 0, none⟩) n c)) w1) : Step P ops Q o K a w := by
  have hg := hE.get (i := 0) rfl
  have hgs : g < w.heap.size := hE.lt (List.mem_cons_self ..)
  have hsh : w.shape? g = some (e, cs.size) := by
    unfold World.shape?
    rw [hg]
  have hfr : (w.freeze ⟨g, cs.size, none⟩ 1).heap[g]? = some (.cells cs e (cs.size, cs.size + 1)) := by
    unfold World.freeze
    rw [if_neg (by decide)]
    show (w.heap.modify g _)[g]? = _
    rw [Array.getElem?_modify, if_pos rfl, hg]
    rfl
  have hoth : ∀ k, k ≠ g → (w.freeze ⟨g, cs.size, none⟩ 1).heap[k]? = w.heap[k]? := fun k hk => by
    unfold World.freeze
    rw [if_neg (by decide)]
    show (w.heap.modify g _)[k]? = _
    rw [Array.getElem?_modify, if_neg (Ne.symm hk)]
  have hsz : (w.freeze ⟨g, cs.size, none⟩ 1).heap.size = w.heap.size := by
    unfold World.freeze
    rw [if_neg (by decide)]
    show (w.heap.modify g _).size = _
    exact Array.size_modify ..
  have hrest : (w.freeze ⟨g, cs.size, none⟩ 1).os = w.os ∧ (w.freeze ⟨g, cs.size, none⟩ 1).tape = w.tape ∧ (w.freeze ⟨g, cs.size, none⟩ 1).output = w.output := by
    unfold World.freeze
    rw [if_neg (by decide)]
    exact ⟨rfl, rfl, rfl⟩
  have hnew : w0.heap.size ≤ g := hE.new _ (List.mem_cons_self ..)
  refine st_run (w1 := w.freeze ⟨g, cs.size, none⟩ 1) (v := .slice (some ⟨g, 0, none⟩) n c) hw ?_ (kk _ ?_ hfr)
  · unfold execOp
    simp [ho, hx, convert, run_underlying ht, run_underlying he, markStringish, hsh, Sem.run_bind, Sem.run_pure]
  · have hd := hE.dist
    rw [List.pairwise_cons] at hd
    refine ⟨hE.below.trans ⟨hrest.1, hrest.2.1, hrest.2.2, by omega, fun k hk => hoth k (by omega)⟩, fun b hb => ?_, fun b hb => hE.new b (List.mem_cons_of_mem _ hb), hd.2⟩
    exact (hoth _ (Ne.symm (hd.1 b hb))).trans (hE.holds b (List.mem_cons_of_mem _ hb))

theorem fill_vals : ∀ (ns : List Value) (j : Nat) (cells : Array Value), (∀ v ∈ ns, v.cells = #[v]) → cells.size = j + ns.length →
    ∃ r, Instr.fill (fun i => some (i * 1, 1)) cells ((ns.zipIdx j).map fun x => (x.2, x.1)) = some r ∧ r.toList = cells.toList.take j ++ ns
  | [], j, cells, _, h => by
    refine ⟨cells, rfl, ?_⟩
    rw [List.append_nil, List.take_of_length_le (by simp at h ⊢; omega)]
  | n :: ns, j, cells, hv, h => by
    have hn := hv n (List.mem_cons_self ..)
    rw [List.length_cons] at h
    obtain ⟨r, h1, h2⟩ := fill_vals ns (j + 1) (cells.setIfInBounds (j * 1 + 0) n) (fun v hm => hv v (List.mem_cons_of_mem _ hm)) (by rw [Array.size_setIfInBounds]; omega)
    refine ⟨r, ?_, ?_⟩
    · rw [List.zipIdx_cons, List.map_cons, Instr.fill]
      have hc : ¬ ((n.cells.size ≠ 1 || decide (j * 1 + n.cells.size > cells.size)) = true) := by
        rw [hn]
        simp
        omega
      simp only []
      rw [if_neg hc, hn]
      exact h1
    · rw [h2, Array.toList_setIfInBounds, Nat.mul_one]
      simp only [Nat.add_zero]
      rw [List.take_succ_eq_append_getElem (by simp; omega), List.take_set, List.getElem_set_self, List.set_eq_of_length_le (by simp; omega)]
      simp
/-- A slice built of values of one cell each. -/
theorem st_buildVs {t e : TypeId} {n : Nat} {parts : List (Nat × Operand)} {z : Value} (vs : List Value) (hv : ∀ v ∈ vs, v.cells = #[v]) (hE : Env w0 l w) (hw : Region.wanted o (yielded ops a.tmps) = true) (ho : o.op = .buildSlice t n parts.toArray)
    (hp : parts.map (fun p => (p.1, a.eval p.2)) = vs.zipIdx.map fun x => (x.2, x.1)) (hn : vs.length = n) (h0 : 0 < n) (h24 : n ≤ 2 ^ 24) (ht : P.underlying t = some (.slice e)) (hs : (P.info? e).map (·.size) = some 1)
    (hz : ∀ w, (zeroValue e).run P w = .ok z w)
    (kk : ∀ g w1, Below w.heap.size w w1 → Env w0 (⟨g, e, vs.toArray⟩ :: l) w1 → K (a.put o.dst (.slice (some ⟨g, 0, none⟩) n n)) w1) : Step P ops Q o K a w := by
  obtain ⟨r, hf, hl⟩ := fill_vals vs 0 ((Array.range (n * 1)).map fun i => z.cells[i % z.cells.size]!) hv (by simp [hn])
  have hre : r = vs.toArray := by
    apply Array.ext'
    rw [hl]
    simp
  subst hre
  refine st_run (w1 := w.alloc (.cells vs.toArray e)) (v := .slice (some ⟨w.heap.size, 0, none⟩) n n) hw ?_ (kk _ _ ((Below.refl _ _).alloc (Nat.le_refl _) _) (hE.alloc e _))
  have h1 : ¬ n * 1 > 2 ^ 24 := by omega
  have h2 : ¬ n * 1 = 0 := by omega
  unfold execOp
  simp only [ho, List.map_toArray, hp, Instr.buildSlice, Sem.run_bind, run_underlying ht, size_run hs, Result.andThen_ok, if_neg h1, if_neg h2, hz, Sem.run_pure]
  rw [hf]
  simp [newRow, newObj, Sem.run, Sem.run_bind, Sem.run_pure]
theorem one_slice {p : Option Addr} {n c : Nat} : ∀ v ∈ [Value.slice p n c], v.cells = #[v] := fun v hv => by
  rw [List.mem_singleton.1 hv]
  rfl
end
end Go.Proofs.YtnbbehgcnodfbaaDoor
