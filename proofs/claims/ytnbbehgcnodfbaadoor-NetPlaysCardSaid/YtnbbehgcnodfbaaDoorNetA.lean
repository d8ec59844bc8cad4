/-
  Layer 28: numbers and strings compared; slices built of rows; room and length of a net; a packet's copy; a new net; are two packets the same.
-/
import Derived.Test.YtnbbehgcnodfbaaDoorNetP
import Derived.Test.YtnbbehgcnodfbaaDoorStr
import Derived.Test.YtnbbehgcnodfbaaDoorWord
import Derived.Laws.Strings2
import Derived.Test.YtnbbehgcnodfbaaDoorStp
import Derived.Test.YtnbbehgcnodfbaaDoorWpI
import Derived.Test.YtnbbehgcnodfbaaDoorEqV
import Derived.Test.YtnbbehgcnodfbaaDoorRet
namespace Go.Proofs.YtnbbehgcnodfbaaDoor
open Go.RowKit
set_option maxRecDepth 100000
set_option linter.unusedVariables false
set_option linter.unusedSimpArgs false

theorem info_u8 : ∃ i, Tryd.prog.info? 5 = some i ∧ i.zero = some (.int .u8 0) ∧ i.size = 1 ∧ i.bytes = 1 := info_parts (P := Tryd.prog) (by kernel_rfl)
section
variable {P : Program} {ops : Array Oper} {Q : Exit → Act → World → Prop} {a : Act} {w w0 : World} {l : List Blk} {o : Oper} {v : Value} {K : Act → World → Prop}
/-- What stood there before. -/
theorem v_cellW {ty : TypeId} {x : Operand} {g j : Nat} {T : TypeId} {cs : List Value} {d : TypeDesc} {fr : Nat × Nat} (hg : w0.heap[g]? = some (.cells cs.toArray T fr)) (hc : cs[j]? = some v) (hE : Env w0 l w) (ho : o.op = .load ty x) (hx : a.eval x = .pointer (some ⟨g, j, none⟩)) (hu : P.underlying ty = some d) (hd : (match d with | .struct _ | .array _ _ => false | _ => true) = true) : Val P o a v w :=
  v_cell ho hx hu hd (fun w1 hb => by
    rw [cell_of_row w1 g j _ _ _ (((hE.below.trans (hb.mono hE.below.size)).block g (Array.getElem?_eq_some_iff.1 hg).1).trans hg), List.getElem?_toArray]
    exact hc)
theorem v_eqlI {t t' : TypeId} {x y : Operand} {k : IntKind} {m n : Int} (ho : o.op = .binOp .eql t x y t') (hx : a.eval x = .int k m) (hy : a.eval y = .int k n) : Val P o a (.bool (decide (m = n))) w :=
  v_bin ho hx hy fun w => by
    have : (m == n) = decide (m = n) := by rw [Bool.eq_iff_iff]; simp
    simp [binOp, Op.intCmp, Sem.run_pure, this]
theorem v_andT {c x : Operand} {q : Bool} (ho : o.op = .pick c x (.const (.bool false))) (hc : a.eval c = .bool true) (hx : a.eval x = .bool q) : Val P o a (.bool q) w := by
  have h := v_and (P := P) (w := w) (q := q) ho hc (fun _ => hx)
  rwa [Bool.true_and] at h
theorem v_orF {c x : Operand} {q : Bool} (ho : o.op = .pick c (.const (.bool true)) x) (hc : a.eval c = .bool false) (hx : a.eval x = .bool q) : Val P o a (.bool q) w := by
  have h := v_or (P := P) (w := w) (q := q) ho hc (fun _ => hx)
  rwa [Bool.false_or] at h
theorem v_eqStr {t t' : TypeId} {x y : Operand} {s s' : ByteArray} (ho : o.op = .binOp .eql t x y t') (hx : a.eval x = .string s) (hy : a.eval y = .string s') : Val P o a (.bool (decide (s = s'))) w := v_run fun w => by
  have : (s.toList == s'.toList) = decide (s = s') := by
    rw [Bool.eq_iff_iff, ByteArray.toList_eq, ByteArray.toList_eq]
    simp only [beq_iff_eq, decide_eq_true_eq]
    exact ⟨fun h => by
      obtain ⟨⟨l⟩⟩ := s
      obtain ⟨⟨l'⟩⟩ := s'
      simp at h
      rw [h], fun h => by rw [h]⟩
  unfold execOp
  simp [ho, hx, hy, eqGuard, binOp, Op.stringOp, Sem.run_bind, Sem.run_pure, this]
/-- A slice built of rows of cells. -/
theorem st_buildZ {t e : TypeId} {n s : Nat} {parts : List (Nat × Operand)} {z : Value} (rows : List (List Value)) (hE : Env w0 l w) (hw : Region.wanted o (yielded ops a.tmps) = true) (ho : o.op = .buildSlice t n parts.toArray)
    (hp : parts.map (fun p => (p.1, a.eval p.2)) = (rows.map (·.toArray)).zipIdx.map fun x => (x.2, Value.agg x.1)) (hn : rows.length = n) (h0 : 0 < n * s) (h24 : n * s ≤ 2 ^ 24) (ht : P.underlying t = some (.slice e)) (hs : (P.info? e).map (·.size) = some s)
    (hz : ∀ w, (zeroValue e).run P w = .ok z w) (hr : ∀ r ∈ rows, r.length = s)
    (k : ∀ g w1, Below w.heap.size w w1 → Env w0 (⟨g, e, rows.flatten.toArray⟩ :: l) w1 → K (a.put o.dst (.slice (some ⟨g, 0, none⟩) n n)) w1) : Step P ops Q o K a w := by
  obtain ⟨r, hf, hl⟩ := fill_rows s (rows.map (·.toArray)) 0 ((Array.range (n * s)).map fun i => z.cells[i % z.cells.size]!) (fun v hv => by
    obtain ⟨x, hx, rfl⟩ := List.mem_map.1 hv
    rw [List.size_toArray, hr x hx]) (by simp [hn])
  have hre : r = rows.flatten.toArray := by
    apply Array.ext'
    rw [hl]
    simp [Function.comp_def]
  subst hre
  refine st_run (w1 := w.alloc (.cells rows.flatten.toArray e)) (v := .slice (some ⟨w.heap.size, 0, none⟩) n n) hw ?_ (k _ _ ((Below.refl _ _).alloc (Nat.le_refl _) _) (hE.alloc e _))
  have h1 : ¬ n * s > 2 ^ 24 := by omega
  have h2 : ¬ n * s = 0 := by omega
  unfold execOp
  simp only [ho, List.map_toArray, hp, Instr.buildSlice, Sem.run_bind, run_underlying ht, size_run hs, Result.andThen_ok, if_neg h1, if_neg h2, hz, Sem.run_pure]
  rw [hf]
  simp [newRow, newObj, Sem.run, Sem.run_bind, Sem.run_pure]
end
theorem Env.more {w0 w w1 : World} {l : List Blk} {g : Nat} {T : TypeId} {cs : Array Value} (hE : Env w0 l w) (hb : Below w.heap.size w w1) (hn : w.heap.size ≤ g) (hg : w1.heap[g]? = some (.cells cs T (0, 0))) : Env w0 (⟨g, T, cs⟩ :: l) w1 :=
  (hE.call hb).add hg (Nat.le_trans hE.below.size hn) fun b hm => Nat.ne_of_gt (Nat.lt_of_lt_of_le (hE.lt hm) hn)
theorem Ow.lenN {e : TypeId} {k : IntKind} {l : List Nat} {v : Value} {bs : List Blk} (h : Ow e (nats k l) v bs) : ∃ p c, v = .slice p l.length c ∧ l.length ≤ c := by
  obtain ⟨p, c, h1, h2⟩ := h.len
  rw [nats_len] at h1 h2
  exact ⟨p, c, h1, h2⟩
theorem Ow.seesW {w0 : World} {e : TypeId} {k : IntKind} {ns : List Nat} {v : Value} {bs : List Blk} (h : Ow e (nats k ns) v bs) : ∀ w', Env w0 bs w' → RdS k ns v w' := fun w' hE => (h.sl (l := []) (by rw [List.append_nil]; exact hE)).rdS

set_option maxHeartbeats 1000000 in
theorem Len_any {g n c most : Nat} {p : Option Addr} {w : World} {fr : Nat × Nat} (hg : w.heap[g]? = some (.cells #[.slice p n c, .int .i64 (most : Int)] 56 fr)) (hn : n < 9223372036854775808) : Gives 11 #[.pointer (some ⟨g, 0, none⟩)] w (.int .i64 (n : Int)) := by
  have Hg := Lib.hid hg
  clear hg
  have hE0 := Env.nil w
  go_enter Tryd.func11, Tryd.ntmps11
  repeat ((fail_if_success (with_reducible show wpList _ _ _ (List.cons _ _) _ _)); (fail_if_success (with_reducible show Code.wp _ (Code.region _ _ true) _ _ _)); go_step)
  refine wl_step (st_val rfl (v_moveC (.inr rfl)) ?_)
  simp only [Act.put, List.setIfInBounds_toArray, List.set_cons_zero, List.set_cons_succ]
  repeat ((fail_if_success (with_reducible show wpList _ _ _ (List.cons _ _) _ _)); (fail_if_success (with_reducible show Code.wp _ (Code.region _ _ true) _ _ _)); go_step)
  refine wl_step (st_val rfl (v_moveT (.inl rfl) rfl) ?_)
  simp only [Act.put, List.setIfInBounds_toArray, List.set_cons_zero, List.set_cons_succ]
  refine wl_step (st_val rfl (v_run fun w9 => by go_simp; with_reducible rfl) ?_)
  simp only [Act.put, List.setIfInBounds_toArray, List.set_cons_zero, List.set_cons_succ]
  repeat ((fail_if_success (with_reducible show wpList _ _ _ (List.cons _ _) _ _)); (fail_if_success (with_reducible show Code.wp _ (Code.region _ _ true) _ _ _)); (fail_if_success (with_reducible show Code.wp _ (Code.cond _ _ _) _ _ _)); go_step)
  refine wp_cond_false (by first | rfl | exact congrArg Value.bool (decide_eq_false (by omega))) ?_
  skip
  repeat ((fail_if_success (with_reducible show wpList _ _ _ (List.cons _ _) _ _)); (fail_if_success (with_reducible show Code.wp _ (Code.region _ _ true) _ _ _)); go_step)
  refine wl_step (st_val rfl (v_moveT (.inl rfl) rfl) ?_)
  simp only [Act.put, List.setIfInBounds_toArray, List.set_cons_zero, List.set_cons_succ]
  refine wl_step (st_val rfl (v_nil rfl rfl) ?_)
  simp only [Act.put, List.setIfInBounds_toArray, List.set_cons_zero, List.set_cons_succ]
  refine wl_step (st_val rfl (v_field0 (s := 0) rfl rfl Tryd.underlying56 rfl (by kernel_rfl) rfl) ?_)
  simp only [Act.put, List.setIfInBounds_toArray, List.set_cons_zero, List.set_cons_succ]
  refine wl_step (st_val rfl (v_cellW (cs := [.slice p n c, .int .i64 (most : Int)]) Hg.out rfl hE0 rfl rfl Tryd.underlying31 rfl) ?_)
  simp only [Act.put, List.setIfInBounds_toArray, List.set_cons_zero, List.set_cons_succ]
  refine wl_step (st_val rfl (v_len rfl rfl Tryd.underlying31 hn) ?_)
  simp only [Act.put, List.setIfInBounds_toArray, List.set_cons_zero, List.set_cons_succ]
  refine wl_step (st_val rfl (v_moveT (.inr rfl) rfl) ?_)
  simp only [Act.put, List.setIfInBounds_toArray, List.set_cons_zero, List.set_cons_succ]
  repeat ((fail_if_success (with_reducible show wpList _ _ _ (List.cons _ _) _ _)); (fail_if_success (with_reducible show Code.wp _ (Code.region _ _ true) _ _ _)); go_step)
  go_returns
  exact ⟨rfl, hE0.below⟩
set_option maxHeartbeats 1000000 in
theorem Room_any {g n c most : Nat} {p : Option Addr} {w : World} {fr : Nat × Nat} (hg : w.heap[g]? = some (.cells #[.slice p n c, .int .i64 (most : Int)] 56 fr)) (hn : n ≤ most) (hm : most < 9223372036854775808) : Gives 12 #[.pointer (some ⟨g, 0, none⟩)] w (.int .i64 ((most - n : Nat) : Int)) := by
  have Hg := Lib.hid hg
  have hn63 : n < 9223372036854775808 := by omega
  clear hg
  have hE0 := Env.nil w
  go_enter Tryd.func12, Tryd.ntmps12
  repeat ((fail_if_success (with_reducible show wpList _ _ _ (List.cons _ _) _ _)); (fail_if_success (with_reducible show Code.wp _ (Code.region _ _ true) _ _ _)); go_step)
  refine wl_step (st_val rfl (v_moveC (.inr rfl)) ?_)
  simp only [Act.put, List.setIfInBounds_toArray, List.set_cons_zero, List.set_cons_succ]
  repeat ((fail_if_success (with_reducible show wpList _ _ _ (List.cons _ _) _ _)); (fail_if_success (with_reducible show Code.wp _ (Code.region _ _ true) _ _ _)); go_step)
  refine wl_step (st_val rfl (v_moveT (.inl rfl) rfl) ?_)
  simp only [Act.put, List.setIfInBounds_toArray, List.set_cons_zero, List.set_cons_succ]
  refine wl_step (st_val rfl (v_run fun w9 => by go_simp; with_reducible rfl) ?_)
  simp only [Act.put, List.setIfInBounds_toArray, List.set_cons_zero, List.set_cons_succ]
  repeat ((fail_if_success (with_reducible show wpList _ _ _ (List.cons _ _) _ _)); (fail_if_success (with_reducible show Code.wp _ (Code.region _ _ true) _ _ _)); (fail_if_success (with_reducible show Code.wp _ (Code.cond _ _ _) _ _ _)); go_step)
  refine wp_cond_false (by first | rfl | exact congrArg Value.bool (decide_eq_false (by omega))) ?_
  skip
  repeat ((fail_if_success (with_reducible show wpList _ _ _ (List.cons _ _) _ _)); (fail_if_success (with_reducible show Code.wp _ (Code.region _ _ true) _ _ _)); go_step)
  refine wp_region_B (n := 11) 10 (by kernel_rfl) rfl hE0 ?_
  intro w1 hb1 hE1
  clear hE0
  refine wpB_take (i := 0) (by kernel_rfl) rfl (by kernel_rfl) (fun _ _ _ h => h) rfl (v_moveT (.inl rfl) rfl) ?_
  simp only [Act.put, List.setIfInBounds_toArray, List.set_cons_zero, List.set_cons_succ]
  refine wpB_take (i := 1) (by kernel_rfl) rfl (by kernel_rfl) (fun _ _ _ h => h) rfl (v_nil rfl rfl) ?_
  simp only [Act.put, List.setIfInBounds_toArray, List.set_cons_zero, List.set_cons_succ]
  refine wpB_take (i := 2) (by kernel_rfl) rfl (by kernel_rfl) (fun _ _ _ h => h) rfl (v_fieldB (s := 0) rfl rfl Tryd.underlying56 rfl (by kernel_rfl) rfl) ?_
  simp only [Act.put, List.setIfInBounds_toArray, List.set_cons_zero, List.set_cons_succ]
  refine wpB_take (i := 3) (by kernel_rfl) rfl (by kernel_rfl) (fun _ _ _ h => h) rfl (v_cellW (cs := [.slice p n c, .int .i64 (most : Int)]) Hg.out rfl hE1 rfl rfl Tryd.underlying3 rfl) ?_
  simp only [Act.put, List.setIfInBounds_toArray, List.set_cons_zero, List.set_cons_succ]
  refine wpB_take (i := 4) (by kernel_rfl) rfl (by kernel_rfl) (fun _ _ _ h => h) rfl (v_moveT (.inl rfl) rfl) ?_
  simp only [Act.put, List.setIfInBounds_toArray, List.set_cons_zero, List.set_cons_succ]
  refine wpB_take (i := 5) (by kernel_rfl) rfl (by kernel_rfl) (fun _ _ _ h => h) rfl (v_nil rfl rfl) ?_
  simp only [Act.put, List.setIfInBounds_toArray, List.set_cons_zero, List.set_cons_succ]
  refine wpB_take (i := 6) (by kernel_rfl) rfl (by kernel_rfl) (fun _ _ _ h => h) rfl (v_field0 (s := 0) rfl rfl Tryd.underlying56 rfl (by kernel_rfl) rfl) ?_
  simp only [Act.put, List.setIfInBounds_toArray, List.set_cons_zero, List.set_cons_succ]
  refine wpB_take (i := 7) (by kernel_rfl) rfl (by kernel_rfl) (fun _ _ _ h => h) rfl (v_cellW (cs := [.slice p n c, .int .i64 (most : Int)]) Hg.out rfl hE1 rfl rfl Tryd.underlying31 rfl) ?_
  simp only [Act.put, List.setIfInBounds_toArray, List.set_cons_zero, List.set_cons_succ]
  refine wpB_take (i := 8) (by kernel_rfl) rfl (by kernel_rfl) (fun _ _ _ h => h) rfl (v_len rfl rfl Tryd.underlying31 hn63) ?_
  simp only [Act.put, List.setIfInBounds_toArray, List.set_cons_zero, List.set_cons_succ]
  refine wpB_take (i := 9) (by kernel_rfl) rfl (by kernel_rfl) (fun _ _ _ h => h) rfl (v_sub rfl rfl rfl (by first | exact w_i64s (by omega) (by omega) | exact w_i64I (by omega) (by omega))) ?_
  simp only [Act.put, List.setIfInBounds_toArray, List.set_cons_zero, List.set_cons_succ]
  refine wpB_step (i := 10) (by kernel_rfl) rfl (st_val rfl (v_moveT (.inr rfl) rfl) ?_)
  refine ⟨fun _ => Below.refl _ _, ?_⟩
  simp only [Act.put, List.setIfInBounds_toArray, List.set_cons_zero, List.set_cons_succ]
  refine wpB_done (by kernel_rfl) ?_ _
  repeat ((fail_if_success (with_reducible show wpList _ _ _ (List.cons _ _) _ _)); (fail_if_success (with_reducible show Code.wp _ (Code.region _ _ true) _ _ _)); go_step)
  go_returns
  exact ⟨rfl, hE1.below⟩
set_option maxHeartbeats 2000000 in
theorem own_any {fr to : Int} {b : List Nat} {s : Value} {w : World} (hs : RdS .u8 b s w) (hb : b.length < 1000000) : Calls Tryd.prog 25 #[.agg #[.int .i64 fr, .int .i64 to, s]] w fun e w' => ∃ s' bs, e = .returned (.agg #[.int .i64 fr, .int .i64 to, s']) ∧ Below w.heap.size w w' ∧ Ow 5 (nats .u8 b) s' bs ∧ Env w bs w' := by
  obtain ⟨i0, hi, hz, hsz, hby⟩ := info_u8
  have Hi := Lib.hid hi
  have Hz := Lib.hid hz
  have Hs := Lib.hid hsz
  have Hby := Lib.hid hby
  obtain ⟨ps, cs, rfl, hcs, -⟩ := id hs
  have Hv := Lib.hid hs
  have h63 : b.length ≤ maxLen := by simp only [maxLen]; omega
  have hfit : b.length * 1 ≤ 140737488355328 := by omega
  clear hi hz hsz hby hs
  have hE0 := Env.nil w
  go_enter Tryd.func25, Tryd.ntmps25
  repeat ((fail_if_success (with_reducible show wpList _ _ _ (List.cons _ _) _ _)); (fail_if_success (with_reducible show Code.wp _ (Code.region _ _ true) _ _ _)); go_step)
  refine wl_step (st_boxA hE0 rfl rfl rfl ?_)
  intro g0 w1 hb1 hE1
  clear hE0
  simp only [Act.put, List.setIfInBounds_toArray, List.set_cons_zero, List.set_cons_succ]
  refine wl_step (st_alloc (zs := #[Value.int .i64 0, Value.int .i64 0, Value.slice none 0 0]) hE1 rfl rfl (fun w => by kernel_rfl) ?_)
  intro g1 w2 hb2 hE2
  clear hE1
  simp only [Act.put, List.setIfInBounds_toArray, List.set_cons_zero, List.set_cons_succ]
  repeat ((fail_if_success (with_reducible show wpList _ _ _ (List.cons _ _) _ _)); (fail_if_success (with_reducible show Code.wp _ (Code.region _ _ true) _ _ _)); go_step)
  refine wl_step (st_val rfl (v_fieldB (s := 0) rfl rfl Tryd.underlying43 rfl (by kernel_rfl) rfl) ?_)
  simp only [Act.put, List.setIfInBounds_toArray, List.set_cons_zero, List.set_cons_succ]
  refine wl_step (st_val rfl (v_cellB (v := .slice ps b.length cs) (i := 1) hE2 rfl rfl rfl Tryd.underlying41 rfl rfl) ?_)
  simp only [Act.put, List.setIfInBounds_toArray, List.set_cons_zero, List.set_cons_succ]
  refine wl_step (st_appendN hE2 rfl rfl Tryd.underlying41 Hi.out Hz.out Hs.out rfl Hby.out rfl rfl (Hv.out.below hE2.below) h63 hfit ?_)
  intro vA w3 bsA hb3 hoA hE3
  clear hE2
  simp only [Act.put, List.setIfInBounds_toArray, List.set_cons_zero, List.set_cons_succ]
  obtain ⟨pA, cA, hvA, hcA⟩ := hoA.lenN
  subst hvA
  replace hE3 := hE3.perm List.perm_append_comm
  simp only [List.cons_append, List.nil_append] at hE3
  refine wl_step (st_val rfl (v_fieldB (s := 0) rfl rfl Tryd.underlying43 rfl (by kernel_rfl) rfl) ?_)
  simp only [Act.put, List.setIfInBounds_toArray, List.set_cons_zero, List.set_cons_succ]
  refine wl_step (st_put (v := .slice pA b.length cA) (i := 1) hE3 rfl rfl rfl rfl rfl (by kernel_rfl) rfl rfl (show 2 < 3 by decide) ?_)
  intro w4 hE4
  clear hE3
  simp only [List.setIfInBounds_toArray, List.set_cons_zero, List.set_cons_succ] at hE4
  simp only [Act.put, List.setIfInBounds_toArray, List.set_cons_zero, List.set_cons_succ]
  repeat ((fail_if_success (with_reducible show wpList _ _ _ (List.cons _ _) _ _)); (fail_if_success (with_reducible show Code.wp _ (Code.region _ _ true) _ _ _)); go_step)
  refine wl_step (st_val rfl (v_load (i := 1) hE4 rfl rfl rfl Tryd.underlying43 rfl (sz_of (n := 3) (by kernel_rfl) (by first | (simp only [ints_size, digs_length, List.length_replicate, List.length_cons, List.length_nil]; done) | (simp only [ints_size, digs_length, List.length_replicate, List.length_cons, List.length_nil, List.length_set, List.length_append]; omega) | rfl))) ?_)
  simp only [Act.put, List.setIfInBounds_toArray, List.set_cons_zero, List.set_cons_succ]
  refine wl_step (st_store (i := 0) hE4 rfl rfl rfl rfl rfl (sz_of (n := 3) (by kernel_rfl) (by first | (simp only [ints_size, digs_length, List.length_replicate, List.length_cons, List.length_nil]; done) | (simp only [ints_size, digs_length, List.length_replicate, List.length_cons, List.length_nil, List.length_set, List.length_append]; omega) | rfl)) (by first | (simp only [ints_size, digs_length, List.length_replicate, List.length_cons, List.length_nil]; done) | (simp only [ints_size, digs_length, List.length_replicate, List.length_cons, List.length_nil, List.length_set, List.length_append]; omega) | rfl) (by first | exact ints_one _ _ | decide | rfl | (simp [*]; done) | (simp; exact ⟨rfl, rfl, rfl⟩)) ?_)
  intro w5 hE5
  clear hE4
  simp only [List.cons_append, List.set_cons_zero, List.set_cons_succ] at hE5
  simp only [Act.put, List.setIfInBounds_toArray, List.set_cons_zero, List.set_cons_succ]
  repeat ((fail_if_success (with_reducible show wpList _ _ _ (List.cons _ _) _ _)); (fail_if_success (with_reducible show Code.wp _ (Code.region _ _ true) _ _ _)); (fail_if_success (with_reducible show Code.wp _ (Code.cond _ _ _) _ _ _)); go_step)
  refine bodyPost_ret (results_cell_row rfl _ _ _ _ _ (0, 0) _ rfl ((hE5).get (i := 0) rfl) Tryd.underlying43 rfl (sz_of (n := 3) (by kernel_rfl) rfl)) rfl ?_
  exact ⟨_, _, rfl, (hE5).below, hoA, (hE5).sub ((List.sublist_cons_self _ _).trans (List.sublist_cons_self _ _))⟩
set_option maxHeartbeats 2000000 in
theorem New_any {n : Nat} (h1 : 1 ≤ n) (h2 : n ≤ 64) (w : World) : Calls Tryd.prog 7 #[.int .i64 (n : Int)] w fun e w' => ∃ g, e = .returned (.tuple #[.pointer (some ⟨g, 0, none⟩), .nilIface]) ∧ Below w.heap.size w w' ∧ w.heap.size ≤ g ∧ w'.heap[g]? = some (.cells #[.slice none 0 0, .int .i64 (n : Int)] 56 (0, 0)) := by
  have d1 := Lib.hid (decide_eq_false (show ¬ n < 1 by omega))
  have d2 := Lib.hid (decide_eq_false (show ¬ 64 < n by omega))
  have hE0 := Env.nil w
  go_enter Tryd.func7, Tryd.ntmps7
  repeat ((fail_if_success (with_reducible show wpList _ _ _ (List.cons _ _) _ _)); (fail_if_success (with_reducible show Code.wp _ (Code.region _ _ true) _ _ _)); go_step)
  refine wl_step (st_val rfl (v_moveC (.inr rfl)) ?_)
  simp only [Act.put, List.setIfInBounds_toArray, List.set_cons_zero, List.set_cons_succ]
  refine wl_step (st_val rfl (v_moveC (.inr rfl)) ?_)
  simp only [Act.put, List.setIfInBounds_toArray, List.set_cons_zero, List.set_cons_succ]
  repeat ((fail_if_success (with_reducible show wpList _ _ _ (List.cons _ _) _ _)); (fail_if_success (with_reducible show Code.wp _ (Code.region _ _ true) _ _ _)); go_step)
  refine wl_step (st_val rfl (v_moveT (.inl rfl) rfl) ?_)
  simp only [Act.put, List.setIfInBounds_toArray, List.set_cons_zero, List.set_cons_succ]
  refine wl_step (st_val rfl (v_lss (n := 1) rfl rfl rfl) ?_)
  simp only [Act.put, List.setIfInBounds_toArray, List.set_cons_zero, List.set_cons_succ]
  rw [d1.out]
  refine wl_step (st_val rfl (v_moveT (.inl rfl) rfl) ?_)
  simp only [Act.put, List.setIfInBounds_toArray, List.set_cons_zero, List.set_cons_succ]
  refine wl_step (st_val rfl (v_moveT (.inl rfl) rfl) ?_)
  simp only [Act.put, List.setIfInBounds_toArray, List.set_cons_zero, List.set_cons_succ]
  refine wl_step (st_val rfl (v_gtr (n := 64) rfl rfl rfl) ?_)
  simp only [Act.put, List.setIfInBounds_toArray, List.set_cons_zero, List.set_cons_succ]
  rw [d2.out]
  refine wl_step (st_val rfl (v_or rfl rfl (fun _ => rfl)) ?_)
  simp only [Act.put, List.setIfInBounds_toArray, List.set_cons_zero, List.set_cons_succ]
  repeat ((fail_if_success (with_reducible show wpList _ _ _ (List.cons _ _) _ _)); (fail_if_success (with_reducible show Code.wp _ (Code.region _ _ true) _ _ _)); (fail_if_success (with_reducible show Code.wp _ (Code.cond _ _ _) _ _ _)); go_step)
  refine wp_cond_false (by first | rfl | exact congrArg Value.bool (decide_eq_false (by omega))) ?_
  skip
  repeat ((fail_if_success (with_reducible show wpList _ _ _ (List.cons _ _) _ _)); (fail_if_success (with_reducible show Code.wp _ (Code.region _ _ true) _ _ _)); go_step)
  refine wl_step (st_val rfl (v_moveT (.inl rfl) rfl) ?_)
  simp only [Act.put, List.setIfInBounds_toArray, List.set_cons_zero, List.set_cons_succ]
  refine wl_step (st_val rfl (v_buildV (zs := [.slice none 0 0, .int .i64 0]) (lay := [(0, 1), (1, 1)]) (vals := [(1, .int .i64 (n : Int))]) [.slice none 0 0, .int .i64 (n : Int)] rfl (by kernel_rfl) Tryd.underlying56 (by kernel_rfl) rfl rfl) ?_)
  simp only [Act.put, List.setIfInBounds_toArray, List.set_cons_zero, List.set_cons_succ]
  refine wl_step (st_boxA hE0 rfl rfl rfl ?_)
  intro g0 w1 hb1 hE1
  clear hE0
  simp only [Act.put, List.setIfInBounds_toArray, List.set_cons_zero, List.set_cons_succ]
  refine wl_step (st_val rfl (v_moveT (.inr rfl) rfl) ?_)
  simp only [Act.put, List.setIfInBounds_toArray, List.set_cons_zero, List.set_cons_succ]
  refine wl_step (st_val rfl (v_moveC (.inr rfl)) ?_)
  simp only [Act.put, List.setIfInBounds_toArray, List.set_cons_zero, List.set_cons_succ]
  repeat ((fail_if_success (with_reducible show wpList _ _ _ (List.cons _ _) _ _)); (fail_if_success (with_reducible show Code.wp _ (Code.region _ _ true) _ _ _)); (fail_if_success (with_reducible show Code.wp _ (Code.cond _ _ _) _ _ _)); go_step)
  go_returns
  exact ⟨g0, rfl, (hE1).below, (hE1).new _ (List.mem_singleton_self _), (hE1).get (i := 0) rfl⟩
set_option maxHeartbeats 4000000 in
theorem Same_any {f1 t1 f2 t2 : Int} {b1 b2 : List Nat} {s1 s2 : Value} {w : World} (h1 : RdS .u8 b1 s1 w) (h2 : RdS .u8 b2 s2 w) (d1 : Digs 256 b1) (d2 : Digs 256 b2) :
    Gives 21 #[.agg #[.int .i64 f1, .int .i64 t1, s1], .agg #[.int .i64 f2, .int .i64 t2, s2]] w (.bool (decide (f1 = f2) && (decide (t1 = t2) && decide (b1 = b2)))) := by
  have H1 := Lib.hid h1
  have H2 := Lib.hid h2
  have D1 := Lib.hid d1
  have D2 := Lib.hid d2
  have hb : decide (bytesOf b1 = bytesOf b2) = decide (b1 = b2) := by
    by_cases h : b1 = b2
    · subst h; rw [decide_eq_true rfl, decide_eq_true rfl]
    · rw [decide_eq_false h, decide_eq_false (fun h' => h (bytesOf_inj d1 d2 h'))]
  have HB := Lib.hid hb
  obtain ⟨p1, c1, hv1, -, -⟩ := id h1
  obtain ⟨p2, c2, hv2, -, -⟩ := id h2
  obtain ⟨B1, hB1⟩ : ∃ b, decide (f1 = f2) = b := ⟨_, rfl⟩
  obtain ⟨B2, hB2⟩ : ∃ b, decide (t1 = t2) = b := ⟨_, rfl⟩
  obtain ⟨B3, hB3⟩ : ∃ b, decide (b1 = b2) = b := ⟨_, rfl⟩
  rw [hB1, hB2, hB3]
  rw [hB3] at HB
  have E1 := Lib.hid hB1
  have E2 := Lib.hid hB2
  clear h1 h2 d1 d2 hb hB1 hB2 hB3
  have hE0 := Env.nil w
  go_enter Tryd.func21, Tryd.ntmps21
  repeat ((fail_if_success (with_reducible show wpList _ _ _ (List.cons _ _) _ _)); (fail_if_success (with_reducible show Code.wp _ (Code.region _ _ true) _ _ _)); go_step)
  refine wl_step (st_boxA hE0 rfl rfl rfl ?_)
  intro g0 w1 hb1 hE1
  clear hE0
  simp only [Act.put, List.setIfInBounds_toArray, List.set_cons_zero, List.set_cons_succ]
  refine wl_step (st_boxA hE1 rfl rfl rfl ?_)
  intro g1 w2 hb2 hE2
  clear hE1
  simp only [Act.put, List.setIfInBounds_toArray, List.set_cons_zero, List.set_cons_succ]
  refine wl_step (st_val rfl (v_moveC (.inr rfl)) ?_)
  simp only [Act.put, List.setIfInBounds_toArray, List.set_cons_zero, List.set_cons_succ]
  cases B1
  case false =>
    have c0 : w2.cell? ⟨g0, 0, none⟩ = some (.int .i64 f1) := by rw [hE2.cell (i := 1) rfl]; rfl
    have c1 : w2.cell? ⟨g1, 0, none⟩ = some (.int .i64 f2) := by rw [hE2.cell (i := 0) rfl]; rfl
    have hne : ¬ f1 = f2 := by simpa using E1.out
    have hb := hE2.below
    clear H1 H2 D1 D2 HB E1 E2 hE2
    go_wp2
    go_returns
    exact ⟨rfl, hb⟩
  case true =>
    cases B2
    case false =>
      have c0 : w2.cell? ⟨g0, 0, none⟩ = some (.int .i64 f1) := by rw [hE2.cell (i := 1) rfl]; rfl
      have c1 : w2.cell? ⟨g1, 0, none⟩ = some (.int .i64 f2) := by rw [hE2.cell (i := 0) rfl]; rfl
      have c2 : w2.cell? ⟨g0, 1, none⟩ = some (.int .i64 t1) := by rw [hE2.cell (i := 1) rfl]; rfl
      have c3 : w2.cell? ⟨g1, 1, none⟩ = some (.int .i64 t2) := by rw [hE2.cell (i := 0) rfl]; rfl
      have he : f1 = f2 := by simpa using E1.out
      subst he
      have hne : ¬ t1 = t2 := by simpa using E2.out
      have hb := hE2.below
      clear H1 H2 D1 D2 HB E1 E2 hE2
      go_wp2
      go_returns
      exact ⟨rfl, hb⟩
    case true =>
      repeat ((fail_if_success (with_reducible show wpList _ _ _ (List.cons _ _) _ _)); (fail_if_success (with_reducible show Code.wp _ (Code.region _ _ true) _ _ _)); go_step)
      refine wl_step (st_val rfl (v_field0 (s := 0) rfl rfl Tryd.underlying43 rfl (by kernel_rfl) rfl) ?_)
      simp only [Act.put, List.setIfInBounds_toArray, List.set_cons_zero, List.set_cons_succ]
      refine wl_step (st_val rfl (v_cellB (v := .int .i64 f1) (i := 1) hE2 rfl rfl rfl Tryd.underlying3 rfl rfl) ?_)
      simp only [Act.put, List.setIfInBounds_toArray, List.set_cons_zero, List.set_cons_succ]
      refine wl_step (st_val rfl (v_field0 (s := 0) rfl rfl Tryd.underlying43 rfl (by kernel_rfl) rfl) ?_)
      simp only [Act.put, List.setIfInBounds_toArray, List.set_cons_zero, List.set_cons_succ]
      refine wl_step (st_val rfl (v_cellB (v := .int .i64 f2) (i := 0) hE2 rfl rfl rfl Tryd.underlying3 rfl rfl) ?_)
      simp only [Act.put, List.setIfInBounds_toArray, List.set_cons_zero, List.set_cons_succ]
      refine wl_step (st_val rfl (v_eqlI rfl rfl rfl) ?_)
      simp only [Act.put, List.setIfInBounds_toArray, List.set_cons_zero, List.set_cons_succ]
      rw [E1.out]
      refine wl_step (st_val rfl (v_moveT (.inl rfl) rfl) ?_)
      simp only [Act.put, List.setIfInBounds_toArray, List.set_cons_zero, List.set_cons_succ]
      refine wl_step (st_val rfl (v_fieldB (s := 0) rfl rfl Tryd.underlying43 rfl (by kernel_rfl) rfl) ?_)
      simp only [Act.put, List.setIfInBounds_toArray, List.set_cons_zero, List.set_cons_succ]
      refine wl_step (st_val rfl (v_cellB (v := .int .i64 t1) (i := 1) hE2 rfl rfl rfl Tryd.underlying3 rfl rfl) ?_)
      simp only [Act.put, List.setIfInBounds_toArray, List.set_cons_zero, List.set_cons_succ]
      refine wl_step (st_val rfl (v_fieldB (s := 0) rfl rfl Tryd.underlying43 rfl (by kernel_rfl) rfl) ?_)
      simp only [Act.put, List.setIfInBounds_toArray, List.set_cons_zero, List.set_cons_succ]
      refine wl_step (st_val rfl (v_cellB (v := .int .i64 t2) (i := 0) hE2 rfl rfl rfl Tryd.underlying3 rfl rfl) ?_)
      simp only [Act.put, List.setIfInBounds_toArray, List.set_cons_zero, List.set_cons_succ]
      refine wl_step (st_val rfl (v_eqlI rfl rfl rfl) ?_)
      simp only [Act.put, List.setIfInBounds_toArray, List.set_cons_zero, List.set_cons_succ]
      rw [E2.out]
      refine wl_step (st_val rfl (v_andT rfl rfl rfl) ?_)
      simp only [Act.put, List.setIfInBounds_toArray, List.set_cons_zero, List.set_cons_succ]
      refine wl_step (st_val rfl (v_moveT (.inl rfl) rfl) ?_)
      simp only [Act.put, List.setIfInBounds_toArray, List.set_cons_zero, List.set_cons_succ]
      refine wl_step (st_val rfl (v_fieldB (s := 0) rfl rfl Tryd.underlying43 rfl (by kernel_rfl) rfl) ?_)
      simp only [Act.put, List.setIfInBounds_toArray, List.set_cons_zero, List.set_cons_succ]
      refine wl_step (st_val rfl (v_cellB (v := s1) (i := 1) hE2 rfl rfl rfl Tryd.underlying41 rfl rfl) ?_)
      simp only [Act.put, List.setIfInBounds_toArray, List.set_cons_zero, List.set_cons_succ]
      refine wl_step (st_val rfl (v_toStr (H1.out.below hE2.below) D1.out rfl rfl Tryd.underlying41 Tryd.underlying5 Tryd.underlying9) ?_)
      simp only [Act.put, List.setIfInBounds_toArray, List.set_cons_zero, List.set_cons_succ]
      refine wl_step (st_val rfl (v_fieldB (s := 0) rfl rfl Tryd.underlying43 rfl (by kernel_rfl) rfl) ?_)
      simp only [Act.put, List.setIfInBounds_toArray, List.set_cons_zero, List.set_cons_succ]
      refine wl_step (st_val rfl (v_cellB (v := s2) (i := 0) hE2 rfl rfl rfl Tryd.underlying41 rfl rfl) ?_)
      simp only [Act.put, List.setIfInBounds_toArray, List.set_cons_zero, List.set_cons_succ]
      refine wl_step (st_val rfl (v_toStr (H2.out.below hE2.below) D2.out rfl rfl Tryd.underlying41 Tryd.underlying5 Tryd.underlying9) ?_)
      simp only [Act.put, List.setIfInBounds_toArray, List.set_cons_zero, List.set_cons_succ]
      refine wl_step (st_val rfl (v_eqStr rfl rfl rfl) ?_)
      simp only [Act.put, List.setIfInBounds_toArray, List.set_cons_zero, List.set_cons_succ]
      rw [HB.out]
      refine wl_step (st_val rfl (v_andT rfl rfl rfl) ?_)
      simp only [Act.put, List.setIfInBounds_toArray, List.set_cons_zero, List.set_cons_succ]
      refine wl_step (st_val rfl (v_moveT (.inr rfl) rfl) ?_)
      simp only [Act.put, List.setIfInBounds_toArray, List.set_cons_zero, List.set_cons_succ]
      repeat ((fail_if_success (with_reducible show wpList _ _ _ (List.cons _ _) _ _)); (fail_if_success (with_reducible show Code.wp _ (Code.region _ _ true) _ _ _)); go_step)
      go_returns
      exact ⟨rfl, hE2.below⟩
end Go.Proofs.YtnbbehgcnodfbaaDoor
