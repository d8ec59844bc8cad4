/-
  Layer 28: the document's net: is there a packet; one is sent, taken; two are changed about. Conditions: the packets' bytes are read.
-/
import Derived.Test.YtnbbehgcnodfbaaDoorNetK
namespace Go.Proofs.YtnbbehgcnodfbaaDoor
open Go.RowKit
set_option maxRecDepth 100000
set_option linter.unusedVariables false
set_option linter.unusedSimpArgs false

section
variable {P : Program} {ops : Array Oper} {Q : Exit → Act → World → Prop} {a : Act} {w : World} {o : Oper} {rest : List Oper} {v : Value}
theorem wl_valS (hw : Region.wanted o (yielded ops a.tmps) = true) (h : Val P o a v w) (k : wpList P ops Q rest (a.put o.dst v) w) : wpList P ops Q (o :: rest) a w := wl_step (st_val hw h k)
theorem wl_skipS (hw : Region.wanted o (yielded ops a.tmps) = false) (k : wpList P ops Q rest (a.put o.dst undef) w) : wpList P ops Q (o :: rest) a w := wl_step (st_skip hw k)
end
theorem RdZ.head {s n i b off c : Nat} {xs : List Value} {w : World} (h : RdZ s n xs (.slice (some ⟨b, off, none⟩) n c) w) (hi : i ≤ n) : RdZ s i (xs.take (i * s)) (.slice (some ⟨b, off, none⟩) i c) w := by
  obtain ⟨h0, p, cap, he, hc, h3⟩ := h
  injection he with h1 h2 h4
  subst h1 h4
  have hle : i * s ≤ n * s := Nat.mul_le_mul_right _ hi
  refine ⟨by rw [List.length_take, h0]; omega, _, _, rfl, by omega, ?_⟩
  rcases h3 with h3 | ⟨b', off', h4, h5⟩
  · left; omega
  · right
    injection h4 with h4
    injection h4 with h6 h7 _
    subst h6 h7
    refine ⟨_, _, rfl, fun j u hj => h5 j u ?_⟩
    rw [List.getElem?_take] at hj
    split at hj
    · exact hj
    · cases hj
theorem RdZ.tail {s n i b off c : Nat} {xs : List Value} {w : World} (h : RdZ s n xs (.slice (some ⟨b, off, none⟩) n c) w) (hi : i ≤ n) : RdZ s (n - i) (xs.drop (i * s)) (.slice (some ⟨b, if c = i then off else off + i * s, none⟩) (n - i) (c - i)) w := by
  obtain ⟨h0, p, cap, he, hc, h3⟩ := h
  injection he with h1 h2 h4
  subst h1 h4
  refine ⟨by rw [List.length_drop, h0, Nat.sub_mul], _, _, rfl, by omega, ?_⟩
  rcases h3 with h3 | ⟨b', off', h4, h5⟩
  · left; omega
  · injection h4 with h4
    injection h4 with h6 h7 _
    subst h6 h7
    by_cases hci : c = i
    · left; omega
    · right
      rw [if_neg hci]
      refine ⟨_, _, rfl, fun j u hj => ?_⟩
      rw [List.getElem?_drop] at hj
      have := h5 _ u hj
      rwa [← Nat.add_assoc] at this
section
variable {P : Program} {ops : Array Oper} {Q : Exit → Act → World → Prop} {a : Act} {w w0 : World} {l : List Blk} {o : Oper} {K : Act → World → Prop} {s : Nat} {e : TypeId}
theorem st_build0Z {t : TypeId} (hE : Env w0 l w) (hw : Region.wanted o (yielded ops a.tmps) = true) (ho : o.op = .buildSlice t 0 #[]) (ht : P.underlying t = some (.slice e)) (hs : (P.info? e).map (·.size) = some s)
    (kk : ∀ g w1, Below w.heap.size w w1 → Env w0 (⟨g, e, #[]⟩ :: l) w1 → K (a.put o.dst (.slice (some ⟨g, 0, none⟩) 0 0)) w1) : Step P ops Q o K a w := by
  refine st_run (w1 := w.alloc (.cells #[] e)) (v := .slice (some ⟨w.heap.size, 0, none⟩) 0 0) hw ?_ (kk _ _ ((Below.refl _ _).alloc (Nat.le_refl _) _) (hE.alloc e _))
  unfold execOp
  simp [ho, Instr.buildSlice, Sem.run_bind, run_underlying ht, size_run hs, Sem.run_pure, Instr.fill, newRow, newObj, Sem.run]
  congr 2
  apply Array.toList_inj.1
  simp
theorem Oz.append0 {g : Nat} {t ty : TypeId} {i : TypeInfo} {z : Value} {bytes : Nat} (hE : Env w0 (⟨g, e, #[]⟩ :: l) w) (ht : P.underlying t = some (.slice e)) (hi : P.info? e = some i) (hz : i.zero = some z) (hs : i.size = s) (hzs : z.cells.size = s) (hby : i.bytes = bytes)
    {m : Nat} {news : List Value} {x : Value} (hx : RdZ s m news x w) (h1 : ∀ u ∈ news, u.oneCell' = true) (h63 : m ≤ maxLen) (hb : m * bytes ≤ 140737488355328) :
    ∃ v' w' bs', (Builtin.append_ #[t, t] ty #[.slice (some ⟨g, 0, none⟩) 0 0, x]).run P w = .ok v' w' ∧ Oz s e m news v' bs' ∧ Env w0 (bs' ++ l) w' ∧ Below w.heap.size w w' := by
  have h0 : Oz s e 0 [] (.slice (some ⟨g, 0, none⟩) 0 0) [⟨g, e, #[]⟩] := ⟨by simp, .inr ⟨g, 0, #[], rfl, Nat.le_refl _, Nat.zero_le _, by simp, by simp, rfl⟩⟩
  obtain ⟨v', w', bs', hrun, hO, hE'⟩ := h0.append (ty := ty) (l := l) (bytes := bytes) hE ht hi hz hs hzs hby hx h1 (by omega) (by rw [Nat.zero_add]; exact hb)
  rw [Nat.zero_add, List.nil_append] at hO
  refine ⟨v', w', bs', hrun, hO, hE', ?_⟩
  obtain ⟨hnl, p, c, rfl, hcap, h3⟩ := hx
  rcases Nat.eq_zero_or_pos m with rfl | hm
  · have hr : (Builtin.append_ #[t, t] ty #[.slice (some ⟨g, 0, none⟩) 0 0, .slice p 0 c]).run P w = .ok (.slice (some ⟨g, 0, none⟩) 0 0) w := by
      cases p <;> simp [Builtin.append_, run_underlying ht, sizeOf, typeInfo, hi, hs, Builtin.lenOf, Builtin.firstCells, storeCells, loadCells, loadCellsFrom]
    rw [hr] at hrun
    injection hrun with _ hrun
    rw [← hrun]
    exact Below.refl _ _
  · rcases h3 with h3 | ⟨b, off, rfl, h5⟩
    · omega
    · subst hby
      have h63' : ((0 + m : Nat) : Int) ≤ 9223372036854775807 := by simp only [maxLen] at h63; omega
      have hr := run_append_grow (P := P) w t ty e i z ht hi hz ⟨g, 0, none⟩ 0 0 [] (by simp) (fun j u hu => by cases hu) ⟨b, off, none⟩ m c news (by rw [hs, hnl]) (fun j u hj => by rw [addr_add]; exact h5 j u hj) (by omega) h63' (growslice_fits (by omega) (by rw [Nat.zero_add]; exact hb))
      rw [hr] at hrun
      injection hrun with _ hrun
      rw [← hrun]
      exact (Below.refl _ _).drew.alloc (Nat.le_refl _) _
theorem st_append0 {x y : Operand} {g : Nat} {t : TypeId} {i : TypeInfo} {z : Value} {bytes m : Nat} {news : List Value} {xv : Value} (hE : Env w0 (⟨g, e, #[]⟩ :: l) w) (hw : Region.wanted o (yielded ops a.tmps) = true)
    (ho : o.op = .call { callee := .builtin .append, args := #[x, y], argTypes := #[t, t] }) (ht : P.underlying t = some (.slice e)) (hi : P.info? e = some i) (hz : i.zero = some z) (hsz : i.size = s) (hzs : z.cells.size = s) (hby : i.bytes = bytes)
    (hs : a.eval x = .slice (some ⟨g, 0, none⟩) 0 0) (hx : a.eval y = xv) (hr : RdZ s m news xv w) (h1 : ∀ u ∈ news, u.oneCell' = true) (h63 : m ≤ maxLen) (hb : m * bytes ≤ 140737488355328)
    (kk : ∀ v' w' bs', Below w.heap.size w w' → Oz s e m news v' bs' → Env w0 (bs' ++ l) w' → K (a.put o.dst v') w') : Step P ops Q o K a w := by
  obtain ⟨v', w', bs', hrun, h2, h3, h4⟩ := Oz.append0 (ty := o.type) hE ht hi hz hsz hzs hby hr h1 h63 hb
  refine st_run (w1 := w') (v := v') hw ?_ (kk v' w' bs' h4 h2 h3)
  unfold execOp
  simp only [ho, resolve, invoke, builtin, Sem.run_bind, Sem.run_pure, Result.andThen_ok, List.map_toArray, List.map_cons, List.map_nil, hs, hx, hrun]
end
abbrev rnb (g : Nat) (v : Value) (most : Nat) : Blk := ⟨g, 33, #[v, .int .i64 (most : Int)]⟩
theorem pcells_snoc (M : List PV) (m : PV) : pcells M ++ m.cells = pcells (M ++ [m]) := by
  rw [pcells_append]
  rfl
theorem info_packet : ∃ i, Tryd.prog.info? 43 = some i ∧ i.zero = some (.agg #[.int .i64 0, .int .i64 0, .slice none 0 0]) ∧ i.size = 3 ∧ i.bytes = 40 := info_parts (P := Tryd.prog) (by kernel_rfl)

set_option maxHeartbeats 2000000 in
theorem rThere_in {g n c most i : Nat} {p : Option Addr} {w : World} {fr : Nat × Nat} (hg : w.heap[g]? = some (.cells #[.slice p n c, .int .i64 (most : Int)] 33 fr)) (hn : n < 1000000) (hi : i < n) : Gives 20 #[.pointer (some ⟨g, 0, none⟩), .int .i64 (i : Int)] w (.bool true) := by
  have Hg := Lib.hid hg
  have hn63 : n < 9223372036854775808 := by omega
  have d1 := Lib.hid (decide_eq_true (show (0 : Int) ≤ (i : Int) by omega))
  have d2 := Lib.hid (decide_eq_true hi)
  clear hg
  have hE0 := Env.nil w
  go_enter Tryd.func20, Tryd.ntmps20
  repeat ((fail_if_success (with_reducible show wpList _ _ _ (List.cons _ _) _ _)); (fail_if_success (with_reducible show Code.wp _ (Code.region _ _ true) _ _ _)); go_step)
  (with_reducible refine' wl_valS ?_ ?_ ?_); rotate_left; exact rfl; exact (v_moveC (.inr rfl))
  simp only [Act.put, List.setIfInBounds_toArray, List.set_cons_zero, List.set_cons_succ]
  repeat ((fail_if_success (with_reducible show wpList _ _ _ (List.cons _ _) _ _)); (fail_if_success (with_reducible show Code.wp _ (Code.region _ _ true) _ _ _)); go_step)
  (with_reducible refine' wl_valS ?_ ?_ ?_); rotate_left; exact rfl; exact (v_moveT (.inl rfl) rfl)
  simp only [Act.put, List.setIfInBounds_toArray, List.set_cons_zero, List.set_cons_succ]
  (with_reducible refine' wl_valS ?_ ?_ ?_); rotate_left; exact rfl; exact (v_geqI (n := 0) rfl rfl rfl)
  simp only [Act.put, List.setIfInBounds_toArray, List.set_cons_zero, List.set_cons_succ]
  rw [d1.out]
  (with_reducible refine' wl_valS ?_ ?_ ?_); rotate_left; exact rfl; exact (v_moveT (.inl rfl) rfl)
  simp only [Act.put, List.setIfInBounds_toArray, List.set_cons_zero, List.set_cons_succ]
  (with_reducible refine' wl_valS ?_ ?_ ?_); rotate_left; exact rfl; exact (v_moveT (.inl rfl) rfl)
  simp only [Act.put, List.setIfInBounds_toArray, List.set_cons_zero, List.set_cons_succ]
  (with_reducible refine' wl_valS ?_ ?_ ?_); rotate_left; exact rfl; exact (v_moveT (.inl rfl) rfl)
  simp only [Act.put, List.setIfInBounds_toArray, List.set_cons_zero, List.set_cons_succ]
  (with_reducible refine' wl_valS ?_ ?_ ?_); rotate_left; exact rfl; exact (v_nil rfl rfl)
  simp only [Act.put, List.setIfInBounds_toArray, List.set_cons_zero, List.set_cons_succ]
  (with_reducible refine' wl_valS ?_ ?_ ?_); rotate_left; exact rfl; exact (v_field0 (s := 0) rfl rfl Tryd.underlying33 rfl (by kernel_rfl) rfl)
  simp only [Act.put, List.setIfInBounds_toArray, List.set_cons_zero, List.set_cons_succ]
  (with_reducible refine' wl_valS ?_ ?_ ?_); rotate_left; exact rfl; exact (v_cellW (cs := [.slice p n c, .int .i64 (most : Int)]) Hg.out rfl hE0 rfl rfl Tryd.underlying31 rfl)
  simp only [Act.put, List.setIfInBounds_toArray, List.set_cons_zero, List.set_cons_succ]
  (with_reducible refine' wl_valS ?_ ?_ ?_); rotate_left; exact rfl; exact (v_len rfl rfl Tryd.underlying31 hn63)
  simp only [Act.put, List.setIfInBounds_toArray, List.set_cons_zero, List.set_cons_succ]
  (with_reducible refine' wl_valS ?_ ?_ ?_); rotate_left; exact rfl; exact (v_lss (m := i) (n := n) rfl rfl rfl)
  simp only [Act.put, List.setIfInBounds_toArray, List.set_cons_zero, List.set_cons_succ]
  rw [d2.out]
  (with_reducible refine' wl_valS ?_ ?_ ?_); rotate_left; exact rfl; exact (v_andT rfl rfl rfl)
  simp only [Act.put, List.setIfInBounds_toArray, List.set_cons_zero, List.set_cons_succ]
  (with_reducible refine' wl_valS ?_ ?_ ?_); rotate_left; exact rfl; exact (v_moveT (.inr rfl) rfl)
  simp only [Act.put, List.setIfInBounds_toArray, List.set_cons_zero, List.set_cons_succ]
  repeat ((fail_if_success (with_reducible show wpList _ _ _ (List.cons _ _) _ _)); (fail_if_success (with_reducible show Code.wp _ (Code.region _ _ true) _ _ _)); go_step)
  go_returns
  exact ⟨rfl, hE0.below⟩
set_option maxHeartbeats 2000000 in
theorem rThere_out {g n c most : Nat} {i : Int} {p : Option Addr} {w : World} {fr : Nat × Nat} (hg : w.heap[g]? = some (.cells #[.slice p n c, .int .i64 (most : Int)] 33 fr)) (hn : n < 1000000) (hi : ¬ (0 ≤ i ∧ i < n)) : Gives 20 #[.pointer (some ⟨g, 0, none⟩), .int .i64 i] w (.bool false) := by
  have Hg := Lib.hid hg
  have hn63 : n < 9223372036854775808 := by omega
  clear hg
  by_cases h0 : (0 : Int) ≤ i
  · have d1 := Lib.hid (decide_eq_true h0)
    have d2 := Lib.hid (decide_eq_false (show ¬ i < (n : Int) by omega))
    have hE0 := Env.nil w
    go_enter Tryd.func20, Tryd.ntmps20
    repeat ((fail_if_success (with_reducible show wpList _ _ _ (List.cons _ _) _ _)); (fail_if_success (with_reducible show Code.wp _ (Code.region _ _ true) _ _ _)); go_step)
    (with_reducible refine' wl_valS ?_ ?_ ?_); rotate_left; exact rfl; exact (v_moveC (.inr rfl))
    simp only [Act.put, List.setIfInBounds_toArray, List.set_cons_zero, List.set_cons_succ]
    repeat ((fail_if_success (with_reducible show wpList _ _ _ (List.cons _ _) _ _)); (fail_if_success (with_reducible show Code.wp _ (Code.region _ _ true) _ _ _)); go_step)
    (with_reducible refine' wl_valS ?_ ?_ ?_); rotate_left; exact rfl; exact (v_moveT (.inl rfl) rfl)
    simp only [Act.put, List.setIfInBounds_toArray, List.set_cons_zero, List.set_cons_succ]
    (with_reducible refine' wl_valS ?_ ?_ ?_); rotate_left; exact rfl; exact (v_geqI (n := 0) rfl rfl rfl)
    simp only [Act.put, List.setIfInBounds_toArray, List.set_cons_zero, List.set_cons_succ]
    rw [d1.out]
    (with_reducible refine' wl_valS ?_ ?_ ?_); rotate_left; exact rfl; exact (v_moveT (.inl rfl) rfl)
    simp only [Act.put, List.setIfInBounds_toArray, List.set_cons_zero, List.set_cons_succ]
    (with_reducible refine' wl_valS ?_ ?_ ?_); rotate_left; exact rfl; exact (v_moveT (.inl rfl) rfl)
    simp only [Act.put, List.setIfInBounds_toArray, List.set_cons_zero, List.set_cons_succ]
    (with_reducible refine' wl_valS ?_ ?_ ?_); rotate_left; exact rfl; exact (v_moveT (.inl rfl) rfl)
    simp only [Act.put, List.setIfInBounds_toArray, List.set_cons_zero, List.set_cons_succ]
    (with_reducible refine' wl_valS ?_ ?_ ?_); rotate_left; exact rfl; exact (v_nil rfl rfl)
    simp only [Act.put, List.setIfInBounds_toArray, List.set_cons_zero, List.set_cons_succ]
    (with_reducible refine' wl_valS ?_ ?_ ?_); rotate_left; exact rfl; exact (v_field0 (s := 0) rfl rfl Tryd.underlying33 rfl (by kernel_rfl) rfl)
    simp only [Act.put, List.setIfInBounds_toArray, List.set_cons_zero, List.set_cons_succ]
    (with_reducible refine' wl_valS ?_ ?_ ?_); rotate_left; exact rfl; exact (v_cellW (cs := [.slice p n c, .int .i64 (most : Int)]) Hg.out rfl hE0 rfl rfl Tryd.underlying31 rfl)
    simp only [Act.put, List.setIfInBounds_toArray, List.set_cons_zero, List.set_cons_succ]
    (with_reducible refine' wl_valS ?_ ?_ ?_); rotate_left; exact rfl; exact (v_len rfl rfl Tryd.underlying31 hn63)
    simp only [Act.put, List.setIfInBounds_toArray, List.set_cons_zero, List.set_cons_succ]
    (with_reducible refine' wl_valS ?_ ?_ ?_); rotate_left; exact rfl; exact (v_lssI rfl rfl rfl)
    simp only [Act.put, List.setIfInBounds_toArray, List.set_cons_zero, List.set_cons_succ]
    rw [d2.out]
    (with_reducible refine' wl_valS ?_ ?_ ?_); rotate_left; exact rfl; exact (v_andT rfl rfl rfl)
    simp only [Act.put, List.setIfInBounds_toArray, List.set_cons_zero, List.set_cons_succ]
    (with_reducible refine' wl_valS ?_ ?_ ?_); rotate_left; exact rfl; exact (v_moveT (.inr rfl) rfl)
    simp only [Act.put, List.setIfInBounds_toArray, List.set_cons_zero, List.set_cons_succ]
    repeat ((fail_if_success (with_reducible show wpList _ _ _ (List.cons _ _) _ _)); (fail_if_success (with_reducible show Code.wp _ (Code.region _ _ true) _ _ _)); go_step)
    go_returns
    exact ⟨rfl, hE0.below⟩
  · have d1 := Lib.hid (decide_eq_false h0)
    have hE0 := Env.nil w
    go_enter Tryd.func20, Tryd.ntmps20
    repeat ((fail_if_success (with_reducible show wpList _ _ _ (List.cons _ _) _ _)); (fail_if_success (with_reducible show Code.wp _ (Code.region _ _ true) _ _ _)); go_step)
    (with_reducible refine' wl_valS ?_ ?_ ?_); rotate_left; exact rfl; exact (v_moveC (.inr rfl))
    simp only [Act.put, List.setIfInBounds_toArray, List.set_cons_zero, List.set_cons_succ]
    repeat ((fail_if_success (with_reducible show wpList _ _ _ (List.cons _ _) _ _)); (fail_if_success (with_reducible show Code.wp _ (Code.region _ _ true) _ _ _)); go_step)
    (with_reducible refine' wl_valS ?_ ?_ ?_); rotate_left; exact rfl; exact (v_moveT (.inl rfl) rfl)
    simp only [Act.put, List.setIfInBounds_toArray, List.set_cons_zero, List.set_cons_succ]
    (with_reducible refine' wl_valS ?_ ?_ ?_); rotate_left; exact rfl; exact (v_geqI (n := 0) rfl rfl rfl)
    simp only [Act.put, List.setIfInBounds_toArray, List.set_cons_zero, List.set_cons_succ]
    rw [d1.out]
    (with_reducible refine' wl_valS ?_ ?_ ?_); rotate_left; exact rfl; exact (v_moveT (.inl rfl) rfl)
    simp only [Act.put, List.setIfInBounds_toArray, List.set_cons_zero, List.set_cons_succ]
    (with_reducible refine wl_skipS ?_ ?_); exact rfl
    simp only [Act.put, List.setIfInBounds_toArray, List.set_cons_zero, List.set_cons_succ]
    (with_reducible refine wl_skipS ?_ ?_); exact rfl
    simp only [Act.put, List.setIfInBounds_toArray, List.set_cons_zero, List.set_cons_succ]
    (with_reducible refine wl_skipS ?_ ?_); exact rfl
    simp only [Act.put, List.setIfInBounds_toArray, List.set_cons_zero, List.set_cons_succ]
    (with_reducible refine wl_skipS ?_ ?_); exact rfl
    simp only [Act.put, List.setIfInBounds_toArray, List.set_cons_zero, List.set_cons_succ]
    (with_reducible refine wl_skipS ?_ ?_); exact rfl
    simp only [Act.put, List.setIfInBounds_toArray, List.set_cons_zero, List.set_cons_succ]
    (with_reducible refine wl_skipS ?_ ?_); exact rfl
    simp only [Act.put, List.setIfInBounds_toArray, List.set_cons_zero, List.set_cons_succ]
    (with_reducible refine wl_skipS ?_ ?_); exact rfl
    simp only [Act.put, List.setIfInBounds_toArray, List.set_cons_zero, List.set_cons_succ]
    (with_reducible refine' wl_valS ?_ ?_ ?_); rotate_left; exact rfl; exact (v_andF rfl rfl)
    simp only [Act.put, List.setIfInBounds_toArray, List.set_cons_zero, List.set_cons_succ]
    (with_reducible refine' wl_valS ?_ ?_ ?_); rotate_left; exact rfl; exact (v_moveT (.inr rfl) rfl)
    simp only [Act.put, List.setIfInBounds_toArray, List.set_cons_zero, List.set_cons_succ]
    repeat ((fail_if_success (with_reducible show wpList _ _ _ (List.cons _ _) _ _)); (fail_if_success (with_reducible show Code.wp _ (Code.region _ _ true) _ _ _)); go_step)
    go_returns
    exact ⟨rfl, hE0.below⟩
set_option maxHeartbeats 4000000 in
theorem rSend_no {w0 w : World} {g most : Nat} {M : List PV} {m : PV} {R bs : List Blk} {v : Value} (hO : Oz 3 43 M.length (pcells M) v bs) (hone : m.sl.oneCell' = true)
    (hE : Env w0 (rnb g v most :: (bs ++ R)) w) (hM : most ≤ M.length) (hm : M.length < 1000000) :
    Calls Tryd.prog 23 #[.pointer (some ⟨g, 0, none⟩), .agg #[.int .i64 m.fr, .int .i64 m.to, m.sl]] w fun e w' => e = .returned (.bool false) ∧ Env w0 (rnb g v most :: (bs ++ R)) w' := by
  obtain ⟨p, c, rfl, hc⟩ := hO.len
  have hm63 : M.length < 9223372036854775808 := by omega
  have d1 := Lib.hid (decide_eq_true hM)
  have hone3 : (#[Value.int .i64 m.fr, .int .i64 m.to, m.sl]).all (·.oneCell') = true := by
    simp [hone]
    exact ⟨rfl, rfl⟩
  have hE0 := hE
  clear hE
  go_enter Tryd.func23, Tryd.ntmps23
  repeat ((fail_if_success (with_reducible show wpList _ _ _ (List.cons _ _) _ _)); (fail_if_success (with_reducible show Code.wp _ (Code.region _ _ true) _ _ _)); go_step)
  refine wl_step (st_boxA hE0 rfl rfl rfl ?_)
  intro g0 w1 hb1 hE1
  clear hE0
  simp only [Act.put, List.setIfInBounds_toArray, List.set_cons_zero, List.set_cons_succ]
  (with_reducible refine' wl_valS ?_ ?_ ?_); rotate_left; exact rfl; exact (v_moveC (.inr rfl))
  simp only [Act.put, List.setIfInBounds_toArray, List.set_cons_zero, List.set_cons_succ]
  repeat ((fail_if_success (with_reducible show wpList _ _ _ (List.cons _ _) _ _)); (fail_if_success (with_reducible show Code.wp _ (Code.region _ _ true) _ _ _)); go_step)
  refine wp_region_B (n := 10) 10 (by kernel_rfl) rfl hE1 ?_
  intro w2 hb2 hE2
  clear hE1
  refine wpB_take (i := 0) (by kernel_rfl) rfl (by kernel_rfl) (fun _ _ _ h => h) rfl (v_moveT (.inl rfl) rfl) ?_
  simp only [Act.put, List.setIfInBounds_toArray, List.set_cons_zero, List.set_cons_succ]
  refine wpB_take (i := 1) (by kernel_rfl) rfl (by kernel_rfl) (fun _ _ _ h => h) rfl (v_nil rfl rfl) ?_
  simp only [Act.put, List.setIfInBounds_toArray, List.set_cons_zero, List.set_cons_succ]
  refine wpB_take (i := 2) (by kernel_rfl) rfl (by kernel_rfl) (fun _ _ _ h => h) rfl (v_field0 (s := 0) rfl rfl Tryd.underlying33 rfl (by kernel_rfl) rfl) ?_
  simp only [Act.put, List.setIfInBounds_toArray, List.set_cons_zero, List.set_cons_succ]
  refine wpB_take (i := 3) (by kernel_rfl) rfl (by kernel_rfl) (fun _ _ _ h => h) rfl (v_cellB (v := .slice p M.length c) (i := 1) hE2 rfl rfl rfl Tryd.underlying31 rfl rfl) ?_
  simp only [Act.put, List.setIfInBounds_toArray, List.set_cons_zero, List.set_cons_succ]
  refine wpB_take (i := 4) (by kernel_rfl) rfl (by kernel_rfl) (fun _ _ _ h => h) rfl (v_len rfl rfl Tryd.underlying31 hm63) ?_
  simp only [Act.put, List.setIfInBounds_toArray, List.set_cons_zero, List.set_cons_succ]
  refine wpB_take (i := 5) (by kernel_rfl) rfl (by kernel_rfl) (fun _ _ _ h => h) rfl (v_moveT (.inl rfl) rfl) ?_
  simp only [Act.put, List.setIfInBounds_toArray, List.set_cons_zero, List.set_cons_succ]
  refine wpB_take (i := 6) (by kernel_rfl) rfl (by kernel_rfl) (fun _ _ _ h => h) rfl (v_nil rfl rfl) ?_
  simp only [Act.put, List.setIfInBounds_toArray, List.set_cons_zero, List.set_cons_succ]
  refine wpB_take (i := 7) (by kernel_rfl) rfl (by kernel_rfl) (fun _ _ _ h => h) rfl (v_fieldB (s := 0) rfl rfl Tryd.underlying33 rfl (by kernel_rfl) rfl) ?_
  simp only [Act.put, List.setIfInBounds_toArray, List.set_cons_zero, List.set_cons_succ]
  refine wpB_take (i := 8) (by kernel_rfl) rfl (by kernel_rfl) (fun _ _ _ h => h) rfl (v_cellB (v := .int .i64 (most : Int)) (i := 1) hE2 rfl rfl rfl Tryd.underlying3 rfl rfl) ?_
  simp only [Act.put, List.setIfInBounds_toArray, List.set_cons_zero, List.set_cons_succ]
  refine wpB_take (i := 9) (by kernel_rfl) rfl (by kernel_rfl) (fun _ _ _ h => h) rfl (v_geq (m := M.length) (n := most) rfl rfl rfl) ?_
  simp only [Act.put, List.setIfInBounds_toArray, List.set_cons_zero, List.set_cons_succ]
  rw [d1.out]
  refine wpB_done (by kernel_rfl) ?_ _
  repeat ((fail_if_success (with_reducible show wpList _ _ _ (List.cons _ _) _ _)); (fail_if_success (with_reducible show Code.wp _ (Code.region _ _ true) _ _ _)); (fail_if_success (with_reducible show Code.wp _ (Code.cond _ _ _) _ _ _)); go_step)
  refine wp_cond_true (by first | rfl | exact congrArg Value.bool (decide_eq_true (by omega))) ?_
  skip
  repeat ((fail_if_success (with_reducible show wpList _ _ _ (List.cons _ _) _ _)); (fail_if_success (with_reducible show Code.wp _ (Code.region _ _ true) _ _ _)); go_step)
  (with_reducible refine' wl_valS ?_ ?_ ?_); rotate_left; exact rfl; exact (v_moveC (.inr rfl))
  simp only [Act.put, List.setIfInBounds_toArray, List.set_cons_zero, List.set_cons_succ]
  repeat ((fail_if_success (with_reducible show wpList _ _ _ (List.cons _ _) _ _)); (fail_if_success (with_reducible show Code.wp _ (Code.region _ _ true) _ _ _)); (fail_if_success (with_reducible show Code.wp _ (Code.cond _ _ _) _ _ _)); go_step)
  go_returns
  exact ⟨rfl, (hE2).sub (List.sublist_cons_self _ _)⟩
theorem pmQ1 (a b n : Blk) (y R : List Blk) : (a :: (b :: (n :: (y ++ R)))).Perm (y ++ (a :: (b :: (n :: R)))) := by
  classical
  exact List.perm_iff_count.2 fun c => by simp only [List.count_append, List.count_cons]; omega
theorem pmQ2 (a d b n : Blk) (y R : List Blk) : (a :: (d :: (b :: (n :: (y ++ R))))).Perm (y ++ (a :: (d :: (b :: (n :: R))))) := by
  classical
  exact List.perm_iff_count.2 fun c => by simp only [List.count_append, List.count_cons]; omega
theorem pmS (B8 B n : Blk) (x y R : List Blk) : (x ++ (B8 :: (B :: (n :: (y ++ R))))).Perm (n :: (x ++ (B8 :: (B :: (y ++ R))))) := by
  classical
  exact List.perm_iff_count.2 fun c => by simp only [List.count_append, List.count_cons]; omega
theorem slS (B8 B n : Blk) (x y R : List Blk) : (n :: (x ++ R)).Sublist (n :: (x ++ (B8 :: (B :: (y ++ R))))) :=
  List.Sublist.cons_cons _ (List.Sublist.append_left (List.Sublist.cons _ (List.Sublist.cons _ (List.sublist_append_right _ _))) _)
set_option maxHeartbeats 8000000 in
theorem rSend_yes {w0 w : World} {g most : Nat} {M : List PV} {m : PV} {R bs : List Blk} {v : Value} (hO : Oz 3 43 M.length (pcells M) v bs) (hones : ∀ u ∈ pcells M, u.oneCell' = true) (hone : m.sl.oneCell' = true)
    (hE : Env w0 (rnb g v most :: (bs ++ R)) w) (hM : M.length < most) (hm : most ≤ 64) :
    Calls Tryd.prog 23 #[.pointer (some ⟨g, 0, none⟩), .agg #[.int .i64 m.fr, .int .i64 m.to, m.sl]] w fun e w' => e = .returned (.bool true) ∧ ∃ v' bo, Oz 3 43 (M ++ [m]).length (pcells (M ++ [m])) v' bo ∧ Env w0 (rnb g v' most :: (bo ++ R)) w' := by
  obtain ⟨i0, hi0, hz0, hs0, hb0⟩ := info_packet
  obtain ⟨p, c, rfl, hc⟩ := hO.len
  have hm63 : M.length < 9223372036854775808 := by omega
  have d1 := Lib.hid (decide_eq_false (show ¬ most ≤ M.length by omega))
  have hone3 : (#[Value.int .i64 m.fr, .int .i64 m.to, m.sl]).all (·.oneCell') = true := by
    simp [hone]
    exact ⟨rfl, rfl⟩
  have honeL : ∀ u ∈ [Value.int .i64 m.fr, .int .i64 m.to, m.sl], u.oneCell' = true := fun u hu => by
    simp only [List.mem_cons, List.not_mem_nil, or_false] at hu
    rcases hu with rfl | rfl | rfl
    · rfl
    · rfl
    · exact hone
  have hrd : ∀ w' l, Env w0 (bs ++ l) w' → RdZ 3 M.length (pcells M) (.slice p M.length c) w' := fun w' l h => hO.rd h
  have Hrd := Lib.hid hrd
  have HO := Lib.hid hO
  have Hones := Lib.hid hones
  have Hi := Lib.hid hi0
  have Hz := Lib.hid hz0
  have Hs := Lib.hid hs0
  have Hb := Lib.hid hb0
  have hl1 : M.length ≤ maxLen := by simp only [maxLen]; omega
  have hl2 : M.length * 40 ≤ 140737488355328 := by omega
  have hl3 : M.length + 1 ≤ maxLen := by simp only [maxLen]; omega
  have hl4 : (M.length + 1) * 40 ≤ 140737488355328 := by omega
  have hE0 := hE
  clear hE hi0 hz0 hs0 hb0 hO hrd hones
  go_enter Tryd.func23, Tryd.ntmps23
  repeat ((fail_if_success (with_reducible show wpList _ _ _ (List.cons _ _) _ _)); (fail_if_success (with_reducible show Code.wp _ (Code.region _ _ true) _ _ _)); go_step)
  refine wl_step (st_boxA hE0 rfl rfl rfl ?_)
  intro g0 w1 hb1 hE1
  clear hE0
  simp only [Act.put, List.setIfInBounds_toArray, List.set_cons_zero, List.set_cons_succ]
  (with_reducible refine' wl_valS ?_ ?_ ?_); rotate_left; exact rfl; exact (v_moveC (.inr rfl))
  simp only [Act.put, List.setIfInBounds_toArray, List.set_cons_zero, List.set_cons_succ]
  repeat ((fail_if_success (with_reducible show wpList _ _ _ (List.cons _ _) _ _)); (fail_if_success (with_reducible show Code.wp _ (Code.region _ _ true) _ _ _)); go_step)
  refine wp_region_B (n := 10) 10 (by kernel_rfl) rfl hE1 ?_
  intro w2 hb2 hE2
  clear hE1
  refine wpB_take (i := 0) (by kernel_rfl) rfl (by kernel_rfl) (fun _ _ _ h => h) rfl (v_moveT (.inl rfl) rfl) ?_
  simp only [Act.put, List.setIfInBounds_toArray, List.set_cons_zero, List.set_cons_succ]
  refine wpB_take (i := 1) (by kernel_rfl) rfl (by kernel_rfl) (fun _ _ _ h => h) rfl (v_nil rfl rfl) ?_
  simp only [Act.put, List.setIfInBounds_toArray, List.set_cons_zero, List.set_cons_succ]
  refine wpB_take (i := 2) (by kernel_rfl) rfl (by kernel_rfl) (fun _ _ _ h => h) rfl (v_field0 (s := 0) rfl rfl Tryd.underlying33 rfl (by kernel_rfl) rfl) ?_
  simp only [Act.put, List.setIfInBounds_toArray, List.set_cons_zero, List.set_cons_succ]
  refine wpB_take (i := 3) (by kernel_rfl) rfl (by kernel_rfl) (fun _ _ _ h => h) rfl (v_cellB (v := .slice p M.length c) (i := 1) hE2 rfl rfl rfl Tryd.underlying31 rfl rfl) ?_
  simp only [Act.put, List.setIfInBounds_toArray, List.set_cons_zero, List.set_cons_succ]
  refine wpB_take (i := 4) (by kernel_rfl) rfl (by kernel_rfl) (fun _ _ _ h => h) rfl (v_len rfl rfl Tryd.underlying31 hm63) ?_
  simp only [Act.put, List.setIfInBounds_toArray, List.set_cons_zero, List.set_cons_succ]
  refine wpB_take (i := 5) (by kernel_rfl) rfl (by kernel_rfl) (fun _ _ _ h => h) rfl (v_moveT (.inl rfl) rfl) ?_
  simp only [Act.put, List.setIfInBounds_toArray, List.set_cons_zero, List.set_cons_succ]
  refine wpB_take (i := 6) (by kernel_rfl) rfl (by kernel_rfl) (fun _ _ _ h => h) rfl (v_nil rfl rfl) ?_
  simp only [Act.put, List.setIfInBounds_toArray, List.set_cons_zero, List.set_cons_succ]
  refine wpB_take (i := 7) (by kernel_rfl) rfl (by kernel_rfl) (fun _ _ _ h => h) rfl (v_fieldB (s := 0) rfl rfl Tryd.underlying33 rfl (by kernel_rfl) rfl) ?_
  simp only [Act.put, List.setIfInBounds_toArray, List.set_cons_zero, List.set_cons_succ]
  refine wpB_take (i := 8) (by kernel_rfl) rfl (by kernel_rfl) (fun _ _ _ h => h) rfl (v_cellB (v := .int .i64 (most : Int)) (i := 1) hE2 rfl rfl rfl Tryd.underlying3 rfl rfl) ?_
  simp only [Act.put, List.setIfInBounds_toArray, List.set_cons_zero, List.set_cons_succ]
  refine wpB_take (i := 9) (by kernel_rfl) rfl (by kernel_rfl) (fun _ _ _ h => h) rfl (v_geq (m := M.length) (n := most) rfl rfl rfl) ?_
  simp only [Act.put, List.setIfInBounds_toArray, List.set_cons_zero, List.set_cons_succ]
  rw [d1.out]
  refine wpB_done (by kernel_rfl) ?_ _
  repeat ((fail_if_success (with_reducible show wpList _ _ _ (List.cons _ _) _ _)); (fail_if_success (with_reducible show Code.wp _ (Code.region _ _ true) _ _ _)); (fail_if_success (with_reducible show Code.wp _ (Code.cond _ _ _) _ _ _)); go_step)
  refine wp_cond_false (by first | rfl | exact congrArg Value.bool (decide_eq_false (by omega))) ?_
  skip
  repeat ((fail_if_success (with_reducible show wpList _ _ _ (List.cons _ _) _ _)); (fail_if_success (with_reducible show Code.wp _ (Code.region _ _ true) _ _ _)); go_step)
  refine wp_region_B (n := 13) 9 (by kernel_rfl) rfl hE2 ?_
  intro w3 hb3 hE3
  clear hE2
  refine wpB_take1 (i := 2) (by kernel_rfl) rfl (by kernel_rfl) (fun _ _ _ h => h) rfl (v_moveT (.inl rfl) rfl) ?_
  simp only [Act.put, List.setIfInBounds_toArray, List.set_cons_zero, List.set_cons_succ]
  refine wpB_take1 (i := 3) (by kernel_rfl) rfl (by kernel_rfl) (fun _ _ _ h => h) rfl (v_nil rfl rfl) ?_
  simp only [Act.put, List.setIfInBounds_toArray, List.set_cons_zero, List.set_cons_succ]
  refine wpB_take1 (i := 4) (by kernel_rfl) rfl (by kernel_rfl) (fun _ _ _ h => h) rfl (v_field0 (s := 0) rfl rfl Tryd.underlying33 rfl (by kernel_rfl) rfl) ?_
  simp only [Act.put, List.setIfInBounds_toArray, List.set_cons_zero, List.set_cons_succ]
  refine wpB_take1 (i := 5) (by kernel_rfl) rfl (by kernel_rfl) (fun _ _ _ h => h) rfl (v_cellB (v := .slice p M.length c) (i := 1) hE3 rfl rfl rfl Tryd.underlying31 rfl rfl) ?_
  simp only [Act.put, List.setIfInBounds_toArray, List.set_cons_zero, List.set_cons_succ]
  refine wpB_take1 (i := 7) (by kernel_rfl) rfl (by kernel_rfl) (fun _ _ _ h => h) rfl (v_load (i := 0) hE3 rfl rfl rfl Tryd.underlying43 rfl (sz_of (n := 3) (by kernel_rfl) rfl)) ?_
  simp only [Act.put, List.setIfInBounds_toArray, List.set_cons_zero, List.set_cons_succ]
  refine wpB_takeU (i := 0) rfl (by kernel_rfl) (fun _ _ _ h => h) rfl (fun _ => (v_moveT (.inl rfl) rfl)) ?_
  simp only [Act.put, List.setIfInBounds_toArray, List.set_cons_zero, List.set_cons_succ]
  refine wpB_step2 (i := 1) (j := 8) (by kernel_rfl) rfl rfl ?br1a ?br1b
  case' br1a =>
    refine st_build0Z (s := 3) hE3 rfl rfl Tryd.underlying31 (by kernel_rfl) ?_
    intro g1 w4 hb4 hE4
    clear hE3
    refine ⟨fun _ => hb4, ?_⟩
    simp only [Act.put, List.setIfInBounds_toArray, List.set_cons_zero, List.set_cons_succ]
    refine wpB_step2 (i := 6) (j := 8) (by kernel_rfl) rfl rfl ?br2a ?br2b
    case' br2a =>
      refine st_append0 (by first | exact hE4 | exact hE4.perm (List.Perm.swap _ _ _)) rfl rfl Tryd.underlying31 Hi.out Hz.out Hs.out rfl Hb.out rfl rfl (by first | exact Hrd.out _ _ (hE4.perm (pmQ1 ..)) | exact Hrd.out _ _ (hE4.perm (pmQ2 ..))) Hones.out hl1 hl2 ?_
      intro v21 w5 bo21 hb5 hO21 hE5
      clear hE4
      refine ⟨fun _ => hb5, ?_⟩
      simp only [Act.put, List.setIfInBounds_toArray, List.set_cons_zero, List.set_cons_succ]
      refine wpB_step (i := 8) (by kernel_rfl) rfl (st_oneP [[Value.int .i64 m.fr, Value.int .i64 m.to, m.sl]] hE5 rfl rfl (by simp only [List.map_cons, List.map_nil, List.zipIdx_cons, List.zipIdx_nil]; rfl) rfl (by decide) (by decide) Tryd.underlying31 (by kernel_rfl) Tryd.zeroValue43 (fun r hr => by rw [List.mem_singleton.1 hr]; rfl) ?_)
      intro g2 w6 hb6 hE6
      clear hE5
      refine ⟨fun _ => hb6, ?_⟩
      simp only [Act.put, List.setIfInBounds_toArray, List.set_cons_zero, List.set_cons_succ]
      refine wpB_step (i := 9) (by kernel_rfl) rfl (st_appendOz hO21 (by first | exact hE6 | exact hE6.perm List.perm_middle.symm) rfl rfl Tryd.underlying31 Hi.out Hz.out Hs.out rfl Hb.out rfl rfl (by first | exact RdZ.of_block (hE6.get (i := 0) rfl) rfl | exact RdZ.of_block ((hE6.perm List.perm_middle).get (i := 0) rfl) rfl) honeL hl3 hl4 ?_)
      intro vA w7 boA hOzA hE7
      clear hE6
      refine ⟨fun h => absurd h (by decide), ?_⟩
      simp only [Act.put, List.setIfInBounds_toArray, List.set_cons_zero, List.set_cons_succ]
      replace hE7 := (hE7.perm (pmS ..)).sub (slS ..)
      have hvA : vA.oneCell' = true ∧ vA.cells = #[vA] := by { obtain ⟨pA, cA, h, -⟩ := hOzA.len; rw [h]; exact ⟨rfl, rfl⟩ }
      refine wpB_takeU (i := 10) rfl (by kernel_rfl) (fun _ _ _ h => h) rfl (fun _ => (v_nil rfl rfl)) ?_
      simp only [Act.put, List.setIfInBounds_toArray, List.set_cons_zero, List.set_cons_succ]
      refine wpB_takeU (i := 11) rfl (by kernel_rfl) (fun _ _ _ h => h) rfl (fun _ => (v_field0 (s := 0) rfl rfl Tryd.underlying33 rfl (by kernel_rfl) rfl)) ?_
      simp only [Act.put, List.setIfInBounds_toArray, List.set_cons_zero, List.set_cons_succ]
      refine wpB_step (i := 12) (by kernel_rfl) rfl (st_put (v := vA) (i := 0) hE7 rfl rfl rfl rfl rfl (by kernel_rfl) hvA.2 hvA.1 (show 0 < 2 by decide) ?_)
      intro w8 hE8
      clear hE7
      simp only [List.setIfInBounds_toArray, List.set_cons_zero] at hE8
      refine ⟨fun h => absurd h (by decide), ?_⟩
      simp only [Act.put, List.setIfInBounds_toArray, List.set_cons_zero, List.set_cons_succ]
      refine wpB_done (by kernel_rfl) ?_ _
    case' br2b =>
      refine st_oneP [[Value.int .i64 m.fr, Value.int .i64 m.to, m.sl]] hE4 rfl rfl (by simp only [List.map_cons, List.map_nil, List.zipIdx_cons, List.zipIdx_nil]; rfl) rfl (by decide) (by decide) Tryd.underlying31 (by kernel_rfl) Tryd.zeroValue43 (fun r hr => by rw [List.mem_singleton.1 hr]; rfl) ?_
      intro g2 w5 hb5 hE5
      clear hE4
      refine ⟨fun _ => hb5, ?_⟩
      simp only [Act.put, List.setIfInBounds_toArray, List.set_cons_zero, List.set_cons_succ]
      refine wpB_step (i := 6) (by kernel_rfl) rfl (st_append0 (by first | exact hE5 | exact hE5.perm (List.Perm.swap _ _ _)) rfl rfl Tryd.underlying31 Hi.out Hz.out Hs.out rfl Hb.out rfl rfl (by first | exact Hrd.out _ _ (hE5.perm (pmQ1 ..)) | exact Hrd.out _ _ (hE5.perm (pmQ2 ..))) Hones.out hl1 hl2 ?_)
      intro v21 w6 bo21 hb6 hO21 hE6
      clear hE5
      refine ⟨fun _ => hb6, ?_⟩
      simp only [Act.put, List.setIfInBounds_toArray, List.set_cons_zero, List.set_cons_succ]
      refine wpB_step (i := 9) (by kernel_rfl) rfl (st_appendOz hO21 (by first | exact hE6 | exact hE6.perm List.perm_middle.symm) rfl rfl Tryd.underlying31 Hi.out Hz.out Hs.out rfl Hb.out rfl rfl (by first | exact RdZ.of_block (hE6.get (i := 0) rfl) rfl | exact RdZ.of_block ((hE6.perm List.perm_middle).get (i := 0) rfl) rfl) honeL hl3 hl4 ?_)
      intro vA w7 boA hOzA hE7
      clear hE6
      refine ⟨fun h => absurd h (by decide), ?_⟩
      simp only [Act.put, List.setIfInBounds_toArray, List.set_cons_zero, List.set_cons_succ]
      replace hE7 := (hE7.perm (pmS ..)).sub (slS ..)
      have hvA : vA.oneCell' = true ∧ vA.cells = #[vA] := by { obtain ⟨pA, cA, h, -⟩ := hOzA.len; rw [h]; exact ⟨rfl, rfl⟩ }
      refine wpB_takeU (i := 10) rfl (by kernel_rfl) (fun _ _ _ h => h) rfl (fun _ => (v_nil rfl rfl)) ?_
      simp only [Act.put, List.setIfInBounds_toArray, List.set_cons_zero, List.set_cons_succ]
      refine wpB_takeU (i := 11) rfl (by kernel_rfl) (fun _ _ _ h => h) rfl (fun _ => (v_field0 (s := 0) rfl rfl Tryd.underlying33 rfl (by kernel_rfl) rfl)) ?_
      simp only [Act.put, List.setIfInBounds_toArray, List.set_cons_zero, List.set_cons_succ]
      refine wpB_step (i := 12) (by kernel_rfl) rfl (st_put (v := vA) (i := 0) hE7 rfl rfl rfl rfl rfl (by kernel_rfl) hvA.2 hvA.1 (show 0 < 2 by decide) ?_)
      intro w8 hE8
      clear hE7
      simp only [List.setIfInBounds_toArray, List.set_cons_zero] at hE8
      refine ⟨fun h => absurd h (by decide), ?_⟩
      simp only [Act.put, List.setIfInBounds_toArray, List.set_cons_zero, List.set_cons_succ]
      refine wpB_done (by kernel_rfl) ?_ _
  case' br1b =>
    refine st_oneP [[Value.int .i64 m.fr, Value.int .i64 m.to, m.sl]] hE3 rfl rfl (by simp only [List.map_cons, List.map_nil, List.zipIdx_cons, List.zipIdx_nil]; rfl) rfl (by decide) (by decide) Tryd.underlying31 (by kernel_rfl) Tryd.zeroValue43 (fun r hr => by rw [List.mem_singleton.1 hr]; rfl) ?_
    intro g1 w4 hb4 hE4
    clear hE3
    refine ⟨fun _ => hb4, ?_⟩
    simp only [Act.put, List.setIfInBounds_toArray, List.set_cons_zero, List.set_cons_succ]
    refine wpB_step (i := 1) (by kernel_rfl) rfl (st_build0Z (s := 3) hE4 rfl rfl Tryd.underlying31 (by kernel_rfl) ?_)
    intro g2 w5 hb5 hE5
    clear hE4
    refine ⟨fun _ => hb5, ?_⟩
    simp only [Act.put, List.setIfInBounds_toArray, List.set_cons_zero, List.set_cons_succ]
    refine wpB_step (i := 6) (by kernel_rfl) rfl (st_append0 (by first | exact hE5 | exact hE5.perm (List.Perm.swap _ _ _)) rfl rfl Tryd.underlying31 Hi.out Hz.out Hs.out rfl Hb.out rfl rfl (by first | exact Hrd.out _ _ (hE5.perm (pmQ1 ..)) | exact Hrd.out _ _ (hE5.perm (pmQ2 ..))) Hones.out hl1 hl2 ?_)
    intro v21 w6 bo21 hb6 hO21 hE6
    clear hE5
    refine ⟨fun _ => hb6, ?_⟩
    simp only [Act.put, List.setIfInBounds_toArray, List.set_cons_zero, List.set_cons_succ]
    refine wpB_step (i := 9) (by kernel_rfl) rfl (st_appendOz hO21 (by first | exact hE6 | exact hE6.perm List.perm_middle.symm) rfl rfl Tryd.underlying31 Hi.out Hz.out Hs.out rfl Hb.out rfl rfl (by first | exact RdZ.of_block (hE6.get (i := 0) rfl) rfl | exact RdZ.of_block ((hE6.perm List.perm_middle).get (i := 0) rfl) rfl) honeL hl3 hl4 ?_)
    intro vA w7 boA hOzA hE7
    clear hE6
    refine ⟨fun h => absurd h (by decide), ?_⟩
    simp only [Act.put, List.setIfInBounds_toArray, List.set_cons_zero, List.set_cons_succ]
    replace hE7 := (hE7.perm (pmS ..)).sub (slS ..)
    have hvA : vA.oneCell' = true ∧ vA.cells = #[vA] := by { obtain ⟨pA, cA, h, -⟩ := hOzA.len; rw [h]; exact ⟨rfl, rfl⟩ }
    refine wpB_takeU (i := 10) rfl (by kernel_rfl) (fun _ _ _ h => h) rfl (fun _ => (v_nil rfl rfl)) ?_
    simp only [Act.put, List.setIfInBounds_toArray, List.set_cons_zero, List.set_cons_succ]
    refine wpB_takeU (i := 11) rfl (by kernel_rfl) (fun _ _ _ h => h) rfl (fun _ => (v_field0 (s := 0) rfl rfl Tryd.underlying33 rfl (by kernel_rfl) rfl)) ?_
    simp only [Act.put, List.setIfInBounds_toArray, List.set_cons_zero, List.set_cons_succ]
    refine wpB_step (i := 12) (by kernel_rfl) rfl (st_put (v := vA) (i := 0) hE7 rfl rfl rfl rfl rfl (by kernel_rfl) hvA.2 hvA.1 (show 0 < 2 by decide) ?_)
    intro w8 hE8
    clear hE7
    simp only [List.setIfInBounds_toArray, List.set_cons_zero] at hE8
    refine ⟨fun h => absurd h (by decide), ?_⟩
    simp only [Act.put, List.setIfInBounds_toArray, List.set_cons_zero, List.set_cons_succ]
    refine wpB_done (by kernel_rfl) ?_ _
  all_goals
    repeat ((fail_if_success (with_reducible show wpList _ _ _ (List.cons _ _) _ _)); (fail_if_success (with_reducible show Code.wp _ (Code.region _ _ true) _ _ _)); go_step)
    (with_reducible refine' wl_valS ?_ ?_ ?_); rotate_left; exact rfl; exact (v_moveC (.inr rfl))
    simp only [Act.put, List.setIfInBounds_toArray, List.set_cons_zero, List.set_cons_succ]
    repeat ((fail_if_success (with_reducible show wpList _ _ _ (List.cons _ _) _ _)); (fail_if_success (with_reducible show Code.wp _ (Code.region _ _ true) _ _ _)); (fail_if_success (with_reducible show Code.wp _ (Code.cond _ _ _) _ _ _)); go_step)
    go_returns
    exact ⟨rfl, vA, boA, by rw [List.length_append, ← pcells_snoc]; exact hOzA, hE8⟩
end Go.Proofs.YtnbbehgcnodfbaaDoor
