/-
  Layer 28: slices of packets cut; an append within a row; cells set to zero; slices.Delete of one packet.
-/
import Derived.Test.YtnbbehgcnodfbaaDoorNetA
namespace Go.Proofs.YtnbbehgcnodfbaaDoor
open Go.RowKit
set_option maxRecDepth 100000
set_option linter.unusedVariables false
set_option linter.unusedSimpArgs false

section
variable {P : Program} {ops : Array Oper} {Q : Exit → Act → World → Prop} {a : Act} {w w0 : World} {l : List Blk} {o : Oper} {v : Value} {K : Act → World → Prop} {s : Nat}
theorem v_sliceHZ {t e : TypeId} {x z : Operand} {k' : IntKind} {g off n c hi : Nat} (ho : o.op = .slice t x none (some z) none) (hx : a.eval x = .slice (some ⟨g, off, none⟩) n c) (hz : a.eval z = .int k' (hi : Int))
    (ht : P.underlying t = some (.slice e)) (hs : (P.info? e).map (·.size) = some s) (h2 : hi ≤ c) : Val P o a (.slice (some ⟨g, off, none⟩) hi c) w := v_run fun w => by
  unfold execOp
  simp [ho, hx, hz, Instr.sliceAt, Instr.slice, run_underlying ht, size_run hs, Instr.sliceBounds, run_sliceBound, Sem.run_bind, Sem.run_pure, h2, Addr.add]
theorem v_sliceLZ {t e : TypeId} {x y : Operand} {k : IntKind} {g off n c lo : Nat} (ho : o.op = .slice t x (some y) none none) (hx : a.eval x = .slice (some ⟨g, off, none⟩) n c) (hy : a.eval y = .int k (lo : Int))
    (ht : P.underlying t = some (.slice e)) (hs : (P.info? e).map (·.size) = some s) (h1 : lo ≤ n) : Val P o a (.slice (some ⟨g, if c = lo then off else off + lo * s, none⟩) (n - lo) (c - lo)) w := v_run fun w => by
  unfold execOp
  by_cases hc : c = lo
  · simp [ho, hx, hy, Instr.sliceAt, Instr.slice, run_underlying ht, size_run hs, Instr.sliceBounds, run_sliceBound, Sem.run_bind, Sem.run_pure, h1, Addr.add, hc]
  · simp [ho, hx, hy, Instr.sliceAt, Instr.slice, run_underlying ht, size_run hs, Instr.sliceBounds, run_sliceBound, Sem.run_bind, Sem.run_pure, h1, Addr.add, hc]
theorem v_sliceLHZ {t e : TypeId} {x y z : Operand} {k k' : IntKind} {g off n c lo hi : Nat} (ho : o.op = .slice t x (some y) (some z) none) (hx : a.eval x = .slice (some ⟨g, off, none⟩) n c) (hy : a.eval y = .int k (lo : Int)) (hz : a.eval z = .int k' (hi : Int))
    (ht : P.underlying t = some (.slice e)) (hs : (P.info? e).map (·.size) = some s) (h1 : lo ≤ hi) (h2 : hi ≤ c) (h3 : lo < c) : Val P o a (.slice (some ⟨g, off + lo * s, none⟩) (hi - lo) (c - lo)) w := v_run fun w => by
  have hc : ¬ c = lo := by omega
  unfold execOp
  simp [ho, hx, hy, hz, Instr.sliceAt, Instr.slice, run_underlying ht, size_run hs, Instr.sliceBounds, run_sliceBound, Sem.run_bind, Sem.run_pure, h1, h2, Addr.add, hc]
theorem v_slice3Z {t e : TypeId} {x y z u : Operand} {k k' k'' : IntKind} {g off n c lo hi mx : Nat} (ho : o.op = .slice t x (some y) (some z) (some u)) (hx : a.eval x = .slice (some ⟨g, off, none⟩) n c) (hy : a.eval y = .int k (lo : Int)) (hz : a.eval z = .int k' (hi : Int)) (hu : a.eval u = .int k'' (mx : Int))
    (ht : P.underlying t = some (.slice e)) (hs : (P.info? e).map (·.size) = some s) (h1 : lo ≤ hi) (h2 : hi ≤ mx) (h3 : mx ≤ c) (h4 : lo < mx) : Val P o a (.slice (some ⟨g, off + lo * s, none⟩) (hi - lo) (mx - lo)) w := v_run fun w => by
  have hc : ¬ mx = lo := by omega
  unfold execOp
  simp [ho, hx, hy, hz, hu, Instr.sliceAt, Instr.slice, run_underlying ht, size_run hs, Instr.sliceBounds, run_sliceBound, Sem.run_bind, Sem.run_pure, h1, h2, h3, Addr.add, hc]
/-- An append for which there is room. -/
theorem st_appendRoom {x y : Operand} {t e : TypeId} {i : TypeInfo} {g n cap m : Nat} {cs : Array Value} {news : List Value} {yv : Value} (hE : Env w0 (⟨g, e, cs⟩ :: l) w) (hw : Region.wanted o (yielded ops a.tmps) = true)
    (ho : o.op = .call { callee := .builtin .append, args := #[x, y], argTypes := #[t, t] }) (ht : P.underlying t = some (.slice e)) (hi : P.info? e = some i) (hsz : i.size = s)
    (hx : a.eval x = .slice (some ⟨g, 0, none⟩) n cap) (hy : a.eval y = yv) (hr : RdZ s m news yv w) (h1 : ∀ u ∈ news, u.oneCell' = true) (hroom : n + m ≤ cap) (hc : cs.size = cap * s)
    (kk : ∀ w', Env w0 (⟨g, e, (cs.toList.take (n * s) ++ news ++ cs.toList.drop (n * s + news.length)).toArray⟩ :: l) w' → K (a.put o.dst (.slice (some ⟨g, 0, none⟩) (n + m) cap)) w') : Step P ops Q o K a w := by
  obtain ⟨hnl, p, c, rfl, hcap, h3⟩ := hr
  rcases Nat.eq_zero_or_pos m with rfl | hm
  · have hnews : news = [] := List.eq_nil_of_length_eq_zero (by rw [hnl, Nat.zero_mul])
    subst hnews
    have e1 : (cs.toList.take (n * s) ++ [] ++ cs.toList.drop (n * s + ([] : List Value).length)).toArray = cs := by simp
    rw [e1] at kk
    refine st_run (w1 := w) (v := .slice (some ⟨g, 0, none⟩) (n + 0) cap) hw ?_ (kk _ hE)
    have hle : n ≤ cap := by omega
    unfold execOp
    cases p <;> simp [ho, resolve, invoke, builtin, Sem.run_bind, Sem.run_pure, Result.andThen_ok, hx, hy, Builtin.append_, run_underlying ht, sizeOf, typeInfo, hi, hsz, Builtin.lenOf, hle, Builtin.firstCells, storeCells, loadCells, loadCellsFrom]
  · rcases h3 with h3 | ⟨b, off, rfl, h5⟩
    · omega
    have hnews : ∀ j u, news[j]? = some u → w.cell? ((⟨b, off, none⟩ : Addr).add j) = some u := fun j u hj => by rw [addr_add]; exact h5 j u hj
    have hr := run_append_room (P := P) w t o.type e i ht hi g n cap cs (hE.get (i := 0) rfl) ⟨b, off, none⟩ m c news (by rw [hsz, hnl]) hnews h1 hroom (by rw [hsz, hnl, hc, ← Nat.add_mul]; exact Nat.mul_le_mul_right _ hroom)
    rw [hsz] at hr
    refine st_run hw ?_ (kk _ (hE.store (i := 0) rfl _))
    unfold execOp
    simp only [ho, resolve, invoke, builtin, Sem.run_bind, Sem.run_pure, Result.andThen_ok, List.map_toArray, List.map_cons, List.map_nil, hx, hy, hr]
/-- One element's cells set to zero. -/
theorem st_clear1 {x : Operand} {t e : TypeId} {g off c : Nat} {cs : Array Value} {z : Value} {zs : List Value} (hE : Env w0 (⟨g, e, cs⟩ :: l) w) (hw : Region.wanted o (yielded ops a.tmps) = true)
    (ho : o.op = .call { callee := .builtin .clear, args := #[x], argTypes := #[t] }) (hd : o.dst = none) (ht : P.underlying t = some (.slice e)) (hx : a.eval x = .slice (some ⟨g, off, none⟩) 1 c) (hz : ∀ w, (zeroValue e).run P w = .ok z w) (hzs : (Builtin.zeroCells z.cells 1).toList = zs) (h1 : ∀ u ∈ zs, u.oneCell' = true) (hfit : off + zs.length ≤ cs.size)
    (kk : ∀ w', Env w0 (⟨g, e, (cs.toList.take off ++ zs ++ cs.toList.drop (off + zs.length)).toArray⟩ :: l) w' → K a w') : Step P ops Q o K a w := by
  have hst := run_storeCells_at P g off e zs 0 cs w (hE.get (i := 0) rfl) (by simpa using hfit) h1
  simp only [Nat.add_zero] at hst
  have h := kk _ (hE.store (i := 0) rfl _)
  refine st_run (v := .tuple #[]) hw ?_ (by rw [hd]; exact h)
  unfold execOp
  simp [ho, resolve, invoke, builtin, Sem.run_bind, Sem.run_pure, Result.andThen_ok, hx, Builtin.clear_, run_underlying ht, hz, hzs, hst]
end
/-- The cells when element i is taken out: plain. -/
theorem cut_cells {X : List Value} {M : List PV} {i : Nat} {zs : List Value} (hX : X.take (M.length * 3) = pcells M) (hi : i < M.length) :
    let Y := X.take (i * 3) ++ pcells (M.drop (i + 1)) ++ X.drop (i * 3 + (pcells (M.drop (i + 1))).length)
    (Y.take ((M.length - 1) * 3) ++ zs ++ Y.drop ((M.length - 1) * 3 + zs.length)).take ((M.length - 1) * 3) = pcells (M.eraseIdx i) := by
  intro Y
  have h1 : X.take (i * 3) = pcells (M.take i) := by rw [← pcells_take, ← hX, List.take_take, Nat.min_eq_left (by omega)]
  have h2 : (pcells (M.take i) ++ pcells (M.drop (i + 1))).length = (M.length - 1) * 3 := by
    rw [List.length_append, pcells_len, pcells_len, List.length_take, List.length_drop]
    omega
  have hY : Y.take ((M.length - 1) * 3) = pcells (M.eraseIdx i) := by
    show (X.take (i * 3) ++ pcells (M.drop (i + 1)) ++ _).take _ = _
    rw [h1, ← h2, List.take_left, List.eraseIdx_eq_take_drop_succ, pcells_append]
  rw [hY]
  have h3 : (pcells (M.eraseIdx i)).length = (M.length - 1) * 3 := by rw [pcells_len, List.length_eraseIdx, if_pos hi]
  rw [List.append_assoc, ← h3, List.take_left]

set_option maxHeartbeats 4000000 in
theorem Delete_any {w0 w : World} {l bs : List Blk} {M : List PV} {v : Value} {i : Nat} (hO : Oz 3 43 M.length (pcells M) v bs) (hE : Env w0 (bs ++ l) w) (hone : ∀ u ∈ pcells M, u.oneCell' = true) (hi : i < M.length) (hM : M.length < 1000000) :
    Calls Tryd.prog 29 #[v, .int .i64 (i : Int), .int .i64 ((i + 1 : Nat) : Int)] w fun e w' => ∃ v' bs', e = .returned v' ∧ Oz 3 43 (M.eraseIdx i).length (pcells (M.eraseIdx i)) v' bs' ∧ Env w0 (bs' ++ l) w' := by
  obtain ⟨hl, ⟨-, h0, -⟩ | ⟨g, cap, cs, rfl, h2, h3, h4, h5, rfl⟩⟩ := hO
  · omega
  obtain ⟨i0, hi0, hz0, hs0, hb0⟩ : ∃ i, Tryd.prog.info? 43 = some i ∧ i.zero = some (.agg #[.int .i64 0, .int .i64 0, .slice none 0 0]) ∧ i.size = 3 ∧ i.bytes = 40 := info_parts (P := Tryd.prog) (by kernel_rfl)
  have hlen : (M.eraseIdx i).length = M.length - 1 := by rw [List.length_eraseIdx, if_pos hi]
  have hsp : 0 < M.length * 3 := by omega
  have hrd : ∀ (w' : World), Env w0 (⟨g, 43, cs⟩ :: l) w' → RdZ 3 (M.length - (i + 1)) (pcells (M.drop (i + 1))) (.slice (some ⟨g, if cap = i + 1 then 0 else 0 + (i + 1) * 3, none⟩) (M.length - (i + 1)) (cap - (i + 1))) w' := fun w' hE' => by
    refine ⟨by rw [pcells_len, List.length_drop], _, _, rfl, by omega, ?_⟩
    by_cases hc : cap = i + 1
    · left; omega
    · right
      rw [if_neg hc]
      refine ⟨g, _, rfl, fun j u hj => ?_⟩
      have hjl := (List.getElem?_eq_some_iff.1 hj).1
      rw [pcells_len, List.length_drop] at hjl
      rw [hE'.cell (i := 0) rfl, Nat.zero_add]
      rw [← pcells_drop, List.getElem?_drop, ← h5, List.getElem?_take, if_pos (by omega)] at hj
      simpa using hj
  have Hrd := Lib.hid hrd
  have Hi := Lib.hid hi0
  have Hs := Lib.hid hs0
  have hone' : ∀ u ∈ pcells (M.drop (i + 1)), u.oneCell' = true := fun u hu => hone u (by rw [← pcells_drop] at hu; exact List.mem_of_mem_drop hu)
  have H1 := Lib.hid hone'
  have hne := Lib.hid (decide_eq_false (show ¬ i = i + 1 by omega))
  have hcut := cut_cells (zs := [.int .i64 0, .int .i64 0, .slice none 0 0]) h5 hi
  have HC := Lib.hid hcut
  have hcl : M.length ≤ cap := h2
  have hn63 : M.length < 9223372036854775808 := by omega
  have hi1 : i ≤ i + 1 := by omega
  have hi2 : i + 1 ≤ M.length := by omega
  have hi3 : i < M.length := hi
  have hroom : i + (M.length - (i + 1)) ≤ cap := by omega
  have hse : i + (M.length - (i + 1)) = M.length - 1 := by omega
  have hl1 : M.length - 1 ≤ M.length := by omega
  have hl2 : M.length - 1 < cap := by omega
  have hl3 : M.length - 1 < 9223372036854775808 := by omega
  have hl4 : M.length - (M.length - 1) = 1 := by omega
  have hic : i ≤ cap := by omega
  have Hse := Lib.hid hse
  have Hl4 := Lib.hid hl4
  have hE0 := hE
  have hlp := pcells_len (M.drop (i + 1))
  rw [List.length_drop] at hlp
  obtain ⟨N, hN⟩ : ∃ N, pcells (M.drop (i + 1)) = N := ⟨_, rfl⟩
  rw [hN] at Hrd H1 HC hlp
  obtain ⟨Y, hY⟩ : ∃ Y, cs.toList.take (i * 3) ++ N ++ cs.toList.drop (i * 3 + N.length) = Y := ⟨_, rfl⟩
  have HY := Lib.hid hY
  have hYl : Y.length = cap * 3 := by
    rw [← hY, List.length_append, List.length_append, List.length_take, List.length_drop, Array.length_toList, h4, hlp]
    omega
  have hC' : (Y.take ((M.length - 1) * 3) ++ ([.int .i64 0, .int .i64 0, .slice none 0 0] : List Value) ++ Y.drop ((M.length - 1) * 3 + 3)).take ((M.length - 1) * 3) = pcells (M.eraseIdx i) := by
    have := HC.out
    simp only [] at this
    rw [hY] at this
    exact this
  have HC' := Lib.hid hC'
  have hz1 : ∀ u ∈ ([.int .i64 0, .int .i64 0, .slice none 0 0] : List Value), u.oneCell' = true := fun u hu => by
    simp only [List.mem_cons, List.not_mem_nil, or_false] at hu
    rcases hu with rfl | rfl | rfl <;> rfl
  have Hz1 := Lib.hid hz1
  have hfit : 0 + (M.length - 1) * 3 + 3 ≤ Y.toArray.size := by rw [List.size_toArray, hYl]; omega
  clear hrd hi0 hs0 hz0 hb0 hone hone' hcut HC hN hE hl hse hl4 hlp hC' hz1
  go_enter Tryd.func29, Tryd.ntmps29
  repeat ((fail_if_success (with_reducible show wpList _ _ _ (List.cons _ _) _ _)); (fail_if_success (with_reducible show Code.wp _ (Code.region _ _ true) _ _ _)); go_step)
  refine wl_step (st_val rfl (v_moveC (.inr rfl)) ?_)
  simp only [Act.put, List.setIfInBounds_toArray, List.set_cons_zero, List.set_cons_succ]
  repeat ((fail_if_success (with_reducible show wpList _ _ _ (List.cons _ _) _ _)); (fail_if_success (with_reducible show Code.wp _ (Code.region _ _ true) _ _ _)); go_step)
  refine wl_step (st_val rfl (v_moveT (.inl rfl) rfl) ?_)
  simp only [Act.put, List.setIfInBounds_toArray, List.set_cons_zero, List.set_cons_succ]
  refine wl_step (st_val rfl (v_moveT (.inl rfl) rfl) ?_)
  simp only [Act.put, List.setIfInBounds_toArray, List.set_cons_zero, List.set_cons_succ]
  refine wl_step (st_val rfl (v_moveT (.inl rfl) rfl) ?_)
  simp only [Act.put, List.setIfInBounds_toArray, List.set_cons_zero, List.set_cons_succ]
  refine wl_step (st_val rfl (v_moveT (.inl rfl) rfl) ?_)
  simp only [Act.put, List.setIfInBounds_toArray, List.set_cons_zero, List.set_cons_succ]
  refine wl_step (st_val rfl (v_len rfl rfl Tryd.underlying31 hn63) ?_)
  simp only [Act.put, List.setIfInBounds_toArray, List.set_cons_zero, List.set_cons_succ]
  refine wl_step (st_val rfl (v_slice3Z (s := 3) rfl rfl rfl rfl rfl Tryd.underlying31 (by kernel_rfl) hi1 hi2 hcl hi3) ?_)
  simp only [Act.put, List.setIfInBounds_toArray, List.set_cons_zero, List.set_cons_succ]
  repeat ((fail_if_success (with_reducible show wpList _ _ _ (List.cons _ _) _ _)); (fail_if_success (with_reducible show Code.wp _ (Code.region _ _ true) _ _ _)); go_step)
  refine wl_step (st_val rfl (v_moveT (.inl rfl) rfl) ?_)
  simp only [Act.put, List.setIfInBounds_toArray, List.set_cons_zero, List.set_cons_succ]
  refine wl_step (st_val rfl (v_moveT (.inl rfl) rfl) ?_)
  simp only [Act.put, List.setIfInBounds_toArray, List.set_cons_zero, List.set_cons_succ]
  refine wl_step (st_val rfl (v_eql rfl rfl rfl) ?_)
  simp only [Act.put, List.setIfInBounds_toArray, List.set_cons_zero, List.set_cons_succ]
  rw [hne.out]
  repeat ((fail_if_success (with_reducible show wpList _ _ _ (List.cons _ _) _ _)); (fail_if_success (with_reducible show Code.wp _ (Code.region _ _ true) _ _ _)); (fail_if_success (with_reducible show Code.wp _ (Code.cond _ _ _) _ _ _)); go_step)
  refine wp_cond_false (by first | rfl | exact congrArg Value.bool (decide_eq_false (by omega))) ?_
  skip
  repeat ((fail_if_success (with_reducible show wpList _ _ _ (List.cons _ _) _ _)); (fail_if_success (with_reducible show Code.wp _ (Code.region _ _ true) _ _ _)); go_step)
  refine wl_step (st_val rfl (v_moveT (.inl rfl) rfl) ?_)
  simp only [Act.put, List.setIfInBounds_toArray, List.set_cons_zero, List.set_cons_succ]
  refine wl_step (st_val rfl (v_len rfl rfl Tryd.underlying31 hn63) ?_)
  simp only [Act.put, List.setIfInBounds_toArray, List.set_cons_zero, List.set_cons_succ]
  refine wl_step (st_val rfl (v_moveT (.inr rfl) rfl) ?_)
  simp only [Act.put, List.setIfInBounds_toArray, List.set_cons_zero, List.set_cons_succ]
  repeat ((fail_if_success (with_reducible show wpList _ _ _ (List.cons _ _) _ _)); (fail_if_success (with_reducible show Code.wp _ (Code.region _ _ true) _ _ _)); (fail_if_success (with_reducible show Code.wp _ (Code.cond _ _ _) _ _ _)); go_step)
  refine wp_region_B (n := 8) 6 (by kernel_rfl) rfl hE0 ?_
  intro w1 hb1 hE1
  clear hE0
  refine wpB_take (i := 0) (by kernel_rfl) rfl (by kernel_rfl) (fun _ _ _ h => h) rfl (v_moveT (.inl rfl) rfl) ?_
  simp only [Act.put, List.setIfInBounds_toArray, List.set_cons_zero, List.set_cons_succ]
  refine wpB_take (i := 1) (by kernel_rfl) rfl (by kernel_rfl) (fun _ _ _ h => h) rfl (v_moveT (.inl rfl) rfl) ?_
  simp only [Act.put, List.setIfInBounds_toArray, List.set_cons_zero, List.set_cons_succ]
  refine wpB_take (i := 2) (by kernel_rfl) rfl (by kernel_rfl) (fun _ _ _ h => h) rfl (v_sliceHZ (s := 3) rfl rfl rfl Tryd.underlying31 (by kernel_rfl) hic) ?_
  simp only [Act.put, List.setIfInBounds_toArray, List.set_cons_zero, List.set_cons_succ]
  refine wpB_take (i := 3) (by kernel_rfl) rfl (by kernel_rfl) (fun _ _ _ h => h) rfl (v_moveT (.inl rfl) rfl) ?_
  simp only [Act.put, List.setIfInBounds_toArray, List.set_cons_zero, List.set_cons_succ]
  refine wpB_take (i := 4) (by kernel_rfl) rfl (by kernel_rfl) (fun _ _ _ h => h) rfl (v_moveT (.inl rfl) rfl) ?_
  simp only [Act.put, List.setIfInBounds_toArray, List.set_cons_zero, List.set_cons_succ]
  refine wpB_take (i := 5) (by kernel_rfl) rfl (by kernel_rfl) (fun _ _ _ h => h) rfl (v_sliceLZ (s := 3) rfl rfl rfl Tryd.underlying31 (by kernel_rfl) hi2) ?_
  simp only [Act.put, List.setIfInBounds_toArray, List.set_cons_zero, List.set_cons_succ]
  refine wpB_step (i := 6) (by kernel_rfl) rfl (st_appendRoom hE1 rfl rfl Tryd.underlying31 Hi.out Hs.out rfl rfl (Hrd.out _ hE1) H1.out hroom h4 ?_)
  intro w2 hE2
  clear hE1
  rw [HY.out] at hE2
  rw [Hse.out]
  refine ⟨fun h => absurd h (by decide), ?_⟩
  simp only [Act.put, List.setIfInBounds_toArray, List.set_cons_zero, List.set_cons_succ]
  refine wpB_step (i := 7) (by kernel_rfl) rfl (st_val rfl (v_moveT (.inr rfl) rfl) ?_)
  refine ⟨fun _ => Below.refl _ _, ?_⟩
  simp only [Act.put, List.setIfInBounds_toArray, List.set_cons_zero, List.set_cons_succ]
  refine wpB_done (by kernel_rfl) ?_ _
  repeat ((fail_if_success (with_reducible show wpList _ _ _ (List.cons _ _) _ _)); (fail_if_success (with_reducible show Code.wp _ (Code.region _ _ true) _ _ _)); go_step)
  refine wl_step (st_val rfl (v_moveT (.inl rfl) rfl) ?_)
  simp only [Act.put, List.setIfInBounds_toArray, List.set_cons_zero, List.set_cons_succ]
  refine wl_step (st_val rfl (v_moveT (.inl rfl) rfl) ?_)
  simp only [Act.put, List.setIfInBounds_toArray, List.set_cons_zero, List.set_cons_succ]
  refine wl_step (st_val rfl (v_len rfl rfl Tryd.underlying31 hl3) ?_)
  simp only [Act.put, List.setIfInBounds_toArray, List.set_cons_zero, List.set_cons_succ]
  refine wl_step (st_val rfl (v_moveT (.inl rfl) rfl) ?_)
  simp only [Act.put, List.setIfInBounds_toArray, List.set_cons_zero, List.set_cons_succ]
  refine wl_step (st_val rfl (v_sliceLHZ (s := 3) rfl rfl rfl rfl Tryd.underlying31 (by kernel_rfl) hl1 hcl hl2) ?_)
  simp only [Act.put, List.setIfInBounds_toArray, List.set_cons_zero, List.set_cons_succ]
  rw [Hl4.out]
  refine wl_step (st_clear1 hE2 rfl rfl rfl Tryd.underlying31 rfl Tryd.zeroValue43 (by kernel_rfl) Hz1.out hfit ?_)
  intro w3 hE3
  clear hE2
  repeat ((fail_if_success (with_reducible show wpList _ _ _ (List.cons _ _) _ _)); (fail_if_success (with_reducible show Code.wp _ (Code.region _ _ true) _ _ _)); go_step)
  refine wl_step (st_val rfl (v_moveT (.inl rfl) rfl) ?_)
  simp only [Act.put, List.setIfInBounds_toArray, List.set_cons_zero, List.set_cons_succ]
  refine wl_step (st_val rfl (v_moveT (.inr rfl) rfl) ?_)
  simp only [Act.put, List.setIfInBounds_toArray, List.set_cons_zero, List.set_cons_succ]
  repeat ((fail_if_success (with_reducible show wpList _ _ _ (List.cons _ _) _ _)); (fail_if_success (with_reducible show Code.wp _ (Code.region _ _ true) _ _ _)); (fail_if_success (with_reducible show Code.wp _ (Code.cond _ _ _) _ _ _)); go_step)
  go_returns
  rw [hlen]
  refine ⟨_, _, rfl, ⟨by rw [pcells_len, hlen], .inr ⟨g, cap, _, rfl, by omega, h3, ?_, ?_, rfl⟩⟩, hE3⟩
  · simp only [List.size_toArray, List.length_append, List.length_take, List.length_drop, List.length_cons, List.length_nil, hYl]
    omega
  · have := HC'.out
    simpa using this
end Go.Proofs.YtnbbehgcnodfbaaDoor
