/-
  Layer 28: all packets of a net, copied; packets sent.
-/
import Derived.Test.YtnbbehgcnodfbaaDoorNetB
namespace Go.Proofs.YtnbbehgcnodfbaaDoor
open Go.RowKit
set_option maxRecDepth 100000
set_option linter.unusedVariables false
set_option linter.unusedSimpArgs false

/-- A packet with the blocks of its own that its bytes lie in. -/
def OwnP (u : TypeId) (x : PV × List Blk) : Prop := Ow u (nats .u8 x.1.by') x.1.sl x.2
abbrev fsts (N : List (PV × List Blk)) : List PV := N.map (·.1)
abbrev blks (N : List (PV × List Blk)) : List Blk := N.flatMap (·.2)
theorem OwnP.sees {u : TypeId} {w0 : World} {N : List (PV × List Blk)} (h : ∀ x ∈ N, OwnP u x) : ∀ m ∈ fsts N, Sees w0 (blks N) m := fun m hm w' hE => by
  obtain ⟨x, hx, rfl⟩ := List.mem_map.1 hm
  obtain ⟨s, t, hst⟩ := List.append_of_mem hx
  have hp : (blks N).Perm (x.2 ++ (blks s ++ blks t)) := by
    rw [hst]
    show (List.flatMap (·.2) (s ++ x :: t)).Perm _
    rw [List.flatMap_append, List.flatMap_cons]
    exact List.perm_append_comm_assoc _ _ _
  exact ((h x hx).sl (hE.perm hp)).rdS
/-- What one call has made for itself, beside what was known. -/
theorem Env.liftO {w0 w w' : World} {l bs : List Blk} {e : TypeId} {xs : List Value} {v : Value} (hE : Env w0 l w) (ho : Ow e xs v bs) (h : Env w bs w') : Env w0 (bs ++ l) w' := by
  rcases ho with ⟨-, -, rfl⟩ | ⟨g, cap, cs, -, -, -, -, -, rfl⟩
  · exact hE.call h.below
  · have hn : w.heap.size ≤ g := h.new _ (List.mem_singleton_self _)
    exact (hE.call h.below).add (h.get (i := 0) rfl) (Nat.le_trans hE.below.size hn) fun b hm => Nat.ne_of_gt (Nat.lt_of_lt_of_le (hE.lt hm) hn)
theorem pm1 (a b : Blk) (x y z u : List Blk) : (a :: (x ++ (b :: (y ++ (z ++ u))))).Perm (y ++ (a :: (b :: ((z ++ x) ++ u)))) := by
  classical
  exact List.perm_iff_count.2 fun c => by simp only [List.count_append, List.count_cons, List.count_nil]; omega
theorem pm2 (a b : Blk) (y z : List Blk) : (y ++ (a :: (b :: z))).Perm (a :: (b :: (y ++ z))) := by
  classical
  exact List.perm_iff_count.2 fun c => by simp only [List.count_append, List.count_cons, List.count_nil]; omega
theorem rd_cell {s n : Nat} {xs : List Value} {p : Option Addr} {c : Nat} {w : World} (h : RdZ s n xs (.slice p n c) w) {j : Nat} (hj : j < n) : ∃ b off, p = some ⟨b, off, none⟩ := by
  obtain ⟨b, off, h1, -⟩ := h.elem hj
  exact ⟨b, off, h1⟩
theorem blks_snoc (N : List (PV × List Blk)) (x : PV × List Blk) : blks (N ++ [x]) = blks N ++ x.2 := by
  show List.flatMap _ _ = _
  rw [List.flatMap_append]
  simp
theorem fsts_snoc (N : List (PV × List Blk)) (x : PV × List Blk) : fsts (N ++ [x]) = fsts N ++ [x.1] := by simp [fsts]

theorem RdZ.of_block {s n g : Nat} {xs : List Value} {T : TypeId} {w : World} (h : w.heap[g]? = some (.cells xs.toArray T (0, 0))) (hl : xs.length = n * s) : RdZ s n xs (.slice (some ⟨g, 0, none⟩) n n) w :=
  ⟨hl, _, _, rfl, Nat.le_refl _, .inr ⟨g, 0, rfl, fun j u hj => by
    rw [cell_of_row w g _ _ _ _ h, Nat.zero_add, ← hj, List.getElem?_toArray]⟩⟩
section
variable {P : Program} {ops : Array Oper} {Q : Exit → Act → World → Prop} {a : Act} {w w0 : World} {l : List Blk} {o : Oper} {K : Act → World → Prop}
/-- One packet as a slice. -/
theorem st_one3 {t e : TypeId} {x : Operand} {z : Value} (A B C : Value) (hE : Env w0 l w) (hw : Region.wanted o (yielded ops a.tmps) = true) (ho : o.op = .buildSlice t 1 #[(0, x)]) (hx : a.eval x = .agg #[A, B, C]) (ht : P.underlying t = some (.slice e)) (hs : (P.info? e).map (·.size) = some 3) (hz : ∀ w, (zeroValue e).run P w = .ok z w)
    (k : ∀ g w1, Below w.heap.size w w1 → Env w0 (⟨g, e, [A, B, C].toArray⟩ :: l) w1 → K (a.put o.dst (.slice (some ⟨g, 0, none⟩) 1 1)) w1) : Step P ops Q o K a w :=
  st_buildZ (s := 3) (parts := [(0, x)]) [[A, B, C]] hE hw ho (by simp only [List.map_cons, List.map_nil, List.zipIdx_cons, List.zipIdx_nil, hx]) rfl (by decide) (by decide) ht hs hz (fun r hr => by rw [List.mem_singleton.1 hr]; rfl) k
end
set_option maxHeartbeats 8000000 in
theorem List_any {w0 w : World} {g most : Nat} {M : List PV} {R bs : List Blk} {v : Value} (hO : Oz 3 43 M.length (pcells M) v bs) (hS : ∀ m ∈ M, Sees w0 R m) (hE : Env w0 (⟨g, 56, #[v, .int .i64 (most : Int)]⟩ :: (bs ++ R)) w)
    (hM : M.length < 1000000) (hb : ∀ m ∈ M, m.by'.length < 1000000) :
    Calls Tryd.prog 10 #[.pointer (some ⟨g, 0, none⟩)] w fun e w' => ∃ v' bo N, e = .returned v' ∧ (fsts N).map PV.key = M.map PV.key ∧ (∀ x ∈ N, OwnP 5 x) ∧ Oz 3 43 N.length (pcells (fsts N)) v' bo ∧
      Env w0 (⟨g, 56, #[v, .int .i64 (most : Int)]⟩ :: (bo ++ (blks N ++ (bs ++ R)))) w' := by
  obtain ⟨i0, hi0, hz0, hs0, hb0⟩ : ∃ i, Tryd.prog.info? 43 = some i ∧ i.zero = some (.agg #[.int .i64 0, .int .i64 0, .slice none 0 0]) ∧ i.size = 3 ∧ i.bytes = 40 := info_parts (P := Tryd.prog) (by kernel_rfl)
  obtain ⟨p, c, rfl, hc⟩ := hO.len
  have Hi := Lib.hid hi0
  have Hz := Lib.hid hz0
  have Hs := Lib.hid hs0
  have Hb := Lib.hid hb0
  have HO := Lib.hid hO
  have HS := Lib.hid hS
  have HB := Lib.hid hb
  have hn63 : M.length < 9223372036854775808 := by omega
  have hrd : ∀ (w' : World) (l : List Blk), Env w0 (bs ++ l) w' → RdZ 3 M.length (pcells M) (.slice p M.length c) w' := fun w' l h => HO.out.rd h
  have Hrd := Lib.hid hrd
  have hE0 := hE
  clear hi0 hz0 hs0 hb0 hO hS hb hE hrd
  go_enter Tryd.func10, Tryd.ntmps10
  repeat ((fail_if_success (with_reducible show wpList _ _ _ (List.cons _ _) _ _)); (fail_if_success (with_reducible show Code.wp _ (Code.region _ _ true) _ _ _)); go_step)
  refine wl_step (st_val rfl (v_moveC (.inr rfl)) ?_)
  simp only [Act.put, List.setIfInBounds_toArray, List.set_cons_zero, List.set_cons_succ]
  repeat ((fail_if_success (with_reducible show wpList _ _ _ (List.cons _ _) _ _)); (fail_if_success (with_reducible show Code.wp _ (Code.region _ _ true) _ _ _)); go_step)
  refine wl_step (st_val rfl (v_moveT (.inl rfl) rfl) ?_)
  simp only [Act.put, List.setIfInBounds_toArray, List.set_cons_zero, List.set_cons_succ]
  refine wl_step (st_val rfl (v_run fun w9 => by go_simp; with_reducible rfl) ?_)
  simp only [Act.put, List.setIfInBounds_toArray, List.set_cons_zero, List.set_cons_succ]
  repeat ((fail_if_success (with_reducible show wpList _ _ _ (List.cons _ _) _ _)); (fail_if_success (with_reducible show Code.wp _ (Code.region _ _ true) _ _ _)); (fail_if_success (with_reducible show Code.wp _ (Code.cond _ _ _) _ _ _)); go_step)
  refine wp_cond_false (by first | rfl | exact congrArg Value.bool (decide_eq_false (by omega))) ?_
  skip
  repeat ((fail_if_success (with_reducible show wpList _ _ _ (List.cons _ _) _ _)); (fail_if_success (with_reducible show Code.wp _ (Code.region _ _ true) _ _ _)); go_step)
  refine wl_step (st_val rfl (v_moveC (.inr rfl)) ?_)
  simp only [Act.put, List.setIfInBounds_toArray, List.set_cons_zero, List.set_cons_succ]
  repeat ((fail_if_success (with_reducible show wpList _ _ _ (List.cons _ _) _ _)); (fail_if_success (with_reducible show Code.wp _ (Code.region _ _ true) _ _ _)); go_step)
  refine wl_step (st_val rfl (v_moveT (.inl rfl) rfl) ?_)
  simp only [Act.put, List.setIfInBounds_toArray, List.set_cons_zero, List.set_cons_succ]
  refine wl_step (st_val rfl (v_nil rfl rfl) ?_)
  simp only [Act.put, List.setIfInBounds_toArray, List.set_cons_zero, List.set_cons_succ]
  refine wl_step (st_val rfl (v_field0 (s := 0) rfl rfl Tryd.underlying56 rfl (by kernel_rfl) rfl) ?_)
  simp only [Act.put, List.setIfInBounds_toArray, List.set_cons_zero, List.set_cons_succ]
  refine wl_step (st_val rfl (v_cellB (v := .slice p M.length c) (i := 0) hE0 rfl rfl rfl Tryd.underlying31 rfl rfl) ?_)
  simp only [Act.put, List.setIfInBounds_toArray, List.set_cons_zero, List.set_cons_succ]
  refine wl_step (st_val rfl (v_len rfl rfl Tryd.underlying31 hn63) ?_)
  simp only [Act.put, List.setIfInBounds_toArray, List.set_cons_zero, List.set_cons_succ]
  refine wl_step (st_val rfl (v_moveC (.inl rfl)) ?_)
  simp only [Act.put, List.setIfInBounds_toArray, List.set_cons_zero, List.set_cons_succ]
  have hst := hE0
  clear hE0
  go_wp2
  go_loopw [3, 13] (fun o i wr => ∃ (j : Nat) (bo : List Blk) (N : List (PV × List Blk)), j ≤ M.length ∧ i = .int .i64 j ∧ N.length = j ∧ (fsts N).map PV.key = (M.take j).map PV.key ∧ (∀ x ∈ N, OwnP 5 x) ∧ Oz 3 43 N.length (pcells (fsts N)) o bo ∧
      Env w0 (⟨g, 56, #[.slice p M.length c, .int .i64 (most : Int)]⟩ :: (bo ++ (blks N ++ (bs ++ R)))) wr) (fun _ i _ => M.length - (intOf i).toNat)
  case atStart => exact ⟨0, [], [], Nat.zero_le _, rfl, rfl, rfl, fun x hx => (by cases hx), Oz.nil _ _, hst⟩
  case round =>
    clear hst
    obtain ⟨j, bo, N, hj, rfl, hNl, hk, hown, hOz, hE0⟩ := hrel
    by_cases hjM : j < M.length
    · have d1 := Lib.hid (decide_eq_true hjM)
      have hg : M[j]? = some M[j] := List.getElem?_eq_getElem hjM
      obtain ⟨m, hm⟩ : ∃ m, M[j] = m := ⟨_, rfl⟩
      rw [hm] at hg
      have Hm := Lib.hid hm
      have hmem : m ∈ M := by rw [← hm]; exact List.getElem_mem hjM
      have hEb : Env w0 (bs ++ (R ++ (⟨g, 56, #[.slice p M.length c, .int .i64 (most : Int)]⟩ :: (bo ++ blks N)))) wr := hE0.perm (by
        classical
        exact List.perm_iff_count.2 fun c => by simp only [List.count_append, List.count_cons, List.count_nil]; omega)
      obtain ⟨b, off, rfl, hran⟩ := (Hrd.out _ _ hEb).elem hjM
      rw [pcells_at hg] at hran
      have Hran := Lib.hid hran
      have hmb := HB.out m hmem
      have hER : ∀ w', Env w0 (⟨g, 56, #[.slice (some ⟨b, off, none⟩) M.length c, .int .i64 (most : Int)]⟩ :: (bo ++ (blks N ++ (bs ++ R)))) w' → RdS .u8 m.by' m.sl w' := fun w' h => HS.out m hmem w' (h.sub (by
        refine List.Sublist.cons _ ?_
        refine List.Sublist.trans ?_ (List.sublist_append_right _ _)
        refine List.Sublist.trans ?_ (List.sublist_append_right _ _)
        exact List.sublist_append_right _ _))
      have HER := Lib.hid hER
      have hml : m.cells.toArray = #[.int .i64 m.fr, .int .i64 m.to, m.sl] := rfl
      obtain ⟨pm, cm, hsl, -⟩ := hER _ hE0
      clear hran hER hEb hg hm
      have HN := Lib.hid hNl
      have Hk := Lib.hid hk
      have Hown := Lib.hid hown
      have hNj : N.length < 1000000 := by omega
      have HOz := Lib.hid hOz
      clear hNl hk hown hOz
      have hone3 : (#[Value.int .i64 m.fr, .int .i64 m.to, m.sl]).all (·.oneCell') = true := by
        rw [hsl]
        simp
        exact ⟨rfl, rfl, rfl⟩
      repeat ((fail_if_success (with_reducible show wpList _ _ _ (List.cons _ _) _ _)); (fail_if_success (with_reducible show Code.wp _ (Code.region _ _ true) _ _ _)); go_step)
      refine wl_step (st_val rfl (v_lss rfl rfl rfl) ?_)
      simp only [Act.put, List.setIfInBounds_toArray, List.set_cons_zero, List.set_cons_succ]
      rw [d1.out]
      repeat ((fail_if_success (with_reducible show wpList _ _ _ (List.cons _ _) _ _)); (fail_if_success (with_reducible show Code.wp _ (Code.region _ _ true) _ _ _)); (fail_if_success (with_reducible show Code.wp _ (Code.cond _ _ _) _ _ _)); go_step)
      refine wp_cond_true (by first | rfl | exact congrArg Value.bool (decide_eq_true (by omega))) ?_
      skip
      repeat ((fail_if_success (with_reducible show wpList _ _ _ (List.cons _ _) _ _)); (fail_if_success (with_reducible show Code.wp _ (Code.region _ _ true) _ _ _)); go_step)
      refine wl_step (st_val rfl (v_indexSs (s := 3) rfl rfl rfl Tryd.underlying31 (by kernel_rfl) hjM) ?_)
      simp only [Act.put, List.setIfInBounds_toArray, List.set_cons_zero, List.set_cons_succ]
      refine wl_step (st_val rfl (v_loadMid (cs := #[.int .i64 m.fr, .int .i64 m.to, m.sl]) rfl rfl (fun w1 hb => Hran.out w1 hb) Tryd.underlying43 rfl (by kernel_rfl)) ?_)
      simp only [Act.put, List.setIfInBounds_toArray, List.set_cons_zero, List.set_cons_succ]
      refine wl_step (st_alloc (zs := #[Value.int .i64 0, Value.int .i64 0, Value.slice none 0 0]) hE0 rfl rfl (fun w => by kernel_rfl) ?_)
      intro g0 w1 hb1 hE1
      clear hE0
      simp only [Act.put, List.setIfInBounds_toArray, List.set_cons_zero, List.set_cons_succ]
      refine wl_step (st_store (i := 0) hE1 rfl rfl rfl rfl rfl (sz_of (n := 3) (by kernel_rfl) rfl) rfl hone3 ?_)
      intro w2 hE2
      clear hE1
      simp only [List.set_cons_zero] at hE2
      simp only [Act.put, List.setIfInBounds_toArray, List.set_cons_zero, List.set_cons_succ]
      repeat ((fail_if_success (with_reducible show wpList _ _ _ (List.cons _ _) _ _)); (fail_if_success (with_reducible show Code.wp _ (Code.region _ _ true) _ _ _)); go_step)
      refine wl_step (st_val rfl (v_moveT (.inl rfl) rfl) ?_)
      simp only [Act.put, List.setIfInBounds_toArray, List.set_cons_zero, List.set_cons_succ]
      refine wl_step (st_val rfl (v_load (i := 0) hE2 rfl rfl rfl Tryd.underlying43 rfl (sz_of (n := 3) (by kernel_rfl) rfl)) ?_)
      simp only [Act.put, List.setIfInBounds_toArray, List.set_cons_zero, List.set_cons_succ]
      refine wl_step (st_calls rfl (run_call rfl Tryd.call25) (own_any (HER.out _ (hE2.sub (List.sublist_cons_self _ _))) hmb) ?_)
      rintro _ w3 ⟨sB, bB, rfl, hb3, hoB, hEo⟩
      have hE3 := (hE2.sub (List.sublist_cons_self _ _)).liftO hoB hEo
      refine ⟨_, rfl, ?_⟩
      clear hE2
      simp only [Act.put, List.setIfInBounds_toArray, List.set_cons_zero, List.set_cons_succ]
      refine wl_step (st_one3 (.int .i64 m.fr) (.int .i64 m.to) sB hE3 rfl rfl rfl Tryd.underlying31 (by kernel_rfl) Tryd.zeroValue43 ?_)
      intro g7 w7 hb7 hE7
      clear hE3
      simp only [Act.put, List.setIfInBounds_toArray, List.set_cons_zero, List.set_cons_succ]
      have h63 : N.length + 1 ≤ maxLen := by simp only [maxLen]; omega
      have hfit : (N.length + 1) * 40 ≤ 140737488355328 := by omega
      have hsB : sB.oneCell' = true := by
        obtain ⟨pB, cB, h, -⟩ := hoB.len
        rw [h]; rfl
      have hone : ∀ u ∈ [Value.int .i64 m.fr, .int .i64 m.to, sB], u.oneCell' = true := fun u hu => by
        simp only [List.mem_cons, List.not_mem_nil, or_false] at hu
        rcases hu with rfl | rfl | rfl
        · rfl
        · rfl
        · exact hsB
      refine wl_step (st_appendOz HOz.out (hE7.perm (pm1 _ _ bB bo (blks N) (bs ++ R))) rfl rfl Tryd.underlying31 Hi.out Hz.out Hs.out rfl Hb.out rfl rfl (RdZ.of_block (hE7.get (i := 0) rfl) rfl) hone h63 hfit ?_)
      intro v8 w8 bo8 hOz8 hE8
      clear hE7
      have hE9 := (hE8.perm (pm2 _ _ bo8 _)).sub (List.sublist_cons_self _ _)
      clear hE8
      simp only [Act.put, List.setIfInBounds_toArray, List.set_cons_zero, List.set_cons_succ]
      refine wl_step (st_val rfl (v_moveT (.inr rfl) rfl) ?_)
      simp only [Act.put, List.setIfInBounds_toArray, List.set_cons_zero, List.set_cons_succ]
      repeat ((fail_if_success (with_reducible show wpList _ _ _ (List.cons _ _) _ _)); (fail_if_success (with_reducible show Code.wp _ (Code.region _ _ true) _ _ _)); go_step)
      refine wl_step (st_val rfl (v_add (n := 1) rfl rfl rfl (w_i64 (by omega))) ?_)
      simp only [Act.put, List.setIfInBounds_toArray, List.set_cons_zero, List.set_cons_succ]
      refine wl_step (st_val rfl (v_moveT (.inl rfl) rfl) ?_)
      simp only [Act.put, List.setIfInBounds_toArray, List.set_cons_zero, List.set_cons_succ]
      go_wp2
      go_roundw
      case rel =>
        refine ⟨j + 1, bo8, N ++ [(⟨m.fr, m.to, m.by', sB⟩, bB)], by omega, rfl, by rw [List.length_append, HN.out]; rfl, ?_, ?_, ?_, ?_⟩
        · rw [fsts_snoc, List.map_append, Hk.out, List.take_succ_eq_append_getElem hjM, List.map_append, Hm.out]
          rfl
        · intro x hx
          rcases List.mem_append.1 hx with hx | hx
          · exact Hown.out x hx
          · rw [List.mem_singleton.1 hx]
            exact hoB
        · rw [fsts_snoc, pcells_append, List.length_append]
          exact hOz8
        · rw [blks_snoc]
          exact hE9
      case measure => simp [intOf]; omega
    · have hj' : j = M.length := by omega
      subst hj'
      have d1 := Lib.hid (decide_eq_false hjM)
      repeat ((fail_if_success (with_reducible show wpList _ _ _ (List.cons _ _) _ _)); (fail_if_success (with_reducible show Code.wp _ (Code.region _ _ true) _ _ _)); go_step)
      refine wl_step (st_val rfl (v_lss rfl rfl rfl) ?_)
      simp only [Act.put, List.setIfInBounds_toArray, List.set_cons_zero, List.set_cons_succ]
      rw [d1.out]
      repeat ((fail_if_success (with_reducible show wpList _ _ _ (List.cons _ _) _ _)); (fail_if_success (with_reducible show Code.wp _ (Code.region _ _ true) _ _ _)); (fail_if_success (with_reducible show Code.wp _ (Code.cond _ _ _) _ _ _)); go_step)
      refine wp_cond_false (by first | rfl | exact congrArg Value.bool (decide_eq_false (by omega))) ?_
      skip
      repeat ((fail_if_success (with_reducible show wpList _ _ _ (List.cons _ _) _ _)); (fail_if_success (with_reducible show Code.wp _ (Code.region _ _ true) _ _ _)); go_step)
      refine wl_step (st_val rfl (v_moveT (.inl rfl) rfl) ?_)
      simp only [Act.put, List.setIfInBounds_toArray, List.set_cons_zero, List.set_cons_succ]
      refine wl_step (st_val rfl (v_moveT (.inr rfl) rfl) ?_)
      simp only [Act.put, List.setIfInBounds_toArray, List.set_cons_zero, List.set_cons_succ]
      repeat ((fail_if_success (with_reducible show wpList _ _ _ (List.cons _ _) _ _)); (fail_if_success (with_reducible show Code.wp _ (Code.region _ _ true) _ _ _)); (fail_if_success (with_reducible show Code.wp _ (Code.cond _ _ _) _ _ _)); go_step)
      go_returns
      exact ⟨_, bo, N, rfl, by rw [hk, List.take_length], hown, hOz, hE0⟩
end Go.Proofs.YtnbbehgcnodfbaaDoor
