/-
  Layer 3, the document's: both sums, as arrays.
-/
import Derived.Test.YtndnmghlgcamfaaDigP
import Derived.Test.YtndnmghlgcamfaaDigQ
import Derived.Laws.CopyRow
namespace Go.Proofs.Ytndnmghlgcamfaa
open Go.RowKit
set_option linter.unusedVariables false
set_option linter.unusedSimpArgs false

section
variable {P : Program} {ops : Array Oper} {Q : Exit → Act → World → Prop} {a : Act} {w w0 : World} {l : List Blk} {o : Oper} {K : Act → World → Prop}
/-- A block over which a slice of its length is copied. -/
theorem st_copyAll {x y : Operand} {t t' e : TypeId} {g i n c : Nat} {T : TypeId} {cs : Array Value} {k : IntKind} {m : List Nat} {yv : Value} (hE : Env w0 l w) (hw : Region.wanted o (yielded ops a.tmps) = true)
    (ho : o.op = .call { callee := .builtin .copy, args := #[x, y], argTypes := #[t, t'] }) (hx : a.eval x = .slice (some ⟨g, 0, none⟩) n c) (hy : a.eval y = yv) (hr : RdS k m yv w) (hm : m.length = n) (h0 : 0 < n)
    (ht : P.underlying t = some (.slice e)) (hs : (P.info? e).map (·.size) = some 1) (hi : l[i]? = some ⟨g, T, cs⟩) (hc : cs.size = n)
    (kk : ∀ w1, Env w0 (l.set i ⟨g, T, ints k m⟩) w1 → K (a.put o.dst (goInt n)) w1) : Step P ops Q o K a w := by
  obtain ⟨p, cap, rfl, hcap, h3⟩ := hr
  rcases h3 with h3 | ⟨b, off, rfl, h5⟩
  · rw [h3] at hm
    rw [← hm] at h0
    exact absurd h0 (by decide)
  · have hnl : (nats k m).length = n := by rw [nats_len, hm]
    have hrun := run_copy_row (P := P) w t t' o.type e g 0 n c ⟨b, off, none⟩ m.length cap cs T (nats k m) ht hs (hE.get hi) (by rw [hnl, hm]; exact (Nat.min_self n).symm) (fun j u hj => by
      rw [addr_add]
      exact h5 j u hj) (by rw [hnl, hc]; omega) (nats_one k m)
    have hrow : (cs.toList.take 0 ++ nats k m ++ cs.toList.drop (0 + (nats k m).length)).toArray = ints k m := by
      rw [List.take_zero, List.nil_append, Nat.zero_add, List.drop_of_length_le (by rw [Array.length_toList, hnl, hc]; exact Nat.le_refl _), List.append_nil]
    rw [hrow, hnl] at hrun
    refine st_run (w1 := w.setRow g (ints k m)) (v := goInt n) hw ?_ (kk _ (hE.store hi _))
    unfold execOp
    simp only [ho, resolve, invoke, builtin, Sem.run_bind, Sem.run_pure, Result.andThen_ok, List.map_toArray, List.map_cons, List.map_nil, hx, hy, hrun]
end
theorem sum256_r (m : List Nat) : sumS k256 (2 * k256.w) 8 m = sum256 m := rfl
theorem sum512_r (m : List Nat) : sumS k512 (2 * k512.w) 16 m = sum512 m := rfl

set_option maxRecDepth 100000 in
set_option maxHeartbeats 8000000 in
theorem rSum32_any {m : List Nat} {v : Value} {w : World} (hM : RdS .u8 m v w) (dm : Digs 256 m) (hm : m.length < 549755813888) : Gives 11 #[v] w (.agg (ints .u8 (sum256 m))) := by
  have HM := Lib.hid hM
  have Hd := Lib.hid dm
  have hl := sum256_len m
  clear hM dm
  have hE0 := Env.nil w
  go_enter Try.func11, Try.ntmps11
  repeat ((fail_if_success (with_reducible show wpList _ _ _ (List.cons _ _) _ _)); (fail_if_success (with_reducible show Code.wp _ (Code.region _ _ true) _ _ _)); go_step)
  refine wl_step (st_alloc (zs := ints .u8 (List.replicate 32 0)) hE0 rfl rfl (fun w => by kernel_rfl) ?_)
  intro g0 w1 hb1 hE1
  clear hE0
  simp only [Act.put, List.setIfInBounds_toArray, List.set_cons_zero, List.set_cons_succ]
  repeat ((fail_if_success (with_reducible show wpList _ _ _ (List.cons _ _) _ _)); (fail_if_success (with_reducible show Code.wp _ (Code.region _ _ true) _ _ _)); go_step)
  refine wl_step (st_alloc (zs := ints .u8 (List.replicate 32 0)) hE1 rfl rfl (fun w => by kernel_rfl) ?_)
  intro g1 w2 hb2 hE2
  clear hE1
  simp only [Act.put, List.setIfInBounds_toArray, List.set_cons_zero, List.set_cons_succ]
  repeat ((fail_if_success (with_reducible show wpList _ _ _ (List.cons _ _) _ _)); (fail_if_success (with_reducible show Code.wp _ (Code.region _ _ true) _ _ _)); go_step)
  refine wp_region_B (n := 5) 4 (by kernel_rfl) rfl hE2 ?_
  intro w3 hb3 hE3
  clear hE2
  refine wpB_take (i := 0) (by kernel_rfl) rfl (by kernel_rfl) (fun _ _ _ h => h) rfl (v_sliceAll rfl rfl Try.underlying28 (by kernel_rfl)) ?_
  simp only [Act.put, List.setIfInBounds_toArray, List.set_cons_zero, List.set_cons_succ]
  refine wpB_take (i := 2) (by kernel_rfl) rfl (by kernel_rfl) (fun _ _ _ h => h) rfl (v_moveT (.inl rfl) rfl) ?_
  simp only [Act.put, List.setIfInBounds_toArray, List.set_cons_zero, List.set_cons_succ]
  refine wpB_step (i := 1) (by kernel_rfl) rfl (st_calls rfl (run_call rfl Try.call23) (Small_any _) ?_)
  rintro _ w4 ⟨fv, rv, rfl, hb4, hF, hR⟩
  have hE4 := hE3.call hb4
  refine ⟨_, rfl, ?_⟩
  clear hE3
  refine ⟨fun _ => hb4, ?_⟩
  simp only [Act.put, List.setIfInBounds_toArray, List.set_cons_zero, List.set_cons_succ]
  refine wpB_step (i := 3) (by kernel_rfl) rfl (st_calls rfl (run_call rfl Try.call22) (rSum_any k256_ok k256_first (fun j => k256_firstD j) (by decide) (by decide) (by decide) hm Hd.out hF hR (HM.out.below hE4.below)) ?_)
  rintro _ w5 ⟨v7, rfl, hS⟩
  have hb5 := hS.env.below
  have hE5 := hE4.call hb5
  rw [sum256_r] at hS
  refine ⟨_, rfl, ?_⟩
  clear hE4
  refine ⟨fun _ => hb5, ?_⟩
  simp only [Act.put, List.setIfInBounds_toArray, List.set_cons_zero, List.set_cons_succ]
  refine wpB_step (i := 4) (by kernel_rfl) rfl (st_copyAll (i := 0) hE5 rfl rfl rfl rfl hS.rd hl (by decide) Try.underlying25 (by kernel_rfl) rfl (by rw [ints_size]; rfl) ?_)
  intro w6 hE6
  clear hE5
  simp only [List.set_cons_zero] at hE6
  refine ⟨fun h => absurd h (by decide), ?_⟩
  simp only [Act.put, List.setIfInBounds_toArray, List.set_cons_zero, List.set_cons_succ]
  refine wpB_done (by kernel_rfl) ?_ _
  repeat ((fail_if_success (with_reducible show wpList _ _ _ (List.cons _ _) _ _)); (fail_if_success (with_reducible show Code.wp _ (Code.region _ _ true) _ _ _)); go_step)
  refine wl_step (st_val rfl (v_load (i := 0) hE6 rfl rfl rfl Try.underlying28 rfl (sz_of (n := 32) (by kernel_rfl) (by first | (simp only [ints_size, digs_length, List.length_replicate, List.length_cons, List.length_nil]; done) | (simp only [ints_size, digs_length, List.length_replicate, List.length_cons, List.length_nil, List.length_set, List.length_append]; omega) | rfl))) ?_)
  simp only [Act.put, List.setIfInBounds_toArray, List.set_cons_zero, List.set_cons_succ]
  refine wl_step (st_store (i := 1) hE6 rfl rfl rfl rfl rfl (sz_of (n := 32) (by kernel_rfl) (by first | (simp only [ints_size, digs_length, List.length_replicate, List.length_cons, List.length_nil]; done) | (simp only [ints_size, digs_length, List.length_replicate, List.length_cons, List.length_nil, List.length_set, List.length_append]; omega) | rfl)) (by first | (simp only [ints_size, digs_length, List.length_replicate, List.length_cons, List.length_nil]; done) | (simp only [ints_size, digs_length, List.length_replicate, List.length_cons, List.length_nil, List.length_set, List.length_append]; omega) | rfl) (by first | exact ints_one _ _ | decide | rfl | simp [*]) ?_)
  intro w7 hE7
  clear hE6
  simp only [List.set_cons_zero, List.set_cons_succ] at hE7
  simp only [Act.put, List.setIfInBounds_toArray, List.set_cons_zero, List.set_cons_succ]
  repeat ((fail_if_success (with_reducible show wpList _ _ _ (List.cons _ _) _ _)); (fail_if_success (with_reducible show Code.wp _ (Code.region _ _ true) _ _ _)); go_step)
  refine bodyPost_ret (results_cell_row rfl _ _ _ _ _ (0, 0) _ rfl (hE7.get (i := 1) rfl) Try.underlying28 rfl (sz_of (n := 32) (by kernel_rfl) (by first | (simp only [ints_size, digs_length, List.length_replicate, List.length_cons, List.length_nil]; done) | (simp only [ints_size, digs_length, List.length_replicate, List.length_cons, List.length_nil, List.length_set, List.length_append]; omega) | rfl))) rfl ⟨rfl, hE7.below⟩

set_option maxRecDepth 100000 in
set_option maxHeartbeats 8000000 in
theorem rSum64_any {m : List Nat} {v : Value} {w : World} (hM : RdS .u8 m v w) (dm : Digs 256 m) (hm : m.length < 549755813888) : Gives 15 #[v] w (.agg (ints .u8 (sum512 m))) := by
  have HM := Lib.hid hM
  have Hd := Lib.hid dm
  have hl := sum512_len m
  clear hM dm
  have hE0 := Env.nil w
  go_enter Try.func15, Try.ntmps15
  repeat ((fail_if_success (with_reducible show wpList _ _ _ (List.cons _ _) _ _)); (fail_if_success (with_reducible show Code.wp _ (Code.region _ _ true) _ _ _)); go_step)
  refine wl_step (st_alloc (zs := ints .u8 (List.replicate 64 0)) hE0 rfl rfl (fun w => by kernel_rfl) ?_)
  intro g0 w1 hb1 hE1
  clear hE0
  simp only [Act.put, List.setIfInBounds_toArray, List.set_cons_zero, List.set_cons_succ]
  repeat ((fail_if_success (with_reducible show wpList _ _ _ (List.cons _ _) _ _)); (fail_if_success (with_reducible show Code.wp _ (Code.region _ _ true) _ _ _)); go_step)
  refine wl_step (st_alloc (zs := ints .u8 (List.replicate 64 0)) hE1 rfl rfl (fun w => by kernel_rfl) ?_)
  intro g1 w2 hb2 hE2
  clear hE1
  simp only [Act.put, List.setIfInBounds_toArray, List.set_cons_zero, List.set_cons_succ]
  repeat ((fail_if_success (with_reducible show wpList _ _ _ (List.cons _ _) _ _)); (fail_if_success (with_reducible show Code.wp _ (Code.region _ _ true) _ _ _)); go_step)
  refine wp_region_B (n := 5) 4 (by kernel_rfl) rfl hE2 ?_
  intro w3 hb3 hE3
  clear hE2
  refine wpB_take (i := 0) (by kernel_rfl) rfl (by kernel_rfl) (fun _ _ _ h => h) rfl (v_sliceAll rfl rfl Try.underlying34 (by kernel_rfl)) ?_
  simp only [Act.put, List.setIfInBounds_toArray, List.set_cons_zero, List.set_cons_succ]
  refine wpB_take (i := 2) (by kernel_rfl) rfl (by kernel_rfl) (fun _ _ _ h => h) rfl (v_moveT (.inl rfl) rfl) ?_
  simp only [Act.put, List.setIfInBounds_toArray, List.set_cons_zero, List.set_cons_succ]
  refine wpB_step (i := 1) (by kernel_rfl) rfl (st_calls rfl (run_call rfl Try.call27) (Great_any _) ?_)
  rintro _ w4 ⟨fv, rv, rfl, hb4, hF, hR⟩
  have hE4 := hE3.call hb4
  refine ⟨_, rfl, ?_⟩
  clear hE3
  refine ⟨fun _ => hb4, ?_⟩
  simp only [Act.put, List.setIfInBounds_toArray, List.set_cons_zero, List.set_cons_succ]
  refine wpB_step (i := 3) (by kernel_rfl) rfl (st_calls rfl (run_call rfl Try.call22) (rSum_any k512_ok k512_first (fun j => k512_firstD j) (by decide) (by decide) (by decide) hm Hd.out hF hR (HM.out.below hE4.below)) ?_)
  rintro _ w5 ⟨v7, rfl, hS⟩
  have hb5 := hS.env.below
  have hE5 := hE4.call hb5
  rw [sum512_r] at hS
  refine ⟨_, rfl, ?_⟩
  clear hE4
  refine ⟨fun _ => hb5, ?_⟩
  simp only [Act.put, List.setIfInBounds_toArray, List.set_cons_zero, List.set_cons_succ]
  refine wpB_step (i := 4) (by kernel_rfl) rfl (st_copyAll (i := 0) hE5 rfl rfl rfl rfl hS.rd hl (by decide) Try.underlying25 (by kernel_rfl) rfl (by rw [ints_size]; rfl) ?_)
  intro w6 hE6
  clear hE5
  simp only [List.set_cons_zero] at hE6
  refine ⟨fun h => absurd h (by decide), ?_⟩
  simp only [Act.put, List.setIfInBounds_toArray, List.set_cons_zero, List.set_cons_succ]
  refine wpB_done (by kernel_rfl) ?_ _
  repeat ((fail_if_success (with_reducible show wpList _ _ _ (List.cons _ _) _ _)); (fail_if_success (with_reducible show Code.wp _ (Code.region _ _ true) _ _ _)); go_step)
  refine wl_step (st_val rfl (v_load (i := 0) hE6 rfl rfl rfl Try.underlying34 rfl (sz_of (n := 64) (by kernel_rfl) (by first | (simp only [ints_size, digs_length, List.length_replicate, List.length_cons, List.length_nil]; done) | (simp only [ints_size, digs_length, List.length_replicate, List.length_cons, List.length_nil, List.length_set, List.length_append]; omega) | rfl))) ?_)
  simp only [Act.put, List.setIfInBounds_toArray, List.set_cons_zero, List.set_cons_succ]
  refine wl_step (st_store (i := 1) hE6 rfl rfl rfl rfl rfl (sz_of (n := 64) (by kernel_rfl) (by first | (simp only [ints_size, digs_length, List.length_replicate, List.length_cons, List.length_nil]; done) | (simp only [ints_size, digs_length, List.length_replicate, List.length_cons, List.length_nil, List.length_set, List.length_append]; omega) | rfl)) (by first | (simp only [ints_size, digs_length, List.length_replicate, List.length_cons, List.length_nil]; done) | (simp only [ints_size, digs_length, List.length_replicate, List.length_cons, List.length_nil, List.length_set, List.length_append]; omega) | rfl) (by first | exact ints_one _ _ | decide | rfl | simp [*]) ?_)
  intro w7 hE7
  clear hE6
  simp only [List.set_cons_zero, List.set_cons_succ] at hE7
  simp only [Act.put, List.setIfInBounds_toArray, List.set_cons_zero, List.set_cons_succ]
  repeat ((fail_if_success (with_reducible show wpList _ _ _ (List.cons _ _) _ _)); (fail_if_success (with_reducible show Code.wp _ (Code.region _ _ true) _ _ _)); go_step)
  refine bodyPost_ret (results_cell_row rfl _ _ _ _ _ (0, 0) _ rfl (hE7.get (i := 1) rfl) Try.underlying34 rfl (sz_of (n := 64) (by kernel_rfl) (by first | (simp only [ints_size, digs_length, List.length_replicate, List.length_cons, List.length_nil]; done) | (simp only [ints_size, digs_length, List.length_replicate, List.length_cons, List.length_nil, List.length_set, List.length_append]; omega) | rfl))) rfl ⟨rfl, hE7.below⟩

end Go.Proofs.Ytndnmghlgcamfaa
