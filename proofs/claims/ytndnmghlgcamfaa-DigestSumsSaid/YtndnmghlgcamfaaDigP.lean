/-
  Layer 3, the document's: the two kinds; the sum of bytes.
-/
import Derived.Test.YtndnmghlgcamfaaDigO
namespace Go.Proofs.Ytndnmghlgcamfaa
open Go.RowKit
set_option linter.unusedVariables false
set_option linter.unusedSimpArgs false

theorem kcl_one {k : Kd} {r n m c d : Nat} {p q : Option Addr} : (kcl k r (.slice p n c) (.slice q m d)).toArray.all (·.oneCell') = true := by simp [kcl, Value.oneCell']
/-- A new kind's cells. -/
def kzero : List Value := [.int .i64 0, .slice none 0 0, .slice none 0 0] ++ List.replicate 13 (.int .i64 0) ++ [.int .u64 0]
theorem kcl_laid {k : Kd} {r n m c d : Nat} {p q : Option Addr} : laidAll [(0, 1), (1, 1), (2, 1), (3, 3), (6, 3), (9, 3), (12, 3), (15, 1), (16, 1)] kzero
    [(0, .int .i64 (k.w : Nat)), (1, .slice p n c), (2, .slice q m d), (3, .agg (ints .i64 [k.s0.1, k.s0.2.1, k.s0.2.2])), (4, .agg (ints .i64 [k.s1.1, k.s1.2.1, k.s1.2.2])), (5, .agg (ints .i64 [k.t0.1, k.t0.2.1, k.t0.2.2])), (6, .agg (ints .i64 [k.t1.1, k.t1.2.1, k.t1.2.2])), (7, .int .i64 (r : Nat)), (8, .int .u64 ((2 ^ k.w - 1 : Nat) : Int))] = some (kcl k r (.slice p n c) (.slice q m d)) := by
  simp [laidAll, kzero, kcl, Value.cells, ints, List.replicate]
set_option maxRecDepth 100000 in
set_option maxHeartbeats 8000000 in
theorem Small_any (w : World) : Calls Try.prog 23 #[] w fun e w' => ∃ fv rv, e = .returned (.agg (kcl k256 8 fv rv).toArray) ∧ Below w.heap.size w w' ∧ RdS .u64 k256.first fv w' ∧ RdS .u64 k256.rounds rv w' := by
  have hE0 := Env.nil w
  go_enter Try.func23, Try.ntmps23
  repeat ((fail_if_success (with_reducible show wpList _ _ _ (List.cons _ _) _ _)); (fail_if_success (with_reducible show Code.wp _ (Code.region _ _ true) _ _ _)); go_step)
  refine wl_step (st_alloc (zs := #[Value.int .i64 0, Value.slice none 0 0, Value.slice none 0 0, Value.int .i64 0, Value.int .i64 0, Value.int .i64 0, Value.int .i64 0, Value.int .i64 0, Value.int .i64 0, Value.int .i64 0, Value.int .i64 0, Value.int .i64 0, Value.int .i64 0, Value.int .i64 0, Value.int .i64 0, Value.int .i64 0, Value.int .u64 0]) hE0 rfl rfl (fun w => by kernel_rfl) ?_)
  intro g0 w1 hb1 hE1
  clear hE0
  simp only [Act.put, List.setIfInBounds_toArray, List.set_cons_zero, List.set_cons_succ]
  repeat ((fail_if_success (with_reducible show wpList _ _ _ (List.cons _ _) _ _)); (fail_if_success (with_reducible show Code.wp _ (Code.region _ _ true) _ _ _)); go_step)
  refine wl_step (st_buildNums (k := .u64) k256.first hE1 rfl rfl (by first | (kernel_rfl; done) | (simp only [List.map_cons, List.map_nil, List.zipIdx_cons, List.zipIdx_nil]; rfl)) rfl (by decide) (by decide) Try.underlying54 (by kernel_rfl) Try.zeroValue52 ?_)
  intro g1 w2 hb2 hE2
  clear hE1
  simp only [Act.put, List.setIfInBounds_toArray, List.set_cons_zero, List.set_cons_succ]
  refine wl_step (st_buildNums (k := .u64) k256.rounds hE2 rfl rfl (by first | (kernel_rfl; done) | (simp only [List.map_cons, List.map_nil, List.zipIdx_cons, List.zipIdx_nil]; rfl)) rfl (by decide) (by decide) Try.underlying54 (by kernel_rfl) Try.zeroValue52 ?_)
  intro g2 w3 hb3 hE3
  clear hE2
  simp only [Act.put, List.setIfInBounds_toArray, List.set_cons_zero, List.set_cons_succ]
  refine wl_step (st_val rfl (v_built (k := .i64) (l := [k256.s0.1, k256.s0.2.1, k256.s0.2.2]) rfl (fun w => by kernel_rfl)) ?_)
  simp only [Act.put, List.setIfInBounds_toArray, List.set_cons_zero, List.set_cons_succ]
  refine wl_step (st_val rfl (v_built (k := .i64) (l := [k256.s1.1, k256.s1.2.1, k256.s1.2.2]) rfl (fun w => by kernel_rfl)) ?_)
  simp only [Act.put, List.setIfInBounds_toArray, List.set_cons_zero, List.set_cons_succ]
  refine wl_step (st_val rfl (v_built (k := .i64) (l := [k256.t0.1, k256.t0.2.1, k256.t0.2.2]) rfl (fun w => by kernel_rfl)) ?_)
  simp only [Act.put, List.setIfInBounds_toArray, List.set_cons_zero, List.set_cons_succ]
  refine wl_step (st_val rfl (v_built (k := .i64) (l := [k256.t1.1, k256.t1.2.1, k256.t1.2.2]) rfl (fun w => by kernel_rfl)) ?_)
  simp only [Act.put, List.setIfInBounds_toArray, List.set_cons_zero, List.set_cons_succ]
  refine wl_step (st_val rfl (v_buildV (zs := kzero) (vals := [(0, .int .i64 (k256.w : Nat)), (1, .slice (some ⟨g1, 0, none⟩) 8 8), (2, .slice (some ⟨g2, 0, none⟩) 64 64), (3, .agg (ints .i64 [k256.s0.1, k256.s0.2.1, k256.s0.2.2])), (4, .agg (ints .i64 [k256.s1.1, k256.s1.2.1, k256.s1.2.2])), (5, .agg (ints .i64 [k256.t0.1, k256.t0.2.1, k256.t0.2.2])), (6, .agg (ints .i64 [k256.t1.1, k256.t1.2.1, k256.t1.2.2])), (7, .int .i64 (8 : Nat)), (8, .int .u64 ((2 ^ k256.w - 1 : Nat) : Int))]) (kcl k256 8 (.slice (some ⟨g1, 0, none⟩) 8 8) (.slice (some ⟨g2, 0, none⟩) 64 64)) rfl (by kernel_rfl) Try.underlying57 (by kernel_rfl) rfl kcl_laid) ?_)
  simp only [Act.put, List.setIfInBounds_toArray, List.set_cons_zero, List.set_cons_succ]
  refine wl_step (st_store (i := 2) hE3 rfl rfl rfl rfl rfl (sz_of (n := 17) (by kernel_rfl) rfl) rfl kcl_one ?_)
  intro w4 hE4
  clear hE3
  simp only [List.set_cons_zero, List.set_cons_succ] at hE4
  simp only [Act.put, List.setIfInBounds_toArray, List.set_cons_zero, List.set_cons_succ]
  repeat ((fail_if_success (with_reducible show wpList _ _ _ (List.cons _ _) _ _)); (fail_if_success (with_reducible show Code.wp _ (Code.region _ _ true) _ _ _)); (fail_if_success (with_reducible show Code.wp _ (Code.cond _ _ _) _ _ _)); go_step)
  refine bodyPost_ret (results_cell_row rfl _ _ _ _ _ (0, 0) _ rfl ((hE4).get (i := 2) rfl) Try.underlying57 rfl (sz_of (n := 17) (by kernel_rfl) rfl)) rfl ?_
  exact ⟨_, _, rfl, (hE4).below, RdS.of_block ((hE4).get (i := 1) rfl), RdS.of_block ((hE4).get (i := 0) rfl)⟩

set_option maxRecDepth 100000 in
set_option maxHeartbeats 8000000 in
theorem Great_any (w : World) : Calls Try.prog 27 #[] w fun e w' => ∃ fv rv, e = .returned (.agg (kcl k512 16 fv rv).toArray) ∧ Below w.heap.size w w' ∧ RdS .u64 k512.first fv w' ∧ RdS .u64 k512.rounds rv w' := by
  have hE0 := Env.nil w
  go_enter Try.func27, Try.ntmps27
  repeat ((fail_if_success (with_reducible show wpList _ _ _ (List.cons _ _) _ _)); (fail_if_success (with_reducible show Code.wp _ (Code.region _ _ true) _ _ _)); go_step)
  refine wl_step (st_alloc (zs := #[Value.int .i64 0, Value.slice none 0 0, Value.slice none 0 0, Value.int .i64 0, Value.int .i64 0, Value.int .i64 0, Value.int .i64 0, Value.int .i64 0, Value.int .i64 0, Value.int .i64 0, Value.int .i64 0, Value.int .i64 0, Value.int .i64 0, Value.int .i64 0, Value.int .i64 0, Value.int .i64 0, Value.int .u64 0]) hE0 rfl rfl (fun w => by kernel_rfl) ?_)
  intro g0 w1 hb1 hE1
  clear hE0
  simp only [Act.put, List.setIfInBounds_toArray, List.set_cons_zero, List.set_cons_succ]
  repeat ((fail_if_success (with_reducible show wpList _ _ _ (List.cons _ _) _ _)); (fail_if_success (with_reducible show Code.wp _ (Code.region _ _ true) _ _ _)); go_step)
  refine wl_step (st_buildNums (k := .u64) k512.first hE1 rfl rfl (by first | (kernel_rfl; done) | (simp only [List.map_cons, List.map_nil, List.zipIdx_cons, List.zipIdx_nil]; rfl)) rfl (by decide) (by decide) Try.underlying54 (by kernel_rfl) Try.zeroValue52 ?_)
  intro g1 w2 hb2 hE2
  clear hE1
  simp only [Act.put, List.setIfInBounds_toArray, List.set_cons_zero, List.set_cons_succ]
  refine wl_step (st_buildNums (k := .u64) k512.rounds hE2 rfl rfl (by first | (kernel_rfl; done) | (simp only [List.map_cons, List.map_nil, List.zipIdx_cons, List.zipIdx_nil]; rfl)) rfl (by decide) (by decide) Try.underlying54 (by kernel_rfl) Try.zeroValue52 ?_)
  intro g2 w3 hb3 hE3
  clear hE2
  simp only [Act.put, List.setIfInBounds_toArray, List.set_cons_zero, List.set_cons_succ]
  refine wl_step (st_val rfl (v_built (k := .i64) (l := [k512.s0.1, k512.s0.2.1, k512.s0.2.2]) rfl (fun w => by kernel_rfl)) ?_)
  simp only [Act.put, List.setIfInBounds_toArray, List.set_cons_zero, List.set_cons_succ]
  refine wl_step (st_val rfl (v_built (k := .i64) (l := [k512.s1.1, k512.s1.2.1, k512.s1.2.2]) rfl (fun w => by kernel_rfl)) ?_)
  simp only [Act.put, List.setIfInBounds_toArray, List.set_cons_zero, List.set_cons_succ]
  refine wl_step (st_val rfl (v_built (k := .i64) (l := [k512.t0.1, k512.t0.2.1, k512.t0.2.2]) rfl (fun w => by kernel_rfl)) ?_)
  simp only [Act.put, List.setIfInBounds_toArray, List.set_cons_zero, List.set_cons_succ]
  refine wl_step (st_val rfl (v_built (k := .i64) (l := [k512.t1.1, k512.t1.2.1, k512.t1.2.2]) rfl (fun w => by kernel_rfl)) ?_)
  simp only [Act.put, List.setIfInBounds_toArray, List.set_cons_zero, List.set_cons_succ]
  refine wl_step (st_val rfl (v_buildV (zs := kzero) (vals := [(0, .int .i64 (k512.w : Nat)), (1, .slice (some ⟨g1, 0, none⟩) 8 8), (2, .slice (some ⟨g2, 0, none⟩) 80 80), (3, .agg (ints .i64 [k512.s0.1, k512.s0.2.1, k512.s0.2.2])), (4, .agg (ints .i64 [k512.s1.1, k512.s1.2.1, k512.s1.2.2])), (5, .agg (ints .i64 [k512.t0.1, k512.t0.2.1, k512.t0.2.2])), (6, .agg (ints .i64 [k512.t1.1, k512.t1.2.1, k512.t1.2.2])), (7, .int .i64 (16 : Nat)), (8, .int .u64 ((2 ^ k512.w - 1 : Nat) : Int))]) (kcl k512 16 (.slice (some ⟨g1, 0, none⟩) 8 8) (.slice (some ⟨g2, 0, none⟩) 80 80)) rfl (by kernel_rfl) Try.underlying57 (by kernel_rfl) rfl kcl_laid) ?_)
  simp only [Act.put, List.setIfInBounds_toArray, List.set_cons_zero, List.set_cons_succ]
  refine wl_step (st_store (i := 2) hE3 rfl rfl rfl rfl rfl (sz_of (n := 17) (by kernel_rfl) rfl) rfl kcl_one ?_)
  intro w4 hE4
  clear hE3
  simp only [List.set_cons_zero, List.set_cons_succ] at hE4
  simp only [Act.put, List.setIfInBounds_toArray, List.set_cons_zero, List.set_cons_succ]
  repeat ((fail_if_success (with_reducible show wpList _ _ _ (List.cons _ _) _ _)); (fail_if_success (with_reducible show Code.wp _ (Code.region _ _ true) _ _ _)); (fail_if_success (with_reducible show Code.wp _ (Code.cond _ _ _) _ _ _)); go_step)
  refine bodyPost_ret (results_cell_row rfl _ _ _ _ _ (0, 0) _ rfl ((hE4).get (i := 2) rfl) Try.underlying57 rfl (sz_of (n := 17) (by kernel_rfl) rfl)) rfl ?_
  exact ⟨_, _, rfl, (hE4).below, RdS.of_block ((hE4).get (i := 1) rfl), RdS.of_block ((hE4).get (i := 0) rfl)⟩

end Go.Proofs.Ytndnmghlgcamfaa
