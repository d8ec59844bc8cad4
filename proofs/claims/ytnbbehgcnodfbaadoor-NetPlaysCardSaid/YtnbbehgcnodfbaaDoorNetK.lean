/-
  Layer 28: a net that is not there: what its calls answer.
-/
import Derived.Test.YtnbbehgcnodfbaaDoorNetJ
import Derived.Test.YtnbbehgcnodfbaaDoorErrB
namespace Go.Proofs.YtnbbehgcnodfbaaDoor
open Go.RowKit
set_option maxRecDepth 100000
set_option linter.unusedVariables false
set_option linter.unusedSimpArgs false

section
variable {P : Program} {a : Act} {w : World} {o : Oper}
theorem v_leqI {t t' : TypeId} {x y : Operand} {k : IntKind} {m n : Int} (ho : o.op = .binOp .leq t x y t') (hx : a.eval x = .int k m) (hy : a.eval y = .int k n) : Val P o a (.bool (decide (m ≤ n))) w :=
  v_bin ho hx hy fun w => by simp [binOp, Op.intCmp, Sem.run_pure]
end
set_option maxHeartbeats 2000000 in
theorem with_nil {F : Value} {i : Int} {w : World} : Gives 27 #[.pointer none, .int .i64 i, F] w (errC 14) := by
  go_enter Tryd.func27, Tryd.ntmps27
  go_wp2
  go_returns
  exact ⟨rfl, Below.refl _ _⟩
set_option maxHeartbeats 2000000 in
theorem Send_nil {x : Value} {w : World} : Gives 17 #[.pointer none, x] w (errC 14) := by
  go_enter Tryd.func17, Tryd.ntmps17
  go_wp2
  go_returns
  exact ⟨rfl, Below.refl _ _⟩
set_option maxHeartbeats 2000000 in
theorem List_nil {w : World} : Gives 10 #[.pointer none] w (.slice none 0 0) := by
  go_enter Tryd.func10, Tryd.ntmps10
  go_wp2
  go_returns
  exact ⟨rfl, Below.refl _ _⟩
set_option maxHeartbeats 2000000 in
theorem Len_nil {w : World} : Gives 11 #[.pointer none] w (.int .i64 0) := by
  go_enter Tryd.func11, Tryd.ntmps11
  go_wp2
  go_returns
  exact ⟨rfl, Below.refl _ _⟩
set_option maxHeartbeats 2000000 in
theorem Room_nil {w : World} : Gives 12 #[.pointer none] w (.int .i64 0) := by
  go_enter Tryd.func12, Tryd.ntmps12
  go_wp2
  go_returns
  exact ⟨rfl, Below.refl _ _⟩
set_option maxHeartbeats 4000000 in
theorem To_nil {i : Int} {w : World} : Gives 14 #[.pointer none, .int .i64 i] w (.slice none 0 0) := by
  go_enter Tryd.func14, Tryd.ntmps14
  go_wp2_with (go_at_call 10; refine (List_nil).mono ?_; rintro e w' ⟨rfl, hb⟩)
  refine wp_loop_rounds 1 ?_
  rw [rounds_succ]
  go_wp2
  go_returns
  exact ⟨rfl, hb⟩
set_option maxHeartbeats 4000000 in
theorem Take_nil {i : Int} {w : World} : Gives 16 #[.pointer none, .int .i64 i] w (.tuple #[.agg #[.int .i64 0, .int .i64 0, .slice none 0 0], errC 14]) := by
  have hE0 := Env.nil w
  go_enter Tryd.func16, Tryd.ntmps16
  repeat ((fail_if_success (with_reducible show wpList _ _ _ (List.cons _ _) _ _)); (fail_if_success (with_reducible show Code.wp _ (Code.region _ _ true) _ _ _)); go_step)
  refine wl_step (st_box hE0 rfl rfl rfl ?_)
  intro g0 w1 hb1 hE1
  clear hE0
  simp only [Act.put, List.setIfInBounds_toArray, List.set_cons_zero, List.set_cons_succ]
  refine wl_step (st_box hE1 rfl rfl rfl ?_)
  intro g1 w2 hb2 hE2
  clear hE1
  simp only [Act.put, List.setIfInBounds_toArray, List.set_cons_zero, List.set_cons_succ]
  refine wl_step (st_alloc (zs := #[Value.int .i64 0, Value.int .i64 0, Value.slice none 0 0]) hE2 rfl rfl (fun w => by kernel_rfl) ?_)
  intro g2 w3 hb3 hE3
  clear hE2
  simp only [Act.put, List.setIfInBounds_toArray, List.set_cons_zero, List.set_cons_succ]
  refine wl_step (st_val rfl (v_moveC (.inr rfl)) ?_)
  simp only [Act.put, List.setIfInBounds_toArray, List.set_cons_zero, List.set_cons_succ]
  repeat ((fail_if_success (with_reducible show wpList _ _ _ (List.cons _ _) _ _)); (fail_if_success (with_reducible show Code.wp _ (Code.region _ _ true) _ _ _)); go_step)
  refine wl_step (st_alloc (zs := #[Value.int .i64 0, Value.int .i64 0, Value.slice none 0 0]) hE3 rfl rfl (fun w => by kernel_rfl) ?_)
  intro g3 w4 hb4 hE4
  clear hE3
  simp only [Act.put, List.setIfInBounds_toArray, List.set_cons_zero, List.set_cons_succ]
  repeat ((fail_if_success (with_reducible show wpList _ _ _ (List.cons _ _) _ _)); (fail_if_success (with_reducible show Code.wp _ (Code.region _ _ true) _ _ _)); go_step)
  refine wl_step (st_val rfl (v_cellB (v := .pointer none) (i := 3) hE4 rfl rfl rfl Tryd.underlying25 rfl rfl) ?_)
  simp only [Act.put, List.setIfInBounds_toArray, List.set_cons_zero, List.set_cons_succ]
  refine wl_step (st_val rfl (v_cellB (v := .int .i64 i) (i := 2) hE4 rfl rfl rfl Tryd.underlying3 rfl rfl) ?_)
  simp only [Act.put, List.setIfInBounds_toArray, List.set_cons_zero, List.set_cons_succ]
  refine wl_step (st_val rfl (v_makeFunc rfl rfl) ?_)
  simp only [Act.put, List.setIfInBounds_toArray, List.set_cons_zero, List.set_cons_succ]
  refine wl_step (st_gives hE4 rfl (run_call rfl Tryd.call27) (with_nil) ?_)
  intro w5 hb5 hE5
  clear hE4
  simp only [Act.put, List.setIfInBounds_toArray, List.set_cons_zero, List.set_cons_succ]
  refine wl_step (st_val rfl (v_moveT (.inr rfl) rfl) ?_)
  simp only [Act.put, List.setIfInBounds_toArray, List.set_cons_zero, List.set_cons_succ]
  repeat ((fail_if_success (with_reducible show wpList _ _ _ (List.cons _ _) _ _)); (fail_if_success (with_reducible show Code.wp _ (Code.region _ _ true) _ _ _)); go_step)
  refine wl_step (st_val rfl (v_load (i := 0) hE5 rfl rfl rfl Tryd.underlying43 rfl (sz_of (n := 3) (by kernel_rfl) rfl)) ?_)
  simp only [Act.put, List.setIfInBounds_toArray, List.set_cons_zero, List.set_cons_succ]
  refine wl_step (st_val rfl (v_moveT (.inl rfl) rfl) ?_)
  simp only [Act.put, List.setIfInBounds_toArray, List.set_cons_zero, List.set_cons_succ]
  refine wl_step (st_store (i := 1) hE5 rfl rfl rfl rfl rfl (sz_of (n := 3) (by kernel_rfl) rfl) rfl (by simp; exact ⟨rfl, rfl⟩) ?_)
  intro w6 hE6
  clear hE5
  simp only [List.set_cons_zero, List.set_cons_succ] at hE6
  simp only [Act.put, List.setIfInBounds_toArray, List.set_cons_zero, List.set_cons_succ]
  refine wl_step (st_val rfl (v_moveT (.inr rfl) rfl) ?_)
  simp only [Act.put, List.setIfInBounds_toArray, List.set_cons_zero, List.set_cons_succ]
  repeat ((fail_if_success (with_reducible show wpList _ _ _ (List.cons _ _) _ _)); (fail_if_success (with_reducible show Code.wp _ (Code.region _ _ true) _ _ _)); (fail_if_success (with_reducible show Code.wp _ (Code.cond _ _ _) _ _ _)); go_step)
  refine bodyPost_ret (results_ct rfl _ _ _ _ _ (0, 0) _ rfl ((hE6).get (i := 1) rfl) Tryd.underlying43 rfl (sz_of (n := 3) (by kernel_rfl) rfl) rfl) rfl ?_
  exact ⟨rfl, (hE6).below⟩
set_option maxHeartbeats 4000000 in
theorem Copy_nil {i : Int} {w : World} : Gives 18 #[.pointer none, .int .i64 i] w (errC 14) := by
  have hE0 := Env.nil w
  go_enter Tryd.func18, Tryd.ntmps18
  repeat ((fail_if_success (with_reducible show wpList _ _ _ (List.cons _ _) _ _)); (fail_if_success (with_reducible show Code.wp _ (Code.region _ _ true) _ _ _)); go_step)
  refine wl_step (st_box hE0 rfl rfl rfl ?_)
  intro g0 w1 hb1 hE1
  clear hE0
  simp only [Act.put, List.setIfInBounds_toArray, List.set_cons_zero, List.set_cons_succ]
  refine wl_step (st_box hE1 rfl rfl rfl ?_)
  intro g1 w2 hb2 hE2
  clear hE1
  simp only [Act.put, List.setIfInBounds_toArray, List.set_cons_zero, List.set_cons_succ]
  refine wl_step (st_val rfl (v_moveC (.inr rfl)) ?_)
  simp only [Act.put, List.setIfInBounds_toArray, List.set_cons_zero, List.set_cons_succ]
  repeat ((fail_if_success (with_reducible show wpList _ _ _ (List.cons _ _) _ _)); (fail_if_success (with_reducible show Code.wp _ (Code.region _ _ true) _ _ _)); go_step)
  refine wl_step (st_val rfl (v_cellB (v := .pointer none) (i := 1) hE2 rfl rfl rfl Tryd.underlying25 rfl rfl) ?_)
  simp only [Act.put, List.setIfInBounds_toArray, List.set_cons_zero, List.set_cons_succ]
  refine wl_step (st_val rfl (v_cellB (v := .int .i64 i) (i := 0) hE2 rfl rfl rfl Tryd.underlying3 rfl rfl) ?_)
  simp only [Act.put, List.setIfInBounds_toArray, List.set_cons_zero, List.set_cons_succ]
  refine wl_step (st_val rfl (v_makeFunc rfl rfl) ?_)
  simp only [Act.put, List.setIfInBounds_toArray, List.set_cons_zero, List.set_cons_succ]
  refine wl_step (st_gives hE2 rfl (run_call rfl Tryd.call27) (with_nil) ?_)
  intro w3 hb3 hE3
  clear hE2
  simp only [Act.put, List.setIfInBounds_toArray, List.set_cons_zero, List.set_cons_succ]
  refine wl_step (st_val rfl (v_moveT (.inr rfl) rfl) ?_)
  simp only [Act.put, List.setIfInBounds_toArray, List.set_cons_zero, List.set_cons_succ]
  repeat ((fail_if_success (with_reducible show wpList _ _ _ (List.cons _ _) _ _)); (fail_if_success (with_reducible show Code.wp _ (Code.region _ _ true) _ _ _)); go_step)
  go_returns
  exact ⟨rfl, hE3.below⟩
set_option maxHeartbeats 4000000 in
theorem Swap_nil {i k : Int} {w : World} : Gives 19 #[.pointer none, .int .i64 i, .int .i64 k] w (errC 14) := by
  have hE0 := Env.nil w
  go_enter Tryd.func19, Tryd.ntmps19
  repeat ((fail_if_success (with_reducible show wpList _ _ _ (List.cons _ _) _ _)); (fail_if_success (with_reducible show Code.wp _ (Code.region _ _ true) _ _ _)); go_step)
  refine wl_step (st_box hE0 rfl rfl rfl ?_)
  intro g0 w1 hb1 hE1
  clear hE0
  simp only [Act.put, List.setIfInBounds_toArray, List.set_cons_zero, List.set_cons_succ]
  refine wl_step (st_box hE1 rfl rfl rfl ?_)
  intro g1 w2 hb2 hE2
  clear hE1
  simp only [Act.put, List.setIfInBounds_toArray, List.set_cons_zero, List.set_cons_succ]
  refine wl_step (st_box hE2 rfl rfl rfl ?_)
  intro g2 w3 hb3 hE3
  clear hE2
  simp only [Act.put, List.setIfInBounds_toArray, List.set_cons_zero, List.set_cons_succ]
  refine wl_step (st_val rfl (v_moveC (.inr rfl)) ?_)
  simp only [Act.put, List.setIfInBounds_toArray, List.set_cons_zero, List.set_cons_succ]
  repeat ((fail_if_success (with_reducible show wpList _ _ _ (List.cons _ _) _ _)); (fail_if_success (with_reducible show Code.wp _ (Code.region _ _ true) _ _ _)); go_step)
  refine wl_step (st_val rfl (v_cellB (v := .pointer none) (i := 2) hE3 rfl rfl rfl Tryd.underlying25 rfl rfl) ?_)
  simp only [Act.put, List.setIfInBounds_toArray, List.set_cons_zero, List.set_cons_succ]
  refine wl_step (st_val rfl (v_cellB (v := .int .i64 i) (i := 1) hE3 rfl rfl rfl Tryd.underlying3 rfl rfl) ?_)
  simp only [Act.put, List.setIfInBounds_toArray, List.set_cons_zero, List.set_cons_succ]
  refine wl_step (st_val rfl (v_makeFunc rfl rfl) ?_)
  simp only [Act.put, List.setIfInBounds_toArray, List.set_cons_zero, List.set_cons_succ]
  refine wl_step (st_gives hE3 rfl (run_call rfl Tryd.call27) (with_nil) ?_)
  intro w4 hb4 hE4
  clear hE3
  simp only [Act.put, List.setIfInBounds_toArray, List.set_cons_zero, List.set_cons_succ]
  refine wl_step (st_val rfl (v_moveT (.inr rfl) rfl) ?_)
  simp only [Act.put, List.setIfInBounds_toArray, List.set_cons_zero, List.set_cons_succ]
  repeat ((fail_if_success (with_reducible show wpList _ _ _ (List.cons _ _) _ _)); (fail_if_success (with_reducible show Code.wp _ (Code.region _ _ true) _ _ _)); go_step)
  go_returns
  exact ⟨rfl, hE4.below⟩
set_option maxHeartbeats 2000000 in
theorem New_bad {q : Int} {w : World} (h : ¬ (1 ≤ q ∧ q ≤ 64)) : Gives 7 #[.int .i64 q] w (.tuple #[.pointer none, errC 1]) := by
  go_enter Tryd.func7, Tryd.ntmps7
  by_cases h1 : q < 1
  · clear h
    go_wp2
    go_returns
    exact ⟨rfl, Below.refl _ _⟩
  · have h2 : 64 < q := by omega
    clear h
    go_wp2
    go_returns
    exact ⟨rfl, Below.refl _ _⟩
end Go.Proofs.YtnbbehgcnodfbaaDoor
