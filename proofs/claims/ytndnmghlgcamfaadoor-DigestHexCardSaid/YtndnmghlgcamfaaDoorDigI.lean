/-
  Layer 3: a stream that bytes are written to.
-/
import Derived.Test.YtndnmghlgcamfaaDoorDigH
import Derived.Test.YtndnmghlgcamfaaDoorDigD
import Derived.Test.YtndnmghlgcamfaaDoorDigU
import Derived.Test.YtndnmghlgcamfaaDoorBlm
namespace Go.Proofs.YtndnmghlgcamfaaDoor
open Go.RowKit
set_option maxRecDepth 100000
set_option linter.unusedVariables false
set_option linter.unusedSimpArgs false

/-- A stream's cells. -/
def scl (st : List Nat) (v : Value) (n : Nat) : List Value := nats .u32 st ++ [v, .int .i64 (n : Int)]
section
variable {st : List Nat} {v : Value} {n : Nat}
theorem scl_len (h : st.length = 8) : (scl st v n).length = 10 := by unfold scl; rw [List.length_append, nats_len, h]; rfl
theorem scl_get8 (h : st.length = 8) : (scl st v n)[8]? = some v := by unfold scl; rw [List.getElem?_append_right (by rw [nats_len, h]; exact Nat.le_refl _), nats_len, h]; rfl
theorem scl_get9 (h : st.length = 8) : (scl st v n)[9]? = some (.int .i64 (n : Int)) := by unfold scl; rw [List.getElem?_append_right (by rw [nats_len, h]; decide), nats_len, h]; rfl
theorem scl_set8 (h : st.length = 8) (u : Value) : (scl st v n).set 8 u = scl st u n := by unfold scl; rw [List.set_append_right _ _ (by rw [nats_len, h]; exact Nat.le_refl _), nats_len, h]; rfl
theorem scl_set9 (h : st.length = 8) (m : Nat) : (scl st v n).set 9 (.int .i64 (m : Int)) = scl st v m := by unfold scl; rw [List.set_append_right _ _ (by rw [nats_len, h]; decide), nats_len, h]; rfl
theorem scl_state (h : st.length = 8) : ((scl st v n).drop 0).take 8 = nats .u32 st := by unfold scl; rw [List.drop_zero, List.take_left' (by rw [nats_len, h])]
theorem scl_put (h : st.length = 8) {st' : List Nat} : (scl st v n).take 0 ++ nats .u32 st' ++ (scl st v n).drop (0 + 8) = scl st' v n := by
  unfold scl
  rw [List.take_zero, List.nil_append, Nat.zero_add, List.drop_left' (by rw [nats_len, h])]
end
/-- A new stream's cells. -/
def szero : List Value := List.replicate 8 (.int .u32 0) ++ [.slice none 0 0, .int .i64 0]
theorem laid_state {st : List Nat} (h : st.length = 8) : laidAll [(0, 8), (8, 1), (9, 1)] szero [(0, .agg (ints .u32 st))] = some (scl st (.slice none 0 0) 0) := by
  match st, h with
  | [a0, a1, a2, a3, a4, a5, a6, a7], _ => rfl
theorem laid_all {st : List Nat} {n : Nat} {p : Option Addr} {m c : Nat} (h : st.length = 8) : laidAll [(0, 8), (8, 1), (9, 1)] szero [(0, .agg (ints .u32 st)), (1, .slice p m c), (2, .int .i64 (n : Int))] = some (scl st (.slice p m c) n) := by
  match st, h with
  | [a0, a1, a2, a3, a4, a5, a6, a7], _ => rfl
/-- The state behind a message's whole blocks. -/
def st256 (M : List Nat) : List Nat := chainS k256 64 k256.first M (M.length / 64)
theorem st256_len (M : List Nat) : (st256 M).length = 8 := chainS_len k256_first _ _

set_option maxHeartbeats 2000000 in
theorem first256_any (w : World) : Gives 20 #[] w (.agg (ints .u32 k256.first)) := by
  have hk8 : k256.first.length = 8 := rfl
  have hE0 := Env.nil w
  go_enter Tryd.func20, Tryd.ntmps20
  repeat ((fail_if_success (with_reducible show wpList _ _ _ (List.cons _ _) _ _)); (fail_if_success (with_reducible show Code.wp _ (Code.region _ _ true) _ _ _)); go_step)
  refine wl_step (st_alloc (zs := ints .u32 (List.replicate 8 0)) hE0 rfl rfl (fun w => by kernel_rfl) ?_)
  intro g0 w1 hb1 hE1
  clear hE0
  simp only [Act.put, List.setIfInBounds_toArray, List.set_cons_zero, List.set_cons_succ]
  repeat ((fail_if_success (with_reducible show wpList _ _ _ (List.cons _ _) _ _)); (fail_if_success (with_reducible show Code.wp _ (Code.region _ _ true) _ _ _)); go_step)
  refine wl_step (st_val rfl (v_built (k := .u32) (l := k256.first) rfl (fun w => by kernel_rfl)) ?_)
  simp only [Act.put, List.setIfInBounds_toArray, List.set_cons_zero, List.set_cons_succ]
  refine wl_step (st_store (i := 0) hE1 rfl rfl rfl rfl rfl (sz_of (n := 8) (by kernel_rfl) (by first | (simp only [ints_size, digs_length, List.length_replicate, List.length_cons, List.length_nil]; done) | (simp only [ints_size, digs_length, List.length_replicate, List.length_cons, List.length_nil, List.length_set, List.length_append]; omega) | rfl)) (by first | (simp only [ints_size, digs_length, List.length_replicate, List.length_cons, List.length_nil]; done) | (simp only [ints_size, digs_length, List.length_replicate, List.length_cons, List.length_nil, List.length_set, List.length_append]; omega) | rfl) (by first | exact ints_one _ _ | decide | rfl | simp [*]) ?_)
  intro w2 hE2
  clear hE1
  simp only [List.set_cons_zero, List.set_cons_succ] at hE2
  simp only [Act.put, List.setIfInBounds_toArray, List.set_cons_zero, List.set_cons_succ]
  repeat ((fail_if_success (with_reducible show wpList _ _ _ (List.cons _ _) _ _)); (fail_if_success (with_reducible show Code.wp _ (Code.region _ _ true) _ _ _)); go_step)
  refine bodyPost_ret (results_cell_row rfl _ _ _ _ _ (0, 0) _ rfl (hE2.get (i := 0) rfl) Tryd.underlying57 rfl (sz_of (n := 8) (by kernel_rfl) (by first | (simp only [ints_size, digs_length, List.length_replicate, List.length_cons, List.length_nil]; done) | (simp only [ints_size, digs_length, List.length_replicate, List.length_cons, List.length_nil, List.length_set, List.length_append]; omega) | rfl))) rfl ⟨rfl, hE2.below⟩
set_option maxRecDepth 100000 in
set_option maxHeartbeats 4000000 in
theorem rounds256_any (w : World) : Gives 21 #[] w (.agg (ints .u32 k256.rounds)) := by
  have hk8 : k256.rounds.length = 64 := rfl
  have hE0 := Env.nil w
  go_enter Tryd.func21, Tryd.ntmps21
  repeat ((fail_if_success (with_reducible show wpList _ _ _ (List.cons _ _) _ _)); (fail_if_success (with_reducible show Code.wp _ (Code.region _ _ true) _ _ _)); go_step)
  refine wl_step (st_alloc (zs := ints .u32 (List.replicate 64 0)) hE0 rfl rfl (fun w => by kernel_rfl) ?_)
  intro g0 w1 hb1 hE1
  clear hE0
  simp only [Act.put, List.setIfInBounds_toArray, List.set_cons_zero, List.set_cons_succ]
  repeat ((fail_if_success (with_reducible show wpList _ _ _ (List.cons _ _) _ _)); (fail_if_success (with_reducible show Code.wp _ (Code.region _ _ true) _ _ _)); go_step)
  refine wl_step (st_val rfl (v_built (k := .u32) (l := k256.rounds) rfl (fun w => by kernel_rfl)) ?_)
  simp only [Act.put, List.setIfInBounds_toArray, List.set_cons_zero, List.set_cons_succ]
  refine wl_step (st_store (i := 0) hE1 rfl rfl rfl rfl rfl (sz_of (n := 64) (by kernel_rfl) (by first | (simp only [ints_size, digs_length, List.length_replicate, List.length_cons, List.length_nil]; done) | (simp only [ints_size, digs_length, List.length_replicate, List.length_cons, List.length_nil, List.length_set, List.length_append]; omega) | rfl)) (by first | (simp only [ints_size, digs_length, List.length_replicate, List.length_cons, List.length_nil]; done) | (simp only [ints_size, digs_length, List.length_replicate, List.length_cons, List.length_nil, List.length_set, List.length_append]; omega) | rfl) (by first | exact ints_one _ _ | decide | rfl | simp [*]) ?_)
  intro w2 hE2
  clear hE1
  simp only [List.set_cons_zero, List.set_cons_succ] at hE2
  simp only [Act.put, List.setIfInBounds_toArray, List.set_cons_zero, List.set_cons_succ]
  repeat ((fail_if_success (with_reducible show wpList _ _ _ (List.cons _ _) _ _)); (fail_if_success (with_reducible show Code.wp _ (Code.region _ _ true) _ _ _)); go_step)
  refine bodyPost_ret (results_cell_row rfl _ _ _ _ _ (0, 0) _ rfl (hE2.get (i := 0) rfl) Tryd.underlying61 rfl (sz_of (n := 64) (by kernel_rfl) (by first | (simp only [ints_size, digs_length, List.length_replicate, List.length_cons, List.length_nil]; done) | (simp only [ints_size, digs_length, List.length_replicate, List.length_cons, List.length_nil, List.length_set, List.length_append]; omega) | rfl))) rfl ⟨rfl, hE2.below⟩

set_option maxRecDepth 100000 in
set_option maxHeartbeats 4000000 in
theorem New_any (w : World) : Calls Tryd.prog 13 #[] w fun e w' => ∃ g, e = .returned (.pointer (some ⟨g, 0, none⟩)) ∧ Env w [⟨g, 60, (scl k256.first (.slice none 0 0) 0).toArray⟩] w' := by
  have hE0 := Env.nil w
  go_enter Tryd.func13, Tryd.ntmps13
  repeat ((fail_if_success (with_reducible show wpList _ _ _ (List.cons _ _) _ _)); (fail_if_success (with_reducible show Code.wp _ (Code.region _ _ true) _ _ _)); go_step)
  refine wl_step (st_val rfl (v_moveC (.inr rfl)) ?_)
  simp only [Act.put, List.setIfInBounds_toArray, List.set_cons_zero, List.set_cons_succ]
  repeat ((fail_if_success (with_reducible show wpList _ _ _ (List.cons _ _) _ _)); (fail_if_success (with_reducible show Code.wp _ (Code.region _ _ true) _ _ _)); go_step)
  refine wl_step (st_gives hE0 rfl (run_call rfl Tryd.call20) (first256_any _) ?_)
  intro w1 hb1 hE1
  clear hE0
  simp only [Act.put, List.setIfInBounds_toArray, List.set_cons_zero, List.set_cons_succ]
  refine wl_step (st_val rfl (v_buildV (zs := szero) (lay := [(0, 8), (8, 1), (9, 1)]) (vals := [(0, .agg (ints .u32 k256.first))]) (scl k256.first (.slice none 0 0) 0) rfl (by kernel_rfl) Tryd.underlying60 (by kernel_rfl) rfl (laid_state k256_first)) ?_)
  simp only [Act.put, List.setIfInBounds_toArray, List.set_cons_zero, List.set_cons_succ]
  refine wl_step (st_boxA hE1 rfl rfl rfl ?_)
  intro g0 w2 hb2 hE2
  clear hE1
  simp only [Act.put, List.setIfInBounds_toArray, List.set_cons_zero, List.set_cons_succ]
  refine wl_step (st_val rfl (v_moveT (.inr rfl) rfl) ?_)
  simp only [Act.put, List.setIfInBounds_toArray, List.set_cons_zero, List.set_cons_succ]
  go_wp2
  go_returns
  exact ⟨_, rfl, hE2⟩
end Go.Proofs.YtndnmghlgcamfaaDoor
