/-
  Layer 5: whether bytes are below the order.
-/
import Derived.Test.YtobfgleckcpcpaaOrdF
import Derived.Test.YtobfgleckcpcpaaEq
namespace Go.Proofs.Ytobfgleckcpcpaa
open Go.RowKit
set_option linter.unusedVariables false
set_option linter.unusedSimpArgs false

theorem eq_b32 {x y : List Nat} (hx : x.length = 32) (hy : y.length = 32) (dx : Digs 256 x) (dy : Digs 256 y) (w : World) :
    (Op.equalIn 10000 22 (.agg (ints .u8 x)) (.agg (ints .u8 y))).run Try.prog w = .ok (decide (x = y)) w := by
  obtain ⟨i, hi, -, hs, -⟩ := info_parts (P := Try.prog) (e := 5) (z := .int .u8 0) (size := 1) (bytes := 1) (by kernel_rfl)
  exact run_equalIn_u8 Try.underlying22 Try.underlying5 hi hs hx hy dx dy w
theorem below_iff {a : List Nat} (ha : a.length = 32) (da : Digs 256 a) : decide (digs 256 32 (val 256 a % q) = a) = decide (val 256 a < q) := by
  apply decide_eq_decide.2
  constructor
  · intro h
    have := congrArg (val 256) h
    rw [val_digs, Nat.mod_eq_of_lt (Nat.lt_trans (mod_q _) (by decide))] at this
    rw [← this]
    exact mod_q _
  · intro h
    rw [Nat.mod_eq_of_lt h, digs_val' da ha]
set_option maxHeartbeats 1000000 in
theorem Below_any (a : List Nat) (ha : a.length = 32) (da : Digs 256 a) (w : World) : Gives 13 #[.agg (ints .u8 a)] w (.bool (decide (val 256 a < q))) := by
  have heq := fun w => eq_b32 (digs_length 256 32 (val 256 a % q)) ha (digs_Digs (by decide) _ _) da w
  rw [below_iff ha da] at heq
  have hE0 := Env.nil w
  go_enter Try.func13, Try.ntmps13
  repeat ((fail_if_success (with_reducible show wpList _ _ _ (List.cons _ _) _ _)); (fail_if_success (with_reducible show Code.wp _ (Code.region _ _ true) _ _ _)); go_step)
  refine wl_box (cs := (ints .u8 a)) hE0 rfl rfl rfl ?_
  intro g0 w1 hE1
  clear hE0
  simp only [Act.put, List.setIfInBounds_toArray, List.set_cons_zero, List.set_cons_succ]
  apply wl_val rfl
  · go_simp
    with_reducible rfl
  simp only [Act.put, List.setIfInBounds_toArray, List.set_cons_zero, List.set_cons_succ]
  repeat ((fail_if_success (with_reducible show wpList _ _ _ (List.cons _ _) _ _)); (fail_if_success (with_reducible show Code.wp _ (Code.region _ _ true) _ _ _)); go_step)
  refine wp_region_env 5 (by kernel_rfl) (by kernel_rfl) (fun _ _ d _ _ h => by cases d <;> exact h) hE1 ?_
  refine headRun_load rfl rfl (fun w h => h.get (i := 0) rfl) Try.underlying22 rfl (sz_of (n := 32) (by kernel_rfl) (by first | (simp only [ints_size, digs_length, List.length_replicate, List.length_cons, List.length_nil]; done) | (simp only [ints_size, *]; done) | rfl)) ?_
  simp only [Act.put, List.setIfInBounds_toArray, List.set_cons_zero, List.set_cons_succ]
  refine headRun_call (fun w1 => by go_simp) (fun w1 hW => small_any a ha da _) ?_
  simp only [Act.put, List.setIfInBounds_toArray, List.set_cons_zero, List.set_cons_succ]
  refine headRun_call (fun w1 => by go_simp) (fun w1 hW => bytes_any (val 256 a % q) (mod_q_lt _) _) ?_
  simp only [Act.put, List.setIfInBounds_toArray, List.set_cons_zero, List.set_cons_succ]
  refine headRun_load rfl rfl (fun w h => h.get (i := 0) rfl) Try.underlying22 rfl (sz_of (n := 32) (by kernel_rfl) (by first | (simp only [ints_size, digs_length, List.length_replicate, List.length_cons, List.length_nil]; done) | (simp only [ints_size, *]; done) | rfl)) ?_
  simp only [Act.put, List.setIfInBounds_toArray, List.set_cons_zero, List.set_cons_succ]
  apply headRun_val
  · intro w1 h1
    go_simp
    with_reducible rfl
  simp only [Act.put, List.setIfInBounds_toArray, List.set_cons_zero, List.set_cons_succ]
  refine headRun_nil (endK0 ?_)
  intro  w2 hE2
  clear hE1
  simp only [List.drop_succ_cons, List.drop_zero, Act.put, List.setIfInBounds_toArray, List.set_cons_zero, List.set_cons_succ]
  apply wl_val rfl
  · go_simp
    with_reducible rfl
  simp only [Act.put, List.setIfInBounds_toArray, List.set_cons_zero, List.set_cons_succ]
  repeat ((fail_if_success (with_reducible show wpList _ _ _ (List.cons _ _) _ _)); (fail_if_success (with_reducible show Code.wp _ (Code.region _ _ true) _ _ _)); go_step)
  go_returns
  exact ⟨rfl, hE2.below⟩

end Go.Proofs.Ytobfgleckcpcpaa
