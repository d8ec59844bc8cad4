/-
  Layer 5: the statements' bodies: what they compare is the same.
-/
import Derived.Test.YtobfgleckcpcpaaRefH
import Derived.Test.YtobfgleckcpcpaaOrdH
namespace Go.Proofs.Ytobfgleckcpcpaa
open Go.RowKit
set_option linter.unusedVariables false
set_option linter.unusedSimpArgs false

theorem isB32_digs (n : Nat) : IsB32 (digs 256 32 n) := ⟨digs_length _ _ _, digs_Digs (by decide) _ _⟩

section
variable {a : Act} {w : World} {o : Oper} {v : Value}
theorem run_eql_agg {t t' : TypeId} {x y : Operand} {c d : Array Value} {b : Bool} (ho : o.op = .binOp .eql t x y t') (hx : a.eval x = .agg c) (hy : a.eval y = .agg d) (hg : Try.prog.eqGuardType Try.prog.depth t = false)
    (h : ∀ w, (Op.equalIn 10000 t (.agg c) (.agg d)).run Try.prog w = .ok b w) : Val Try.prog o a (.bool b) w := v_run fun w => by
  unfold execOp
  simp only [ho, hx, hy, eqGuard]
  have hp : ∀ w, (program).run Try.prog w = .ok Try.prog w := fun _ => rfl
  simp [Sem.run_bind, Sem.run_pure, hp, hg, binOp, Op.equal, Op.maxDepth, h]
theorem run_neq_agg {t t' : TypeId} {x y : Operand} {c d : Array Value} {b : Bool} (ho : o.op = .binOp .neq t x y t') (hx : a.eval x = .agg c) (hy : a.eval y = .agg d) (hg : Try.prog.eqGuardType Try.prog.depth t = false)
    (h : ∀ w, (Op.equalIn 10000 t (.agg c) (.agg d)).run Try.prog w = .ok b w) : Val Try.prog o a (.bool (!b)) w := v_run fun w => by
  unfold execOp
  simp only [ho, hx, hy, eqGuard]
  have hp : ∀ w, (program).run Try.prog w = .ok Try.prog w := fun _ => rfl
  simp [Sem.run_bind, Sem.run_pure, hp, hg, binOp, Op.equal, Op.maxDepth, h]
theorem v_eq32 {t' : TypeId} {x y : Operand} {l m : List Nat} (ho : o.op = .binOp .eql 22 x y t') (hx : a.eval x = .agg (ints .u8 l)) (hy : a.eval y = .agg (ints .u8 m)) (hl : IsB32 l) (hm : IsB32 m) : Val Try.prog o a (.bool (decide (l = m))) w :=
  run_eql_agg ho hx hy (Try.eqGuardType22) fun w => eq_b32 hl.1 hm.1 hl.2 hm.2 w
theorem v_eq32s {t' : TypeId} {x y : Operand} {l : List Nat} (ho : o.op = .binOp .eql 22 x y t') (hx : a.eval x = .agg (ints .u8 l)) (hy : a.eval y = .agg (ints .u8 l)) (hl : IsB32 l) : Val Try.prog o a (.bool true) w := by
  have h := v_eq32 (w := w) ho hx hy hl hl
  rwa [decide_eq_true rfl] at h
theorem v_ne32s {t' : TypeId} {x y : Operand} {l : List Nat} (ho : o.op = .binOp .neq 22 x y t') (hx : a.eval x = .agg (ints .u8 l)) (hy : a.eval y = .agg (ints .u8 l)) (hl : IsB32 l) : Val Try.prog o a (.bool false) w := by
  have h := run_neq_agg (w := w) ho hx hy (Try.eqGuardType22) fun w => eq_b32 hl.1 hl.1 hl.2 hl.2 w
  rwa [decide_eq_true rfl] at h
theorem run_eq_bool {t : TypeId} (ht : Try.prog.underlying t = some .bool) (b c : Bool) (w : World) : (Op.equalIn 10000 t (.bool b) (.bool c)).run Try.prog w = .ok (b == c) w := by
  show (Op.equalIn (9999 + 1) t (.bool b) (.bool c)).run Try.prog w = _
  unfold Op.equalIn
  simp only [Sem.run_bind, run_underlying ht, Result.andThen_ok, Sem.run_pure]
theorem v_eqB {t t' : TypeId} {x y : Operand} {b c : Bool} (ho : o.op = .binOp .eql t x y t') (hx : a.eval x = .bool b) (hy : a.eval y = .bool c) (ht : Try.prog.underlying t = some .bool) : Val Try.prog o a (.bool (b == c)) w := v_run fun w => by
  unfold execOp
  simp only [ho, hx, hy, eqGuard]
  simp [Sem.run_bind, Sem.run_pure, binOp, Op.equal, Op.maxDepth, run_eq_bool ht]
theorem v_eqBs {t' : TypeId} {x y : Operand} {b : Bool} (ho : o.op = .binOp .eql 4 x y t') (hx : a.eval x = .bool b) (hy : a.eval y = .bool b) : Val Try.prog o a (.bool true) w := by
  have h := v_eqB (w := w) ho hx hy Try.underlying4
  rwa [beq_self_eq_true] at h
theorem v_built {t : TypeId} {ps : List (Nat × Operand)} {l : List Nat} (ho : o.op = .build t ps.toArray) (h : ∀ w, (Instr.build t (ps.map fun p => (p.1, a.eval p.2)).toArray).run Try.prog w = .ok (.agg (ints .u8 l)) w) : Val Try.prog o a (.agg (ints .u8 l)) w := v_run fun w => by
  unfold execOp
  simp only [ho, Sem.run_bind, List.map_toArray]
  rw [h]
  rfl
end

/-- A small number's bytes. -/
def small32 (n : Nat) : List Nat := n :: List.replicate 31 0
theorem small32_ok {n : Nat} (h : n < 256) : IsB32 (small32 n) := by
  constructor
  · rfl
  · intro d hd
    rcases List.mem_cons.1 hd with rfl | hd
    · exact h
    · rw [(List.mem_replicate.1 hd).2]; decide
theorem val_small32 (n : Nat) : val 256 (small32 n) = n := by
  rw [small32, val_cons, val_replicate, Nat.mul_zero, Nat.add_zero]

set_option maxHeartbeats 1000000 in
theorem awake_any (w : World) : Gives 10 #[] w (.bool true) := by
  have hm : ∀ w, Gives 8 #[.agg (ints .u8 (small32 2)), .agg (ints .u8 (small32 3)), .agg (ints .u8 (small32 4))] w (.agg (ints .u8 (small32 10))) := fun w => by
    have h := MulAdd_any (small32 2) (small32 3) (small32 4) rfl rfl rfl (small32_ok (by decide)).2 (small32_ok (by decide)).2 (small32_ok (by decide)).2 w
    have e : digs 256 32 ((val 256 (small32 2) * val 256 (small32 3) + val 256 (small32 4)) % q) = small32 10 := by
      rw [val_small32, val_small32, val_small32]
      decide
    rwa [e] at h
  have hE0 := Env.nil w
  go_enter Try.func10, Try.ntmps10
  repeat ((fail_if_success (with_reducible show wpList _ _ _ (List.cons _ _) _ _)); (fail_if_success (with_reducible show Code.wp _ (Code.region _ _ true) _ _ _)); go_step)
  refine wl_step (st_val rfl (v_moveC (.inr rfl)) ?_)
  simp only [Act.put, List.setIfInBounds_toArray, List.set_cons_zero, List.set_cons_succ]
  repeat ((fail_if_success (with_reducible show wpList _ _ _ (List.cons _ _) _ _)); (fail_if_success (with_reducible show Code.wp _ (Code.region _ _ true) _ _ _)); go_step)
  refine wl_step (st_val rfl (v_built (l := small32 2) rfl (fun w => by kernel_rfl)) ?_)
  simp only [Act.put, List.setIfInBounds_toArray, List.set_cons_zero, List.set_cons_succ]
  refine wl_step (st_val rfl (v_built (l := small32 3) rfl (fun w => by kernel_rfl)) ?_)
  simp only [Act.put, List.setIfInBounds_toArray, List.set_cons_zero, List.set_cons_succ]
  refine wl_step (st_val rfl (v_built (l := small32 4) rfl (fun w => by kernel_rfl)) ?_)
  simp only [Act.put, List.setIfInBounds_toArray, List.set_cons_zero, List.set_cons_succ]
  refine wl_step (st_gives hE0 rfl (run_call rfl Try.call8) (hm _) ?_)
  intro w1 hb1 hE1
  clear hE0
  simp only [Act.put, List.setIfInBounds_toArray, List.set_cons_zero, List.set_cons_succ]
  refine wl_step (st_val rfl (v_built (l := small32 10) rfl (fun w => by kernel_rfl)) ?_)
  simp only [Act.put, List.setIfInBounds_toArray, List.set_cons_zero, List.set_cons_succ]
  refine wl_step (st_val rfl (v_eq32s rfl rfl rfl (small32_ok (by decide))) ?_)
  simp only [Act.put, List.setIfInBounds_toArray, List.set_cons_zero, List.set_cons_succ]
  refine wl_step (st_val rfl (v_moveT (.inr rfl) rfl) ?_)
  simp only [Act.put, List.setIfInBounds_toArray, List.set_cons_zero, List.set_cons_succ]
  repeat ((fail_if_success (with_reducible show wpList _ _ _ (List.cons _ _) _ _)); (fail_if_success (with_reducible show Code.wp _ (Code.region _ _ true) _ _ _)); go_step)
  go_returns
  exact ⟨rfl, hE1.below⟩
end Go.Proofs.Ytobfgleckcpcpaa
