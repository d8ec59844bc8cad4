/-
  Layer 3: 'DigestSums': of any bytes both sums are the document's. No condition.
-/
import Derived.Test.YtndnmghlgcamfaaDigS
import Derived.Test.YtndnmghlgcamfaaFrame
namespace Go.Proofs.Ytndnmghlgcamfaa
open Go.ChangeShapes Go.WideShapes Go.ChangeAt Go.RowKit
set_option linter.unusedVariables false
set_option linter.unusedSimpArgs false

section
variable {a : Act} {w : World} {o : Oper}
theorem v_eqS32 {t' : TypeId} {x y : Operand} {l : List Nat} (ho : o.op = .binOp .eql 28 x y t') (hx : a.eval x = .agg (ints .u8 l)) (hy : a.eval y = .agg (ints .u8 l)) (hl : l.length = 32) : Val Try.prog o a (.bool true) w :=
  v_eqIntsS ho hx hy (by kernel_rfl) Try.underlying28 Try.underlying5 (size_run (by kernel_rfl)) hl
theorem v_eqS64 {t' : TypeId} {x y : Operand} {l : List Nat} (ho : o.op = .binOp .eql 34 x y t') (hx : a.eval x = .agg (ints .u8 l)) (hy : a.eval y = .agg (ints .u8 l)) (hl : l.length = 64) : Val Try.prog o a (.bool true) w :=
  v_eqIntsS ho hx hy (by kernel_rfl) Try.underlying34 Try.underlying5 (size_run (by kernel_rfl)) hl
theorem v_neS32 {t' : TypeId} {x y : Operand} {l : List Nat} (ho : o.op = .binOp .neq 28 x y t') (hx : a.eval x = .agg (ints .u8 l)) (hy : a.eval y = .agg (ints .u8 l)) (hl : l.length = 32) : Val Try.prog o a (.bool false) w := by
  have h := v_neInts (P := Try.prog) (w := w) ho hx hy (by kernel_rfl) Try.underlying28 Try.underlying5 (size_run (by kernel_rfl)) hl hl
  rwa [decide_eq_true rfl] at h
end
/-- The sums of one slice. -/
theorem one_sum256 {l : List Nat} {v : Value} {w : World} (hv : RdSs .u8 [l] v w) (dl : Digs 256 l) (hl : l.length < 549755813888) : Gives 13 #[v] w (.agg (ints .u8 (sum256 l))) := by
  have e : ([l] : List (List Nat)).flatten = l := by simp
  have h := Sum256_any hv (fun r hr => by rw [List.mem_singleton.1 hr]; exact dl) (by rw [e]; exact hl) (show 1 < 9223372036854775808 by decide)
  rwa [e] at h
theorem one_sum512 {l : List Nat} {v : Value} {w : World} (hv : RdSs .u8 [l] v w) (dl : Digs 256 l) (hl : l.length < 549755813888) : Gives 14 #[v] w (.agg (ints .u8 (sum512 l))) := by
  have e : ([l] : List (List Nat)).flatten = l := by simp
  have h := Sum512_any hv (fun r hr => by rw [List.mem_singleton.1 hr]; exact dl) (by rw [e]; exact hl) (show 1 < 9223372036854775808 by decide)
  rwa [e] at h

set_option maxRecDepth 100000 in
set_option maxHeartbeats 4000000 in
theorem digestSums_walk {l : List Nat} {v : Value} {w : World} (hv : RdS .u8 l v w) (dl : Digs 256 l) (hm : l.length ≤ maxLen) : Gives 4 #[v] w (.bool true) := by
  unfold maxLen at hm
  obtain ⟨p, c, rfl, hc, -⟩ := id hv
  have Hv := Lib.hid hv
  have Hd := Lib.hid dl
  have hl63 : l.length < 9223372036854775808 := by omega
  have h32 := sum256_len l
  have h64 := sum512_len l
  clear hv dl
  by_cases h6 : 600 < l.length
  · have d1 := Lib.hid (decide_eq_true h6)
    have hE0 := Env.nil w
    go_enter Try.func4, Try.ntmps4
    repeat ((fail_if_success (with_reducible show wpList _ _ _ (List.cons _ _) _ _)); (fail_if_success (with_reducible show Code.wp _ (Code.region _ _ true) _ _ _)); go_step)
    refine wl_step (st_val rfl (v_moveC (.inr rfl)) ?_)
    simp only [Act.put, List.setIfInBounds_toArray, List.set_cons_zero, List.set_cons_succ]
    repeat ((fail_if_success (with_reducible show wpList _ _ _ (List.cons _ _) _ _)); (fail_if_success (with_reducible show Code.wp _ (Code.region _ _ true) _ _ _)); go_step)
    refine wl_step (st_val rfl (v_moveT (.inl rfl) rfl) ?_)
    simp only [Act.put, List.setIfInBounds_toArray, List.set_cons_zero, List.set_cons_succ]
    refine wl_step (st_val rfl (v_len rfl rfl Try.underlying25 hl63) ?_)
    simp only [Act.put, List.setIfInBounds_toArray, List.set_cons_zero, List.set_cons_succ]
    refine wl_step (st_val rfl (v_gtr (n := 600) rfl rfl rfl) ?_)
    simp only [Act.put, List.setIfInBounds_toArray, List.set_cons_zero, List.set_cons_succ]
    rw [d1.out]
    repeat ((fail_if_success (with_reducible show wpList _ _ _ (List.cons _ _) _ _)); (fail_if_success (with_reducible show Code.wp _ (Code.region _ _ true) _ _ _)); (fail_if_success (with_reducible show Code.wp _ (Code.cond _ _ _) _ _ _)); go_step)
    refine wp_cond_true (by first | rfl | exact congrArg Value.bool (decide_eq_true (by omega))) ?_
    skip
    repeat ((fail_if_success (with_reducible show wpList _ _ _ (List.cons _ _) _ _)); (fail_if_success (with_reducible show Code.wp _ (Code.region _ _ true) _ _ _)); go_step)
    refine wl_step (st_gives hE0 rfl (run_call rfl Try.call8) (awake_any _) ?_)
    intro w1 hb1 hE1
    clear hE0
    simp only [Act.put, List.setIfInBounds_toArray, List.set_cons_zero, List.set_cons_succ]
    refine wl_step (st_val rfl (v_moveT (.inr rfl) rfl) ?_)
    simp only [Act.put, List.setIfInBounds_toArray, List.set_cons_zero, List.set_cons_succ]
    repeat ((fail_if_success (with_reducible show wpList _ _ _ (List.cons _ _) _ _)); (fail_if_success (with_reducible show Code.wp _ (Code.region _ _ true) _ _ _)); go_step)
    go_returns
    exact ⟨rfl, hE1.below⟩
  · have d1 := Lib.hid (decide_eq_false h6)
    have hl : l.length < 549755813888 := by omega
    have hE0 := Env.nil w
    go_enter Try.func4, Try.ntmps4
    repeat ((fail_if_success (with_reducible show wpList _ _ _ (List.cons _ _) _ _)); (fail_if_success (with_reducible show Code.wp _ (Code.region _ _ true) _ _ _)); go_step)
    refine wl_step (st_val rfl (v_moveC (.inr rfl)) ?_)
    simp only [Act.put, List.setIfInBounds_toArray, List.set_cons_zero, List.set_cons_succ]
    repeat ((fail_if_success (with_reducible show wpList _ _ _ (List.cons _ _) _ _)); (fail_if_success (with_reducible show Code.wp _ (Code.region _ _ true) _ _ _)); go_step)
    refine wl_step (st_val rfl (v_moveT (.inl rfl) rfl) ?_)
    simp only [Act.put, List.setIfInBounds_toArray, List.set_cons_zero, List.set_cons_succ]
    refine wl_step (st_val rfl (v_len rfl rfl Try.underlying25 hl63) ?_)
    simp only [Act.put, List.setIfInBounds_toArray, List.set_cons_zero, List.set_cons_succ]
    refine wl_step (st_val rfl (v_gtr (n := 600) rfl rfl rfl) ?_)
    simp only [Act.put, List.setIfInBounds_toArray, List.set_cons_zero, List.set_cons_succ]
    rw [d1.out]
    repeat ((fail_if_success (with_reducible show wpList _ _ _ (List.cons _ _) _ _)); (fail_if_success (with_reducible show Code.wp _ (Code.region _ _ true) _ _ _)); (fail_if_success (with_reducible show Code.wp _ (Code.cond _ _ _) _ _ _)); go_step)
    refine wp_cond_false (by first | rfl | exact congrArg Value.bool (decide_eq_false (by omega))) ?_
    skip
    repeat ((fail_if_success (with_reducible show wpList _ _ _ (List.cons _ _) _ _)); (fail_if_success (with_reducible show Code.wp _ (Code.region _ _ true) _ _ _)); go_step)
    refine wl_step (st_val rfl (v_moveT (.inl rfl) rfl) ?_)
    simp only [Act.put, List.setIfInBounds_toArray, List.set_cons_zero, List.set_cons_succ]
    refine wl_step (st_buildVs [Value.slice p l.length c] (one_slice) hE0 rfl rfl (by first | rfl | (simp only [List.map_cons, List.map_nil, List.zipIdx_cons, List.zipIdx_nil]; rfl)) rfl (by decide) (by decide) Try.underlying22 (by kernel_rfl) Try.zeroValue25 ?_)
    intro g0 w1 hb1 hE1
    clear hE0
    simp only [Act.put, List.setIfInBounds_toArray, List.set_cons_zero, List.set_cons_succ]
    refine wl_step (st_gives hE1 rfl (run_call rfl Try.call13) (one_sum256 (RdSs.one (hE1.get (i := 0) rfl) (Hv.out.below hE1.below)) Hd.out hl) ?_)
    intro w2 hb2 hE2
    clear hE1
    simp only [Act.put, List.setIfInBounds_toArray, List.set_cons_zero, List.set_cons_succ]
    refine wl_step (st_val rfl (v_moveT (.inl rfl) rfl) ?_)
    simp only [Act.put, List.setIfInBounds_toArray, List.set_cons_zero, List.set_cons_succ]
    refine wl_step (st_gives hE2 rfl (run_call rfl Try.call11) (rSum32_any (Hv.out.below hE2.below) Hd.out hl) ?_)
    intro w3 hb3 hE3
    clear hE2
    simp only [Act.put, List.setIfInBounds_toArray, List.set_cons_zero, List.set_cons_succ]
    refine wl_step (st_val rfl (v_eqS32 rfl rfl rfl h32) ?_)
    simp only [Act.put, List.setIfInBounds_toArray, List.set_cons_zero, List.set_cons_succ]
    refine wl_step (st_val rfl (v_moveT (.inl rfl) rfl) ?_)
    simp only [Act.put, List.setIfInBounds_toArray, List.set_cons_zero, List.set_cons_succ]
    refine wl_step (st_val rfl (v_moveT (.inl rfl) rfl) ?_)
    simp only [Act.put, List.setIfInBounds_toArray, List.set_cons_zero, List.set_cons_succ]
    refine wl_step (st_buildVs [Value.slice p l.length c] (one_slice) hE3 rfl rfl (by first | rfl | (simp only [List.map_cons, List.map_nil, List.zipIdx_cons, List.zipIdx_nil]; rfl)) rfl (by decide) (by decide) Try.underlying22 (by kernel_rfl) Try.zeroValue25 ?_)
    intro g1 w4 hb4 hE4
    clear hE3
    simp only [Act.put, List.setIfInBounds_toArray, List.set_cons_zero, List.set_cons_succ]
    refine wl_step (st_gives hE4 rfl (run_call rfl Try.call14) (one_sum512 (RdSs.one (hE4.get (i := 0) rfl) (Hv.out.below hE4.below)) Hd.out hl) ?_)
    intro w5 hb5 hE5
    clear hE4
    simp only [Act.put, List.setIfInBounds_toArray, List.set_cons_zero, List.set_cons_succ]
    refine wl_step (st_val rfl (v_moveT (.inl rfl) rfl) ?_)
    simp only [Act.put, List.setIfInBounds_toArray, List.set_cons_zero, List.set_cons_succ]
    refine wl_step (st_gives hE5 rfl (run_call rfl Try.call15) (rSum64_any (Hv.out.below hE5.below) Hd.out hl) ?_)
    intro w6 hb6 hE6
    clear hE5
    simp only [Act.put, List.setIfInBounds_toArray, List.set_cons_zero, List.set_cons_succ]
    refine wl_step (st_val rfl (v_eqS64 rfl rfl rfl h64) ?_)
    simp only [Act.put, List.setIfInBounds_toArray, List.set_cons_zero, List.set_cons_succ]
    refine wl_step (st_val rfl (v_and rfl rfl (fun _ => rfl)) ?_)
    simp only [Act.put, List.setIfInBounds_toArray, List.set_cons_zero, List.set_cons_succ]
    refine wl_step (st_val rfl (v_moveT (.inl rfl) rfl) ?_)
    simp only [Act.put, List.setIfInBounds_toArray, List.set_cons_zero, List.set_cons_succ]
    refine wl_step (st_gives hE6 rfl (run_call rfl Try.call8) (awake_any _) ?_)
    intro w7 hb7 hE7
    clear hE6
    simp only [Act.put, List.setIfInBounds_toArray, List.set_cons_zero, List.set_cons_succ]
    refine wl_step (st_val rfl (v_and rfl rfl (fun _ => rfl)) ?_)
    simp only [Act.put, List.setIfInBounds_toArray, List.set_cons_zero, List.set_cons_succ]
    refine wl_step (st_val rfl (v_moveT (.inr rfl) rfl) ?_)
    simp only [Act.put, List.setIfInBounds_toArray, List.set_cons_zero, List.set_cons_succ]
    repeat ((fail_if_success (with_reducible show wpList _ _ _ (List.cons _ _) _ _)); (fail_if_success (with_reducible show Code.wp _ (Code.region _ _ true) _ _ _)); go_step)
    go_returns
    exact ⟨rfl, hE7.below⟩
set_option maxRecDepth 100000 in
theorem digestSums_lifted (os : Os) (started : os.Started) (H : Type) (enc : TypeId × Value → H) :
    ReturnsInHanded {} Try.checked os 4 .any (Rows.digestSumsSpec.pre6 enc Try.prog Try.f4 Rows.digestSumsRow.domain false) (Rows.digestSumsSpec.post enc Try.prog Try.f4 false true false false) := by
  refine returnsInHanded_of_change (C := Try.checked) own started (by kernel_rfl) Try.func4
    (ChangeSpec.witness6 (enc := enc) (C := Try.checked) false ⟨#[], #[.slice none 0 0], []⟩ 8 (by kernel_rfl) (by kernel_rfl) (by kernel_rfl) (by kernel_rfl)) ?_
  intro W base args ds gs before hval0 hW hcnd _
  have hval : ∀ (j : Nat) t v, Try.f4.params[j]? = some t → args[j]? = some v → Value.okWide Try.prog W .any base t v := hval0
  have hW' := hW
  obtain ⟨p, q, hA0, hV, rfl, hfz, hnd⟩ := hW
  have hA : DataW.TrodAll enc Try.prog W 0 (fun _ => true) true Try.f4.params.toList args.toList ds p := hA0
  rw [Try.params4] at hA hval
  obtain ⟨v0, vs0, d0, ds0, p0, q0, hargs, rfl, rfl, h0, r0⟩ := trodAll_cons hA
  obtain ⟨rfl, rfl, rfl⟩ := trodAll_nil r0
  obtain rfl : args = #[v0] := by cases args; simp_all
  obtain ⟨rfl, rfl⟩ := trodVars_none hV
  have k0 := h0
  have lt0 : ∀ x ∈ p0, x.block < W.heap.size := by obtain ⟨m, hm⟩ := k0; exact DataW.trod_lt m _ _ _ hm
  obtain ⟨l0, hu0, hd0, hm0⟩ := open_bytes Try.underlying25 Try.underlying5 (by kernel_rfl) (hval 0 25 v0 rfl rfl) h0
  clear hA0 hval0
  refine (digestSums_walk hu0 hd0 hm0).mono fun e W' ⟨he, bel⟩ => ?_
  subst he
  exact ⟨_, rfl, _, _, _, [], _, [], hW', trodAll_mk1 (shut_bool Try.underlying4 _), (trodAll_cons_mk (Below.trod laidOut (by kernel_rfl) (of_decide_eq_true (by kernel_rfl)) k0 bel lt0) trodAll_mk0), rfl, bel.frame _, fun h => by cases h⟩

theorem digestSums_over : Rows.digestSumsRow.holds Try.pinned (OpenSpec.ofChange Rows.digestSumsSpec) :=
  OpenClaim.holds_of_wide 4 Try.f4 rfl rfl rfl rfl rfl rfl rfl ⟨rfl, rfl, rfl, rfl, rfl⟩ rfl rfl rfl rfl rfl (by kernel_rfl) Try.func4 (by kernel_rfl)
    (of_decide_eq_true (by kernel_rfl)) (by unfold Func.isWrapper; first | (rw [if_pos (by decide +kernel)]; kernel_rfl) | (rw [if_neg (by decide +kernel)]; exact ⟨rfl, rfl⟩))
    (fun os started H enc _ => digestSums_lifted os started H enc)

theorem digestSums_holds : Rows.DigestSumsSaid := digestSums_over

#print axioms digestSums_holds
end Go.Proofs.Ytndnmghlgcamfaa
