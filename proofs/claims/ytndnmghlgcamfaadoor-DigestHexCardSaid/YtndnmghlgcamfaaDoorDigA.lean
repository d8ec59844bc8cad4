/-
  Layer 3: words turned.
-/
import Derived.Test.YtndnmghlgcamfaaDoorDigM
import Derived.Test.YtndnmghlgcamfaaDoorWord
import Derived.Test.YtndnmghlgcamfaaDoorBit
namespace Go.Proofs.YtndnmghlgcamfaaDoor
open Go.RowKit
set_option maxRecDepth 100000
set_option linter.unusedVariables false
set_option linter.unusedSimpArgs false

set_option maxHeartbeats 1000000 in
theorem Rot32_any {x n : Nat} (hx : x < 2 ^ 32) (h0 : 0 < n) (hn : n < 32) (w : World) : Gives 30 #[.int .u32 (x : Int), .int .i64 (-(n : Int))] w (.int .u32 (rr 32 n x : Nat)) := by
  have h9 : n < 9223372036854775808 := by omega
  have hu : 18446744073709551616 - n < 2 ^ IntKind.u64.bits := by show _ < 18446744073709551616; omega
  have hm : (18446744073709551616 - n) % 32 = 32 - n := by omega
  have hb1 : 32 - n ≤ IntKind.u32.bits := by show _ ≤ 32; omega
  have hb2 : 32 - (32 - n) ≤ IntKind.u32.bits := by show _ ≤ 32; omega
  have hr : x * 2 ^ (32 - n) % 4294967296 < 2 ^ IntKind.u32.bits := Nat.mod_lt _ (by decide)
  have hq : x / 2 ^ (32 - (32 - n)) < 2 ^ IntKind.u32.bits := Nat.lt_of_le_of_lt (Nat.div_le_self _ _) hx
  have he : x * 2 ^ (32 - n) % 4294967296 ||| x / 2 ^ (32 - (32 - n)) = rr 32 n x := by
    unfold rr
    rw [show 32 - (32 - n) = n by omega]
  have Hm := Lib.hid hm
  have He := Lib.hid he
  have hs32 : 32 - n ≤ 32 := by omega
  clear hm he
  have hE0 := Env.nil w
  go_enter Tryd.func30, Tryd.ntmps30
  repeat ((fail_if_success (with_reducible show wpList _ _ _ (List.cons _ _) _ _)); (fail_if_success (with_reducible show Code.wp _ (Code.region _ _ true) _ _ _)); go_step)
  refine wl_step (st_val rfl (v_moveC (.inr rfl)) ?_)
  simp only [Act.put, List.setIfInBounds_toArray, List.set_cons_zero, List.set_cons_succ]
  repeat ((fail_if_success (with_reducible show wpList _ _ _ (List.cons _ _) _ _)); (fail_if_success (with_reducible show Code.wp _ (Code.region _ _ true) _ _ _)); go_step)
  refine wl_step (st_val rfl (v_moveT (.inl rfl) rfl) ?_)
  simp only [Act.put, List.setIfInBounds_toArray, List.set_cons_zero, List.set_cons_succ]
  refine wl_step (st_val rfl (v_convNeg rfl rfl Tryd.underlying3 Tryd.underlying34 h0 h9) ?_)
  simp only [Act.put, List.setIfInBounds_toArray, List.set_cons_zero, List.set_cons_succ]
  refine wl_step (st_val rfl (v_mask (c := 31) (s := 5) (d := 32) rfl rfl rfl (by decide) (by decide) rfl hu (by decide)) ?_)
  simp only [Act.put, List.setIfInBounds_toArray, List.set_cons_zero, List.set_cons_succ]
  rw [Hm.out]
  refine wl_step (st_val rfl (v_moveT (.inr rfl) rfl) ?_)
  simp only [Act.put, List.setIfInBounds_toArray, List.set_cons_zero, List.set_cons_succ]
  repeat ((fail_if_success (with_reducible show wpList _ _ _ (List.cons _ _) _ _)); (fail_if_success (with_reducible show Code.wp _ (Code.region _ _ true) _ _ _)); go_step)
  refine wl_step (st_val rfl (v_moveT (.inl rfl) rfl) ?_)
  simp only [Act.put, List.setIfInBounds_toArray, List.set_cons_zero, List.set_cons_succ]
  refine wl_step (st_val rfl (v_moveT (.inl rfl) rfl) ?_)
  simp only [Act.put, List.setIfInBounds_toArray, List.set_cons_zero, List.set_cons_succ]
  refine wl_step (st_val rfl (v_shl (m := x) (s := 32 - n) rfl rfl rfl hb1 (w_m32 _)) ?_)
  simp only [Act.put, List.setIfInBounds_toArray, List.set_cons_zero, List.set_cons_succ]
  refine wl_step (st_val rfl (v_moveT (.inl rfl) rfl) ?_)
  simp only [Act.put, List.setIfInBounds_toArray, List.set_cons_zero, List.set_cons_succ]
  refine wl_step (st_val rfl (v_moveT (.inl rfl) rfl) ?_)
  simp only [Act.put, List.setIfInBounds_toArray, List.set_cons_zero, List.set_cons_succ]
  refine wl_step (st_val rfl (v_sub (m := 32) (n := 32 - n) (r := ((32 - (32 - n) : Nat) : Int)) rfl rfl rfl (w_u64s hs32 (by decide))) ?_)
  simp only [Act.put, List.setIfInBounds_toArray, List.set_cons_zero, List.set_cons_succ]
  refine wl_step (st_val rfl (v_shr rfl rfl rfl hb2) ?_)
  simp only [Act.put, List.setIfInBounds_toArray, List.set_cons_zero, List.set_cons_succ]
  refine wl_step (st_val rfl (v_bor rfl rfl rfl hr hq (w_or rfl hr hq)) ?_)
  simp only [Act.put, List.setIfInBounds_toArray, List.set_cons_zero, List.set_cons_succ]
  rw [He.out]
  refine wl_step (st_val rfl (v_moveT (.inr rfl) rfl) ?_)
  simp only [Act.put, List.setIfInBounds_toArray, List.set_cons_zero, List.set_cons_succ]
  repeat ((fail_if_success (with_reducible show wpList _ _ _ (List.cons _ _) _ _)); (fail_if_success (with_reducible show Code.wp _ (Code.region _ _ true) _ _ _)); go_step)
  go_returns
  exact ⟨rfl, hE0.below⟩
set_option maxHeartbeats 1000000 in
theorem turn_any {x n : Nat} (hx : x < 2 ^ 32) (h0 : 0 < n) (hn : n < 32) (w : World) : Gives 29 #[.int .u32 (x : Int), .int .i64 (n : Int)] w (.int .u32 (rr 32 n x : Nat)) := by
  have h9 : n < 9223372036854775808 := by omega
  have HR := Lib.hid (fun w => Rot32_any hx h0 hn w)
  have hE0 := Env.nil w
  go_enter Tryd.func29, Tryd.ntmps29
  repeat ((fail_if_success (with_reducible show wpList _ _ _ (List.cons _ _) _ _)); (fail_if_success (with_reducible show Code.wp _ (Code.region _ _ true) _ _ _)); go_step)
  refine wl_step (st_val rfl (v_moveC (.inr rfl)) ?_)
  simp only [Act.put, List.setIfInBounds_toArray, List.set_cons_zero, List.set_cons_succ]
  repeat ((fail_if_success (with_reducible show wpList _ _ _ (List.cons _ _) _ _)); (fail_if_success (with_reducible show Code.wp _ (Code.region _ _ true) _ _ _)); go_step)
  refine wl_step (st_val rfl (v_moveT (.inl rfl) rfl) ?_)
  simp only [Act.put, List.setIfInBounds_toArray, List.set_cons_zero, List.set_cons_succ]
  refine wl_step (st_val rfl (v_moveT (.inl rfl) rfl) ?_)
  simp only [Act.put, List.setIfInBounds_toArray, List.set_cons_zero, List.set_cons_succ]
  refine wl_step (st_val rfl (v_negN rfl rfl h9) ?_)
  simp only [Act.put, List.setIfInBounds_toArray, List.set_cons_zero, List.set_cons_succ]
  refine wl_step (st_gives hE0 rfl (run_call rfl Tryd.call30) (HR.out _) ?_)
  intro w1 hb1 hE1
  clear hE0
  simp only [Act.put, List.setIfInBounds_toArray, List.set_cons_zero, List.set_cons_succ]
  refine wl_step (st_val rfl (v_moveT (.inr rfl) rfl) ?_)
  simp only [Act.put, List.setIfInBounds_toArray, List.set_cons_zero, List.set_cons_succ]
  repeat ((fail_if_success (with_reducible show wpList _ _ _ (List.cons _ _) _ _)); (fail_if_success (with_reducible show Code.wp _ (Code.region _ _ true) _ _ _)); go_step)
  go_returns
  exact ⟨rfl, hE1.below⟩
end Go.Proofs.YtndnmghlgcamfaaDoor
