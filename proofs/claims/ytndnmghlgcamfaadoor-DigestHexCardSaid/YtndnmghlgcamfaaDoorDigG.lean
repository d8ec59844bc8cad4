/-
  Layer 3: a number laid as bytes into a row of whatever cells.
-/
import Derived.Test.YtndnmghlgcamfaaDoorDigB
import Derived.Test.YtndnmghlgcamfaaDoorApp
namespace Go.Proofs.YtndnmghlgcamfaaDoor
open Go.RowKit
set_option maxRecDepth 100000
set_option linter.unusedVariables false
set_option linter.unusedSimpArgs false

theorem nats_get {k : IntKind} {l : List Nat} {j : Nat} (hj : j < l.length) : (nats k l)[j]'(by rw [nats_len]; exact hj) = Value.int k ((l[j] : Nat) : Int) := by
  unfold nats ints
  simp
/-- A row into which the bytes from the K-th one on are laid. -/
def putV (X : List Value) (off n x K : Nat) : List Value := X.take (off + K) ++ (nats .u8 (beD n x)).drop K ++ X.drop (off + n)
theorem putV_start {X : List Value} {off n : Nat} (x : Nat) (h : off + n ≤ X.length) : putV X off n x n = X := by
  unfold putV
  rw [List.drop_of_length_le (by rw [nats_len, beD_len]; exact Nat.le_refl _), List.append_nil, List.take_append_drop]
theorem putV_len {X : List Value} {off n K : Nat} (x : Nat) (h : off + n ≤ X.length) (hK : K ≤ n) : (putV X off n x K).length = X.length := by
  unfold putV
  rw [List.length_append, List.length_append, List.length_take, List.length_drop, List.length_drop, nats_len, beD_len]
  omega
theorem putV_step {X : List Value} {off n j x : Nat} (h : off + n ≤ X.length) (hj : j < n) : (putV X off n x (j + 1)).set (off + j) (Value.int .u8 ((x / 256 ^ (n - 1 - j) % 256 : Nat) : Int)) = putV X off n x j := by
  unfold putV
  have h1 : (X.take (off + j)).length = off + j := by rw [List.length_take]; omega
  rw [show off + (j + 1) = off + j + 1 by omega, List.take_succ_eq_append_getElem (by omega), List.drop_eq_getElem_cons (i := j) (by rw [nats_len, beD_len]; exact hj), nats_get (by rw [beD_len]; exact hj), beD_get hj]
  rw [List.append_assoc, List.append_assoc, List.set_append_right _ _ (by omega), h1, Nat.sub_self]
  simp

set_option maxHeartbeats 4000000 in
theorem put_anyV {w0 w : World} {l : List Blk} {i g off n c x : Nat} {T : TypeId} {X : List Value} (hE : Env w0 l w) (hi : l[i]? = some ⟨g, T, X.toArray⟩) (hX : off + n ≤ X.length) (hn : n < 4611686018427387904) (hx : x < 18446744073709551616) :
    Calls Tryd.prog 24 #[.slice (some ⟨g, off, none⟩) n c, .int .u64 (x : Int)] w fun e w' => e = .returned (.tuple #[]) ∧ Env w0 (l.set i ⟨g, T, (putV X off n x 0).toArray⟩) w' := by
  have hil : i < l.length := (List.getElem?_eq_some_iff.1 hi).1
  have h0 : Env w0 (l.set i ⟨g, T, (putV X off n x n).toArray⟩) w := by
    rw [putV_start x hX]
    obtain ⟨h1, h2⟩ := List.getElem?_eq_some_iff.1 hi
    rw [← h2, List.set_getElem_self]
    exact hE
  have Hset := Lib.hid (fun j (hj : j < n) => putV_step (x := x) hX hj)
  have Hlen := Lib.hid (fun K (hK : K ≤ n) => putV_len x hX hK)
  have hwn : IntKind.i64.wrap ((n : Int) - ((1 : Nat) : Int)) = (n : Int) - 1 := by rw [IntKind.wrap_i64]; omega
  have Hwn := Lib.hid hwn
  have Hx0 : Hid (x = x / 256 ^ (n - n)) := Lib.hid (by rw [Nat.sub_self, Nat.pow_zero, Nat.div_one])
  have Hxl : Hid (∀ k, x / 256 ^ k < 18446744073709551616) := Lib.hid (fun k => Nat.lt_of_le_of_lt (Nat.div_le_self _ _) hx)
  clear hE hi hwn hx
  have hE0 := h0
  clear h0
  go_enter Tryd.func24, Tryd.ntmps24
  repeat ((fail_if_success (with_reducible show wpList _ _ _ (List.cons _ _) _ _)); (fail_if_success (with_reducible show Code.wp _ (Code.region _ _ true) _ _ _)); go_step)
  refine wl_step (st_val rfl (v_moveT (.inl rfl) rfl) ?_)
  simp only [Act.put, List.setIfInBounds_toArray, List.set_cons_zero, List.set_cons_succ]
  refine wl_step (st_val rfl (v_len rfl rfl Tryd.underlying22 (by omega)) ?_)
  simp only [Act.put, List.setIfInBounds_toArray, List.set_cons_zero, List.set_cons_succ]
  refine wl_step (st_val rfl (v_sub (m := n) (n := 1) rfl rfl rfl Hwn.out) ?_)
  simp only [Act.put, List.setIfInBounds_toArray, List.set_cons_zero, List.set_cons_succ]
  refine wl_step (st_val rfl (v_moveT (.inr rfl) rfl) ?_)
  simp only [Act.put, List.setIfInBounds_toArray, List.set_cons_zero, List.set_cons_succ]
  go_wp2
  go_loopw [1, 4] (fun s j wr => ∃ K : Nat, K ≤ n ∧ j = .int .i64 ((K : Int) - 1) ∧ s = .int .u64 (x / 256 ^ (n - K) : Nat) ∧ Env w0 (l.set i ⟨g, T, (putV X off n x K).toArray⟩) wr) (fun _ j _ => (intOf j + 1).toNat)
  case atStart => exact ⟨n, Nat.le_refl _, rfl, by rw [← Hx0.out], hE0⟩
  case round =>
    clear hE0
    obtain ⟨K, hK, rfl, rfl, hE0⟩ := hrel
    cases K with
    | zero =>
      repeat ((fail_if_success (with_reducible show wpList _ _ _ (List.cons _ _) _ _)); (fail_if_success (with_reducible show Code.wp _ (Code.region _ _ true) _ _ _)); go_step)
      refine wl_step (st_val rfl (v_moveT (.inl rfl) rfl) ?_)
      simp only [Act.put, List.setIfInBounds_toArray, List.set_cons_zero, List.set_cons_succ]
      refine wl_step (st_val rfl (v_geqI rfl rfl rfl) ?_)
      simp only [Act.put, List.setIfInBounds_toArray, List.set_cons_zero, List.set_cons_succ]
      go_wp2
      go_end0
      exact ⟨rfl, hE0⟩
    | succ j =>
      have hj : ((j + 1 : Nat) : Int) - 1 = (j : Int) := by omega
      rw [hj]
      clear hj
      have hjn : j < n := by omega
      have hset := Hset.out j hjn
      have hlen := Hlen.out (j + 1) hK
      have e1 : n - (j + 1) = n - 1 - j := by omega
      have e2 : x / 256 ^ (n - 1 - j) / 256 = x / 256 ^ (n - j) := by
        rw [Nat.div_div_eq_div_mul, ← Nat.pow_succ, show (n - 1 - j).succ = n - j by omega]
      have hyl := Hxl.out (n - 1 - j)
      rw [e1]
      obtain ⟨y, hy⟩ : ∃ y, x / 256 ^ (n - 1 - j) = y := ⟨_, rfl⟩
      rw [hy] at hset e2 hyl ⊢
      have hlt : off + j < (putV X off n x (j + 1)).toArray.size := by rw [List.size_toArray, hlen]; omega
      have hget : (l.set i ⟨g, T, (putV X off n x (j + 1)).toArray⟩)[i]? = some ⟨g, T, (putV X off n x (j + 1)).toArray⟩ := List.getElem?_set_self hil
      have Hs := Lib.hid hset
      have E2 := Lib.hid e2
      have Hg := Lib.hid hget
      clear hset hlen e1 e2 hy hget
      repeat ((fail_if_success (with_reducible show wpList _ _ _ (List.cons _ _) _ _)); (fail_if_success (with_reducible show Code.wp _ (Code.region _ _ true) _ _ _)); go_step)
      refine wl_step (st_val rfl (v_moveT (.inl rfl) rfl) ?_)
      simp only [Act.put, List.setIfInBounds_toArray, List.set_cons_zero, List.set_cons_succ]
      refine wl_step (st_val rfl (v_geqI rfl rfl rfl) ?_)
      simp only [Act.put, List.setIfInBounds_toArray, List.set_cons_zero, List.set_cons_succ]
      repeat ((fail_if_success (with_reducible show wpList _ _ _ (List.cons _ _) _ _)); (fail_if_success (with_reducible show Code.wp _ (Code.region _ _ true) _ _ _)); go_step)
      refine wl_step (st_val rfl (v_moveT (.inl rfl) rfl) ?_)
      simp only [Act.put, List.setIfInBounds_toArray, List.set_cons_zero, List.set_cons_succ]
      refine wl_step (st_val rfl (v_moveT (.inl rfl) rfl) ?_)
      simp only [Act.put, List.setIfInBounds_toArray, List.set_cons_zero, List.set_cons_succ]
      refine wl_step (st_val rfl (v_moveT (.inl rfl) rfl) ?_)
      simp only [Act.put, List.setIfInBounds_toArray, List.set_cons_zero, List.set_cons_succ]
      refine wl_step (st_val rfl (v_convInt rfl rfl Tryd.underlying67 Tryd.underlying5 (w_u8m _)) ?_)
      simp only [Act.put, List.setIfInBounds_toArray, List.set_cons_zero, List.set_cons_succ]
      refine wl_step (st_val rfl (v_indexS rfl rfl rfl Tryd.underlying22 (by kernel_rfl) hjn) ?_)
      simp only [Act.put, List.setIfInBounds_toArray, List.set_cons_zero, List.set_cons_succ]
      refine wl_step (st_put (i := i) (v := Value.int .u8 ((y % 256 : Nat) : Int)) hE0 rfl rfl rfl rfl Hg.out (by kernel_rfl) rfl rfl hlt ?_)
      intro w1 hE1
      clear hE0
      rw [List.set_set, List.setIfInBounds_toArray, Hs.out] at hE1
      simp only [Act.put, List.setIfInBounds_toArray, List.set_cons_zero, List.set_cons_succ]
      repeat ((fail_if_success (with_reducible show wpList _ _ _ (List.cons _ _) _ _)); (fail_if_success (with_reducible show Code.wp _ (Code.region _ _ true) _ _ _)); go_step)
      refine wl_step (st_val rfl (v_moveT (.inl rfl) rfl) ?_)
      simp only [Act.put, List.setIfInBounds_toArray, List.set_cons_zero, List.set_cons_succ]
      refine wl_step (st_val rfl (v_shrC (s := 8) (d := 256) rfl rfl rfl (by decide) (by decide)) ?_)
      simp only [Act.put, List.setIfInBounds_toArray, List.set_cons_zero, List.set_cons_succ]
      rw [E2.out]
      refine wl_step (st_val rfl (v_moveT (.inr rfl) rfl) ?_)
      simp only [Act.put, List.setIfInBounds_toArray, List.set_cons_zero, List.set_cons_succ]
      repeat ((fail_if_success (with_reducible show wpList _ _ _ (List.cons _ _) _ _)); (fail_if_success (with_reducible show Code.wp _ (Code.region _ _ true) _ _ _)); go_step)
      refine wl_step (st_val rfl (v_moveT (.inl rfl) rfl) ?_)
      simp only [Act.put, List.setIfInBounds_toArray, List.set_cons_zero, List.set_cons_succ]
      refine wl_step (st_val rfl (v_sub (n := 1) rfl rfl rfl (by first | exact w_i64s (by omega) (by omega) | exact w_i64I (by omega) (by omega))) ?_)
      simp only [Act.put, List.setIfInBounds_toArray, List.set_cons_zero, List.set_cons_succ]
      refine wl_step (st_val rfl (v_moveT (.inr rfl) rfl) ?_)
      simp only [Act.put, List.setIfInBounds_toArray, List.set_cons_zero, List.set_cons_succ]
      go_wp2
      go_roundw
      case rel => exact ⟨j, by omega, rfl, rfl, hE1⟩
      case measure => simp [intOf]
end Go.Proofs.YtndnmghlgcamfaaDoor
