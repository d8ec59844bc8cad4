/-
  Layer 5, the document's answer: the bytes of digits.
-/
import Derived.Test.YtobfgleckcpcpaaRefC
namespace Go.Proofs.Ytobfgleckcpcpaa
open Go.RowKit
set_option linter.unusedVariables false
set_option linter.unusedSimpArgs false

theorem bytes_step {V k : Nat} (n : Nat) (hk : k < n) : (digs 256 n (V % 256 ^ k)).set k (V / 256 ^ k % 256) = digs 256 n (V % 256 ^ (k + 1)) := by
  have hl : k < (digs 256 n (V % 256 ^ k)).length := by rw [digs_length]; exact hk
  have hv := val_set (B := 256) (digs 256 n (V % 256 ^ k)) k (V / 256 ^ k % 256) hl
  have h0 : (digs 256 n (V % 256 ^ k))[k] = 0 := by
    have := digs_getD 256 n (V % 256 ^ k) k hk
    rw [List.getD_eq_getElem?_getD, List.getElem?_eq_getElem hl] at this
    simp only [Option.getD_some] at this
    rw [this, Nat.div_eq_of_lt (Nat.mod_lt _ (Nat.pow_pos (by decide)))]
  rw [h0, Nat.mul_zero, Nat.add_zero, val_digs, Nat.mod_eq_of_lt (a := V % 256 ^ k) (Nat.lt_of_lt_of_le (Nat.mod_lt _ (Nat.pow_pos (by decide))) (Nat.pow_le_pow_right (by decide) (Nat.le_of_lt hk)))] at hv
  have e : V % 256 ^ (k + 1) = val 256 ((digs 256 n (V % 256 ^ k)).set k (V / 256 ^ k % 256)) := by rw [hv, Nat.pow_succ, Nat.mod_mul]
  rw [e, digs_val' ((digs_Digs (by decide) _ _).set _ (Nat.mod_lt _ (by decide))) (by rw [List.length_set, digs_length])]

set_option maxHeartbeats 1000000 in
theorem Bytes_any {l : List Nat} {v : Value} {w : World} (h : Rd l v w) (dl : Digs 256 l) (hl : l.length ≤ 65536) : Gives 22 #[v] w (.agg (ints .u8 (digs 256 32 (val 256 l)))) := by
  have Hr := Lib.hid h
  obtain ⟨p, c, hv⟩ := h.len
  subst hv
  clear h
  have hE0 := Env.nil w
  go_enter Try.func22, Try.ntmps22
  repeat ((fail_if_success (with_reducible show wpList _ _ _ (List.cons _ _) _ _)); (fail_if_success (with_reducible show Code.wp _ (Code.region _ _ true) _ _ _)); go_step)
  refine wl_alloc hE0 rfl rfl al_b32 ?_
  intro g0 w1 hE1
  clear hE0
  simp only [Act.put, List.setIfInBounds_toArray, List.set_cons_zero, List.set_cons_succ]
  repeat ((fail_if_success (with_reducible show wpList _ _ _ (List.cons _ _) _ _)); (fail_if_success (with_reducible show Code.wp _ (Code.region _ _ true) _ _ _)); go_step)
  refine wl_alloc hE1 rfl rfl al_b32 ?_
  intro g1 w2 hE2
  clear hE1
  simp only [Act.put, List.setIfInBounds_toArray, List.set_cons_zero, List.set_cons_succ]
  go_wp2
  go_loopw [4] (fun i wr => ∃ k : Nat, k ≤ 32 ∧ i = .int .i64 k ∧ Env w [⟨g1, 22, ints .u8 (digs 256 32 (val 256 l % 256 ^ k))⟩, ⟨g0, 22, ints .u8 (List.replicate 32 0)⟩] wr) (fun i _ => 32 - (intOf i).toNat)
  case atStart => exact ⟨0, by decide, rfl, by rw [Nat.pow_zero, Nat.mod_one]; exact hE2⟩
  case round =>
    clear hE2
    obtain ⟨k, hk, rfl, hE0⟩ := hrel
    by_cases hk32 : k < 32
    · have hat : ∀ (L : List Blk) (w1), Env w L w1 → Gives 35 #[.slice p l.length c, .int .i64 (k : Int)] w1 (.int .i64 (val 256 l / 256 ^ k % 256 : Nat)) := fun L w1 hE => by
        have := at_any (Hr.out.below hE.below) (by omega) (k : Int)
        rwa [atD_nat dl] at this
      obtain ⟨x, hx⟩ : ∃ x, x = val 256 l / 256 ^ k % 256 := ⟨_, rfl⟩
      rw [← hx] at hat
      have hd : IntKind.u8.wrap (x : Int) = (x : Int) := by rw [IntKind.wrap_u8]; omega
      have Hx := Lib.hid hx
      have Hat := Lib.hid hat
      clear hat hx
      have hk1 : IntKind.i64.wrap ((k : Int) + 1) = ((k + 1 : Nat) : Int) := by rw [IntKind.wrap_i64]; omega
      repeat ((fail_if_success (with_reducible show wpList _ _ _ (List.cons _ _) _ _)); (fail_if_success (with_reducible show Code.wp _ (Code.region _ _ true) _ _ _)); go_step)
      apply wl_val rfl
      · go_simp
        with_reducible rfl
      simp only [Act.put, List.setIfInBounds_toArray, List.set_cons_zero, List.set_cons_succ]
      apply wl_val rfl
      · go_simp
        with_reducible rfl
      simp only [Act.put, List.setIfInBounds_toArray, List.set_cons_zero, List.set_cons_succ]
      repeat ((fail_if_success (with_reducible show wpList _ _ _ (List.cons _ _) _ _)); (fail_if_success (with_reducible show Code.wp _ (Code.region _ _ true) _ _ _)); go_step)
      apply wl_val rfl
      · go_simp
        with_reducible rfl
      simp only [Act.put, List.setIfInBounds_toArray, List.set_cons_zero, List.set_cons_succ]
      apply wl_val rfl
      · go_simp
        with_reducible rfl
      simp only [Act.put, List.setIfInBounds_toArray, List.set_cons_zero, List.set_cons_succ]
      apply wl_val rfl
      · go_simp
        with_reducible rfl
      simp only [Act.put, List.setIfInBounds_toArray, List.set_cons_zero, List.set_cons_succ]
      refine wl_call hE0 rfl (by go_simp) (Hat.out _ _ hE0) ?_
      intro w1 hE1
      clear hE0
      simp only [Act.put, List.setIfInBounds_toArray, List.set_cons_zero, List.set_cons_succ]
      apply wl_val rfl
      · go_simp
        with_reducible rfl
      simp only [Act.put, List.setIfInBounds_toArray, List.set_cons_zero, List.set_cons_succ]
      apply wl_val rfl
      · go_simp
        with_reducible rfl
      simp only [Act.put, List.setIfInBounds_toArray, List.set_cons_zero, List.set_cons_succ]
      refine wl_cell (i := 0) (j := k) (v := .int .u8 (x : Nat)) hE1 rfl rfl (by (have ca := hE1.cell (i := 0) rfl k; rw [ints_get? _ _ _ (by rw [digs_length]; exact hk32)] at ca; have cf := hE1.frozen (i := 0) rfl k; go_simp; try with_reducible rfl)) ?_
      intro w2 hE2
      clear hE1
      simp only [List.set_cons_zero, List.set_cons_succ] at hE2
      rw [ints_set, Hx.out, bytes_step _ hk32] at hE2
      simp only [Act.put, List.setIfInBounds_toArray, List.set_cons_zero, List.set_cons_succ]
      repeat ((fail_if_success (with_reducible show wpList _ _ _ (List.cons _ _) _ _)); (fail_if_success (with_reducible show Code.wp _ (Code.region _ _ true) _ _ _)); go_step)
      apply wl_val rfl
      · go_simp
        with_reducible rfl
      simp only [Act.put, List.setIfInBounds_toArray, List.set_cons_zero, List.set_cons_succ]
      apply wl_val rfl
      · go_simp
        with_reducible rfl
      simp only [Act.put, List.setIfInBounds_toArray, List.set_cons_zero, List.set_cons_succ]
      apply wl_val rfl
      · go_simp
        with_reducible rfl
      simp only [Act.put, List.setIfInBounds_toArray, List.set_cons_zero, List.set_cons_succ]
      go_wp2
      go_roundw
      case rel => exact ⟨k + 1, by omega, by go_num, hE2⟩
      case measure => simp [intOf]; omega
    · have hke : k = 32 := by omega
      subst hke
      repeat ((fail_if_success (with_reducible show wpList _ _ _ (List.cons _ _) _ _)); (fail_if_success (with_reducible show Code.wp _ (Code.region _ _ true) _ _ _)); go_step)
      apply wl_val rfl
      · go_simp
        with_reducible rfl
      simp only [Act.put, List.setIfInBounds_toArray, List.set_cons_zero, List.set_cons_succ]
      apply wl_val rfl
      · go_simp
        with_reducible rfl
      simp only [Act.put, List.setIfInBounds_toArray, List.set_cons_zero, List.set_cons_succ]
      repeat ((fail_if_success (with_reducible show wpList _ _ _ (List.cons _ _) _ _)); (fail_if_success (with_reducible show Code.wp _ (Code.region _ _ true) _ _ _)); go_step)
      refine wl_load (i := 0) hE0 rfl rfl rfl rfl Try.underlying22 rfl (sz_of (n := 32) (by kernel_rfl) (by first | (simp only [ints_size, digs_length, List.length_replicate, List.length_cons, List.length_nil]; done) | (simp only [ints_size, *]; done) | rfl)) ?_
      simp only [Act.put, List.setIfInBounds_toArray, List.set_cons_zero, List.set_cons_succ]
      refine wl_store (i := 1) hE0 rfl rfl rfl rfl rfl (sz_of (n := 32) (by kernel_rfl) (by first | (simp only [ints_size, digs_length, List.length_replicate, List.length_cons, List.length_nil]; done) | (simp only [ints_size, *]; done) | rfl)) (by first | (simp only [ints_size, digs_length, List.length_replicate, List.length_cons, List.length_nil]; done) | (simp only [ints_size, *]; done) | rfl) (by first | exact ints_one _ _ | decide | simp [*]) ?_
      intro w1 hE1
      clear hE0
      simp only [List.set_cons_zero, List.set_cons_succ] at hE1
      simp only [Act.put, List.setIfInBounds_toArray, List.set_cons_zero, List.set_cons_succ]
      repeat ((fail_if_success (with_reducible show wpList _ _ _ (List.cons _ _) _ _)); (fail_if_success (with_reducible show Code.wp _ (Code.region _ _ true) _ _ _)); go_step)
      refine bodyPost_ret (results_cell_row rfl _ _ _ _ _ (0, 0) _ rfl (hE1.get (i := 1) rfl) Try.underlying22 rfl (sz_of (n := 32) (by kernel_rfl) (by first | (simp only [ints_size, digs_length, List.length_replicate, List.length_cons, List.length_nil]; done) | (simp only [ints_size, *]; done) | rfl))) rfl ⟨by rw [digs_mod], hE1.below⟩
end Go.Proofs.Ytobfgleckcpcpaa
