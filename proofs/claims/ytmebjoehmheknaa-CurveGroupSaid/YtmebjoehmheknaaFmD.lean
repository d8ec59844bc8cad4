/-
  Layer 4, the document's answer: bytes of a number, a number of bytes.
-/
import Derived.Test.YtmebjoehmheknaaFmC
namespace Go.Proofs.Ytmebjoehmheknaa
open Go.RowKit
set_option linter.unusedVariables false
set_option linter.unusedSimpArgs false

/-- One digit that is written over. -/
theorem digs_set {B k j A A' d : Nat} (hB : 0 < B) (hj : j < k) (hA : A < B ^ k) (hA' : A' < B ^ k) (hd : d < B) (h : A' + B ^ j * (A / B ^ j % B) = A + B ^ j * d) : (digs B k A).set j d = digs B k A' := by
  have hl : j < (digs B k A).length := by rw [digs_length]; exact hj
  have hv := val_set (B := B) (digs B k A) j d hl
  have hg : (digs B k A)[j] = A / B ^ j % B := by
    have := digs_getElem? B k A j hj
    rw [List.getElem?_eq_getElem hl] at this
    exact Option.some.inj this
  rw [hg, val_digs, Nat.mod_eq_of_lt hA] at hv
  apply val_inj ((digs_Digs hB k A).set j hd) (digs_Digs hB k A')
  · rw [List.length_set, digs_length, digs_length]
  · rw [val_digs, Nat.mod_eq_of_lt hA']
    omega
theorem byte_of {x r : Nat} (hr : r < 4) : x % 4294967296 / 2 ^ (8 * r) % 256 = x / 256 ^ r % 256 := by
  rcases (show r = 0 ∨ r = 1 ∨ r = 2 ∨ r = 3 by omega) with rfl | rfl | rfl | rfl
  · show x % 4294967296 / 1 % 256 = x / 1 % 256
    omega
  · show x % 4294967296 / 256 % 256 = x / 256 % 256
    omega
  · show x % 4294967296 / 65536 % 256 = x / 65536 % 256
    omega
  · show x % 4294967296 / 16777216 % 256 = x / 16777216 % 256
    omega
theorem pow4 (K : Nat) : 256 ^ K = 4294967296 ^ (K / 4) * 256 ^ (K % 4) := by
  have e : (4294967296 : Nat) = 256 ^ 4 := by decide
  rw [e, ← Nat.pow_mul, ← Nat.pow_add, Nat.div_add_mod]
theorem byte_digit (n K : Nat) : n / 4294967296 ^ (K / 4) % 4294967296 / 2 ^ (8 * (K % 4)) % 256 = n / 256 ^ K % 256 := by
  rw [byte_of (Nat.mod_lt _ (by decide)), Nat.div_div_eq_div_mul, ← pow4]
theorem byte_fill {n K : Nat} (hK : K < 32) : (digs 256 32 (n % 256 ^ K)).set K (n / 256 ^ K % 256) = digs 256 32 (n % 256 ^ (K + 1)) := by
  have h1 : 256 ^ K ≤ 256 ^ 32 := Nat.pow_le_pow_right (by decide) (by omega)
  have h2 : 256 ^ (K + 1) ≤ 256 ^ 32 := Nat.pow_le_pow_right (by decide) (by omega)
  have h3 : 0 < 256 ^ K := Nat.pow_pos (by decide)
  have h4 : 0 < 256 ^ (K + 1) := Nat.pow_pos (by decide)
  refine digs_set (by decide) hK (Nat.lt_of_lt_of_le (Nat.mod_lt _ h3) h1) (Nat.lt_of_lt_of_le (Nat.mod_lt _ h4) h2) (Nat.mod_lt _ (by decide)) ?_
  rw [Nat.div_eq_of_lt (Nat.mod_lt _ h3), Nat.zero_mod, Nat.mul_zero, Nat.add_zero, Nat.pow_succ, Nat.mod_mul]

set_option maxHeartbeats 4000000 in
theorem rBytes_any {n : Nat} (hn : n < big8) (w : World) : Gives 59 #[nm n] w (.agg (ints .u8 (digs 256 32 n))) := by
  have hn8 := nm_len n
  have Hgn := Lib.hid (nm_get n)
  have Hn := Lib.hid hn
  have Hl : Hid (∀ x, (digs 256 32 x).length = 32) := Lib.hid (fun x => digs_length _ _ _)
  clear hn
  have hE0 := Env.nil w
  go_enter Try.func59, Try.ntmps59
  repeat ((fail_if_success (with_reducible show wpList _ _ _ (List.cons _ _) _ _)); (fail_if_success (with_reducible show Code.wp _ (Code.region _ _ true) _ _ _)); go_step)
  refine wl_step (st_boxA hE0 rfl rfl rfl ?_)
  intro g0 w1 hb1 hE1
  clear hE0
  simp only [Act.put, List.setIfInBounds_toArray, List.set_cons_zero, List.set_cons_succ]
  refine wl_step (st_alloc (zs := ints .u8 (List.replicate 32 0)) hE1 rfl rfl (fun w => by kernel_rfl) ?_)
  intro g1 w2 hb2 hE2
  clear hE1
  simp only [Act.put, List.setIfInBounds_toArray, List.set_cons_zero, List.set_cons_succ]
  repeat ((fail_if_success (with_reducible show wpList _ _ _ (List.cons _ _) _ _)); (fail_if_success (with_reducible show Code.wp _ (Code.region _ _ true) _ _ _)); go_step)
  refine wl_step (st_alloc (zs := ints .u8 (List.replicate 32 0)) hE2 rfl rfl (fun w => by kernel_rfl) ?_)
  intro g2 w3 hb3 hE3
  clear hE2
  simp only [Act.put, List.setIfInBounds_toArray, List.set_cons_zero, List.set_cons_succ]
  repeat ((fail_if_success (with_reducible show wpList _ _ _ (List.cons _ _) _ _)); (fail_if_success (with_reducible show Code.wp _ (Code.region _ _ true) _ _ _)); go_step)
  refine wl_step (st_val rfl (v_moveC (.inr rfl)) ?_)
  simp only [Act.put, List.setIfInBounds_toArray, List.set_cons_zero, List.set_cons_succ]
  go_wp2
  go_loopw [4] (fun i wr => ∃ (K : Nat), K ≤ 32 ∧ i = .int .i64 K ∧ Env w [⟨g2, 22, ints .u8 (digs 256 32 (n % 256 ^ K))⟩, ⟨g1, 22, ints .u8 (List.replicate 32 0)⟩, ⟨g0, 43, ints .u32 (digs 4294967296 8 n)⟩] wr) (fun i _ => 32 - (intOf i).toNat)
  case atStart => exact ⟨0, Nat.zero_le _, rfl, by rw [Nat.pow_zero, Nat.mod_one]; exact hE3⟩
  case round =>
    clear hE3
    obtain ⟨K, hK, rfl, hE0⟩ := hrel
    by_cases hK8 : K < 32
    · have hgn := Lib.hid (Hgn.out (K / 4) (by omega))
      have hj : K / 4 < 8 := by omega
      have hb := Lib.hid (byte_digit n K)
      have hf := Lib.hid (byte_fill (n := n) hK8)
      have hx32 := Hl.out (n % 256 ^ K)
      have ha : n / 4294967296 ^ (K / 4) % 4294967296 < 4294967296 := Nat.mod_lt _ (by decide)
      obtain ⟨a, hae⟩ : ∃ a, a = n / 4294967296 ^ (K / 4) % 4294967296 := ⟨_, rfl⟩
      rw [← hae] at hgn ha hb
      obtain ⟨c, hce⟩ : ∃ c, c = n / 256 ^ K % 256 := ⟨_, rfl⟩
      rw [← hce] at hf hb
      clear hae hce
      obtain ⟨X, hXe⟩ : ∃ X, X = digs 256 32 (n % 256 ^ K) := ⟨_, rfl⟩
      rw [← hXe] at hE0 hf hx32
      clear hXe
      repeat ((fail_if_success (with_reducible show wpList _ _ _ (List.cons _ _) _ _)); (fail_if_success (with_reducible show Code.wp _ (Code.region _ _ true) _ _ _)); go_step)
      refine wl_step (st_val rfl (v_moveT (.inl rfl) rfl) ?_)
      simp only [Act.put, List.setIfInBounds_toArray, List.set_cons_zero, List.set_cons_succ]
      refine wl_step (st_val rfl (v_lss (n := 32) rfl rfl rfl) ?_)
      simp only [Act.put, List.setIfInBounds_toArray, List.set_cons_zero, List.set_cons_succ]
      repeat ((fail_if_success (with_reducible show wpList _ _ _ (List.cons _ _) _ _)); (fail_if_success (with_reducible show Code.wp _ (Code.region _ _ true) _ _ _)); go_step)
      refine wl_step (st_val rfl (v_moveT (.inl rfl) rfl) ?_)
      simp only [Act.put, List.setIfInBounds_toArray, List.set_cons_zero, List.set_cons_succ]
      refine wl_step (st_val rfl (v_moveT (.inl rfl) rfl) ?_)
      simp only [Act.put, List.setIfInBounds_toArray, List.set_cons_zero, List.set_cons_succ]
      refine wl_step (st_val rfl (v_quo (n := 4) rfl rfl rfl (by omega) (w_i64 (by omega))) ?_)
      simp only [Act.put, List.setIfInBounds_toArray, List.set_cons_zero, List.set_cons_succ]
      refine wl_step (st_val rfl (v_indexA0 rfl rfl rfl Try.underlying43 (by kernel_rfl) (by first | assumption | omega)) ?_)
      simp only [Act.put, List.setIfInBounds_toArray, List.set_cons_zero, List.set_cons_succ]
      refine wl_step (st_val rfl (v_cell rfl rfl Try.underlying41 rfl (Env.cellv (i := 2) hE0 rfl (ints_get? _ _ _ (by first | assumption | omega | (simp; done) | (simp; omega))))) ?_)
      simp only [Act.put, List.setIfInBounds_toArray, List.set_cons_zero, List.set_cons_succ]
      rw [hgn.out]
      refine wl_step (st_val rfl (v_moveT (.inl rfl) rfl) ?_)
      simp only [Act.put, List.setIfInBounds_toArray, List.set_cons_zero, List.set_cons_succ]
      refine wl_step (st_val rfl (v_rem (n := 4) rfl rfl rfl (by omega)) ?_)
      simp only [Act.put, List.setIfInBounds_toArray, List.set_cons_zero, List.set_cons_succ]
      refine wl_step (st_val rfl (v_mul (m := 8) rfl rfl rfl (w_i64 (by omega))) ?_)
      simp only [Act.put, List.setIfInBounds_toArray, List.set_cons_zero, List.set_cons_succ]
      refine wl_step (st_val rfl (v_shr rfl rfl rfl (by simp only [IntKind.bits]; omega)) ?_)
      simp only [Act.put, List.setIfInBounds_toArray, List.set_cons_zero, List.set_cons_succ]
      refine wl_step (st_val rfl (v_convInt rfl rfl Try.underlying41 Try.underlying5 (w_u8m _)) ?_)
      simp only [Act.put, List.setIfInBounds_toArray, List.set_cons_zero, List.set_cons_succ]
      rw [hb.out]
      refine wl_step (st_val rfl (v_indexA0 rfl rfl rfl Try.underlying22 (by kernel_rfl) (by first | assumption | omega)) ?_)
      simp only [Act.put, List.setIfInBounds_toArray, List.set_cons_zero, List.set_cons_succ]
      refine wl_step (st_putN (i := 0) hE0 rfl rfl rfl rfl rfl (by kernel_rfl) (by first | assumption | omega | (simp only [List.length_set, List.length_replicate]; first | assumption | omega)) ?_)
      intro w1 hE1
      clear hE0
      simp only [List.set_cons_zero, List.set_cons_succ] at hE1
      simp only [Act.put, List.setIfInBounds_toArray, List.set_cons_zero, List.set_cons_succ]
      repeat ((fail_if_success (with_reducible show wpList _ _ _ (List.cons _ _) _ _)); (fail_if_success (with_reducible show Code.wp _ (Code.region _ _ true) _ _ _)); go_step)
      refine wl_step (st_val rfl (v_moveT (.inl rfl) rfl) ?_)
      simp only [Act.put, List.setIfInBounds_toArray, List.set_cons_zero, List.set_cons_succ]
      refine wl_step (st_val rfl (v_add (n := 1) rfl rfl rfl (w_i64 (by omega))) ?_)
      simp only [Act.put, List.setIfInBounds_toArray, List.set_cons_zero, List.set_cons_succ]
      refine wl_step (st_val rfl (v_moveT (.inr rfl) rfl) ?_)
      simp only [Act.put, List.setIfInBounds_toArray, List.set_cons_zero, List.set_cons_succ]
      go_wp2
      go_roundw
      case rel => exact ⟨K + 1, by omega, rfl, by rw [← hf.out]; exact hE1⟩
      case measure => simp [intOf]; omega
    · have hK' : K = 32 := by omega
      subst hK'
      rw [Nat.mod_eq_of_lt (show n < 256 ^ 32 from Hn.out)] at hE0
      have hl8 := Hl.out n
      repeat ((fail_if_success (with_reducible show wpList _ _ _ (List.cons _ _) _ _)); (fail_if_success (with_reducible show Code.wp _ (Code.region _ _ true) _ _ _)); go_step)
      refine wl_step (st_val rfl (v_moveT (.inl rfl) rfl) ?_)
      simp only [Act.put, List.setIfInBounds_toArray, List.set_cons_zero, List.set_cons_succ]
      refine wl_step (st_val rfl (v_lss (n := 32) rfl rfl rfl) ?_)
      simp only [Act.put, List.setIfInBounds_toArray, List.set_cons_zero, List.set_cons_succ]
      repeat ((fail_if_success (with_reducible show wpList _ _ _ (List.cons _ _) _ _)); (fail_if_success (with_reducible show Code.wp _ (Code.region _ _ true) _ _ _)); go_step)
      refine wl_step (st_val rfl (v_load (i := 0) hE0 rfl rfl rfl Try.underlying22 rfl (sz_of (n := 32) (by kernel_rfl) (by first | (simp only [ints_size, digs_length, List.length_replicate, List.length_cons, List.length_nil]; done) | (simp only [ints_size, digs_length, List.length_replicate, List.length_cons, List.length_nil, List.length_set, List.length_append]; omega) | rfl))) ?_)
      simp only [Act.put, List.setIfInBounds_toArray, List.set_cons_zero, List.set_cons_succ]
      refine wl_step (st_store (i := 1) hE0 rfl rfl rfl rfl rfl (sz_of (n := 32) (by kernel_rfl) (by first | (simp only [ints_size, digs_length, List.length_replicate, List.length_cons, List.length_nil]; done) | (simp only [ints_size, digs_length, List.length_replicate, List.length_cons, List.length_nil, List.length_set, List.length_append]; omega) | rfl)) (by first | (simp only [ints_size, digs_length, List.length_replicate, List.length_cons, List.length_nil]; done) | (simp only [ints_size, digs_length, List.length_replicate, List.length_cons, List.length_nil, List.length_set, List.length_append]; omega) | rfl) (by first | exact ints_one _ _ | decide | simp [*]) ?_)
      intro w1 hE1
      clear hE0
      simp only [List.set_cons_zero, List.set_cons_succ] at hE1
      simp only [Act.put, List.setIfInBounds_toArray, List.set_cons_zero, List.set_cons_succ]
      repeat ((fail_if_success (with_reducible show wpList _ _ _ (List.cons _ _) _ _)); (fail_if_success (with_reducible show Code.wp _ (Code.region _ _ true) _ _ _)); go_step)
      refine bodyPost_ret (results_cell_row rfl _ _ _ _ _ (0, 0) _ rfl (hE1.get (i := 1) rfl) Try.underlying22 rfl (sz_of (n := 32) (by kernel_rfl) (by first | (simp only [ints_size, digs_length, List.length_replicate, List.length_cons, List.length_nil]; done) | (simp only [ints_size, digs_length, List.length_replicate, List.length_cons, List.length_nil, List.length_set, List.length_append]; omega) | rfl))) rfl ⟨rfl, hE1.below⟩

/-! ### The number of 32 bytes -/
theorem or_digit {e c r : Nat} (he : e < 2 ^ (8 * r)) : e ||| c * 2 ^ (8 * r) = e + c * 256 ^ r := by
  have h := Nat.shiftLeft_add_eq_or_of_lt he c
  rw [Nat.or_comm, ← Nat.shiftLeft_eq, ← h, Nat.shiftLeft_eq, Nat.pow_mul, Nat.add_comm]
theorem raw_lt {c r : Nat} (hc : c < 256) (hr : r < 4) : c * 2 ^ (8 * r) < 4294967296 := by
  rcases (show r = 0 ∨ r = 1 ∨ r = 2 ∨ r = 3 by omega) with rfl | rfl | rfl | rfl
  · show c * 1 < 4294967296
    omega
  · show c * 256 < 4294967296
    omega
  · show c * 65536 < 4294967296
    omega
  · show c * 16777216 < 4294967296
    omega
theorem raw_fill {V K c e : Nat} (hK : K < 32) (hc : V / 256 ^ K % 256 = c) (he : V % 256 ^ K / 4294967296 ^ (K / 4) % 4294967296 = e) :
    e < 4294967296 ∧ c * 2 ^ (8 * (K % 4)) < 4294967296 ∧ (digs 4294967296 8 (V % 256 ^ K)).set (K / 4) (e ||| c * 2 ^ (8 * (K % 4))) = digs 4294967296 8 (V % 256 ^ (K + 1)) := by
  have hr : K % 4 < 4 := Nat.mod_lt _ (by decide)
  have hc2 : c < 256 := hc ▸ Nat.mod_lt _ (by decide)
  have he2 : e < 4294967296 := he ▸ Nat.mod_lt _ (by decide)
  have hcl := raw_lt hc2 hr
  refine ⟨he2, hcl, ?_⟩
  have h3 : 0 < 256 ^ K := Nat.pow_pos (by decide)
  have h4 : 0 < 256 ^ (K + 1) := Nat.pow_pos (by decide)
  have e8 : (4294967296 : Nat) ^ 8 = 256 ^ 32 := by decide
  have h1 : 256 ^ K ≤ 4294967296 ^ 8 := by rw [e8]; exact Nat.pow_le_pow_right (by decide) (by omega)
  have h2 : 256 ^ (K + 1) ≤ 4294967296 ^ 8 := by rw [e8]; exact Nat.pow_le_pow_right (by decide) (by omega)
  have hlt : V % 256 ^ K / 4294967296 ^ (K / 4) < 256 ^ (K % 4) := by
    apply Nat.div_lt_of_lt_mul
    rw [← pow4]
    exact Nat.mod_lt _ h3
  have her : e < 2 ^ (8 * (K % 4)) := by
    rw [← he, Nat.pow_mul]
    exact Nat.lt_of_le_of_lt (Nat.mod_le _ _) hlt
  have hd : (e ||| c * 2 ^ (8 * (K % 4))) < 4294967296 := Nat.or_lt_two_pow (n := 32) he2 hcl
  refine digs_set (by decide) (by omega) (Nat.lt_of_lt_of_le (Nat.mod_lt _ h3) h1) (Nat.lt_of_lt_of_le (Nat.mod_lt _ h4) h2) hd ?_
  rw [he, or_digit her, Nat.pow_succ, Nat.mod_mul, hc, Nat.mul_add, Nat.mul_comm c, ← Nat.mul_assoc, ← pow4]
  omega

set_option maxHeartbeats 4000000 in
theorem Raw_any {b : List Nat} (hB : Digs 256 b) (hlen : b.length = 32) (w : World) : Gives 49 #[.agg (ints .u8 b)] w (nm (val 256 b)) := by
  have Hgb := Lib.hid (val_div_mod hB (by decide))
  have Hn := Lib.hid (val_lt hB)
  have HB := Lib.hid (fun i => hB.getD (by decide) i)
  clear hB
  have hE0 := Env.nil w
  go_enter Try.func49, Try.ntmps49
  repeat ((fail_if_success (with_reducible show wpList _ _ _ (List.cons _ _) _ _)); (fail_if_success (with_reducible show Code.wp _ (Code.region _ _ true) _ _ _)); go_step)
  refine wl_step (st_boxA hE0 rfl rfl rfl ?_)
  intro g0 w1 hb1 hE1
  clear hE0
  simp only [Act.put, List.setIfInBounds_toArray, List.set_cons_zero, List.set_cons_succ]
  refine wl_step (st_alloc (zs := ints .u32 (List.replicate 8 0)) hE1 rfl rfl (fun w => by kernel_rfl) ?_)
  intro g1 w2 hb2 hE2
  clear hE1
  simp only [Act.put, List.setIfInBounds_toArray, List.set_cons_zero, List.set_cons_succ]
  repeat ((fail_if_success (with_reducible show wpList _ _ _ (List.cons _ _) _ _)); (fail_if_success (with_reducible show Code.wp _ (Code.region _ _ true) _ _ _)); go_step)
  refine wl_step (st_alloc (zs := ints .u32 (List.replicate 8 0)) hE2 rfl rfl (fun w => by kernel_rfl) ?_)
  intro g2 w3 hb3 hE3
  clear hE2
  simp only [Act.put, List.setIfInBounds_toArray, List.set_cons_zero, List.set_cons_succ]
  repeat ((fail_if_success (with_reducible show wpList _ _ _ (List.cons _ _) _ _)); (fail_if_success (with_reducible show Code.wp _ (Code.region _ _ true) _ _ _)); go_step)
  refine wl_step (st_val rfl (v_moveC (.inr rfl)) ?_)
  simp only [Act.put, List.setIfInBounds_toArray, List.set_cons_zero, List.set_cons_succ]
  go_wp2
  go_loopw [4] (fun i wr => ∃ (K : Nat), K ≤ 32 ∧ i = .int .i64 K ∧ Env w [⟨g2, 43, ints .u32 (digs 4294967296 8 (val 256 b % 256 ^ K))⟩, ⟨g1, 43, ints .u32 (List.replicate 8 0)⟩, ⟨g0, 22, ints .u8 b⟩] wr) (fun i _ => 32 - (intOf i).toNat)
  case atStart => exact ⟨0, Nat.zero_le _, rfl, by rw [Nat.pow_zero, Nat.mod_one]; exact hE3⟩
  case round =>
    clear hE3
    obtain ⟨K, hK, rfl, hE0⟩ := hrel
    by_cases hK8 : K < 32
    · have hj : K / 4 < 8 := by omega
      have hg2 := nm_get (val 256 b % 256 ^ K) (K / 4) hj
      obtain ⟨e, hee⟩ : ∃ e, val 256 b % 256 ^ K / 4294967296 ^ (K / 4) % 4294967296 = e := ⟨_, rfl⟩
      obtain ⟨c, hce⟩ : ∃ c, b.getD K 0 = c := ⟨_, rfl⟩
      have hr := raw_fill hK8 ((Hgb.out K).trans hce) hee
      rw [hee] at hg2
      have Hg2 := Lib.hid hg2
      have Hc := Lib.hid hce
      have hc8 : c < 256 := hce ▸ HB.out K
      have he32 := hr.1
      have hcs := hr.2.1
      have hf := Lib.hid hr.2.2
      have hx8 := nm_len (val 256 b % 256 ^ K)
      clear hr hee hce hg2
      obtain ⟨X, hXe⟩ : ∃ X, X = digs 4294967296 8 (val 256 b % 256 ^ K) := ⟨_, rfl⟩
      rw [← hXe] at hE0 hf hx8 Hg2
      clear hXe
      repeat ((fail_if_success (with_reducible show wpList _ _ _ (List.cons _ _) _ _)); (fail_if_success (with_reducible show Code.wp _ (Code.region _ _ true) _ _ _)); go_step)
      refine wl_step (st_val rfl (v_moveT (.inl rfl) rfl) ?_)
      simp only [Act.put, List.setIfInBounds_toArray, List.set_cons_zero, List.set_cons_succ]
      refine wl_step (st_val rfl (v_lss (n := 32) rfl rfl rfl) ?_)
      simp only [Act.put, List.setIfInBounds_toArray, List.set_cons_zero, List.set_cons_succ]
      repeat ((fail_if_success (with_reducible show wpList _ _ _ (List.cons _ _) _ _)); (fail_if_success (with_reducible show Code.wp _ (Code.region _ _ true) _ _ _)); go_step)
      refine wp_region_B (n := 17) 16 (by kernel_rfl) rfl hE0 ?_
      intro w1 hb1 hE1
      clear hE0
      refine wpB_take (i := 0) (by kernel_rfl) rfl (by kernel_rfl) (fun _ _ _ h => h) rfl (v_moveT (.inl rfl) rfl) ?_
      simp only [Act.put, List.setIfInBounds_toArray, List.set_cons_zero, List.set_cons_succ]
      refine wpB_take (i := 1) (by kernel_rfl) rfl (by kernel_rfl) (fun _ _ _ h => h) rfl (v_quo (n := 4) rfl rfl rfl (by omega) (w_i64 (by omega))) ?_
      simp only [Act.put, List.setIfInBounds_toArray, List.set_cons_zero, List.set_cons_succ]
      refine wpB_take (i := 2) (by kernel_rfl) rfl (by kernel_rfl) (fun _ _ _ h => h) rfl (v_moveT (.inl rfl) rfl) ?_
      simp only [Act.put, List.setIfInBounds_toArray, List.set_cons_zero, List.set_cons_succ]
      refine wpB_take (i := 3) (by kernel_rfl) rfl (by kernel_rfl) (fun _ _ _ h => h) rfl (v_quo (n := 4) rfl rfl rfl (by omega) (w_i64 (by omega))) ?_
      simp only [Act.put, List.setIfInBounds_toArray, List.set_cons_zero, List.set_cons_succ]
      refine wpB_take (i := 4) (by kernel_rfl) rfl (by kernel_rfl) (fun _ _ _ h => h) rfl (v_indexA0 rfl rfl rfl Try.underlying43 (by kernel_rfl) (by first | assumption | omega)) ?_
      simp only [Act.put, List.setIfInBounds_toArray, List.set_cons_zero, List.set_cons_succ]
      refine wpB_take (i := 5) (by kernel_rfl) rfl (by kernel_rfl) (fun _ _ _ h => h) rfl (v_cell rfl rfl Try.underlying41 rfl (Env.cellv (i := 0) hE1 rfl (ints_get? _ _ _ (by first | assumption | omega | (simp; done) | (simp; omega))))) ?_
      simp only [Act.put, List.setIfInBounds_toArray, List.set_cons_zero, List.set_cons_succ]
      rw [Hg2.out]
      refine wpB_take (i := 6) (by kernel_rfl) rfl (by kernel_rfl) (fun _ _ _ h => h) rfl (v_moveT (.inl rfl) rfl) ?_
      simp only [Act.put, List.setIfInBounds_toArray, List.set_cons_zero, List.set_cons_succ]
      refine wpB_take (i := 7) (by kernel_rfl) rfl (by kernel_rfl) (fun _ _ _ h => h) rfl (v_indexA0 rfl rfl rfl Try.underlying22 (by kernel_rfl) (by first | assumption | omega)) ?_
      simp only [Act.put, List.setIfInBounds_toArray, List.set_cons_zero, List.set_cons_succ]
      refine wpB_take (i := 8) (by kernel_rfl) rfl (by kernel_rfl) (fun _ _ _ h => h) rfl (v_cell rfl rfl Try.underlying5 rfl (Env.cellv (i := 2) hE1 rfl (ints_get? _ _ _ (by first | assumption | omega | (simp; done) | (simp; omega))))) ?_
      simp only [Act.put, List.setIfInBounds_toArray, List.set_cons_zero, List.set_cons_succ]
      rw [Hc.out]
      refine wpB_take (i := 9) (by kernel_rfl) rfl (by kernel_rfl) (fun _ _ _ h => h) rfl (v_convInt rfl rfl Try.underlying5 Try.underlying41 (by first | exact w_uns rfl (by simp only [IntKind.bits]; omega) | rfl)) ?_
      simp only [Act.put, List.setIfInBounds_toArray, List.set_cons_zero, List.set_cons_succ]
      refine wpB_take (i := 10) (by kernel_rfl) rfl (by kernel_rfl) (fun _ _ _ h => h) rfl (v_moveT (.inl rfl) rfl) ?_
      simp only [Act.put, List.setIfInBounds_toArray, List.set_cons_zero, List.set_cons_succ]
      refine wpB_take (i := 11) (by kernel_rfl) rfl (by kernel_rfl) (fun _ _ _ h => h) rfl (v_rem (n := 4) rfl rfl rfl (by omega)) ?_
      simp only [Act.put, List.setIfInBounds_toArray, List.set_cons_zero, List.set_cons_succ]
      refine wpB_take (i := 12) (by kernel_rfl) rfl (by kernel_rfl) (fun _ _ _ h => h) rfl (v_mul (m := 8) rfl rfl rfl (w_i64 (by omega))) ?_
      simp only [Act.put, List.setIfInBounds_toArray, List.set_cons_zero, List.set_cons_succ]
      refine wpB_take (i := 13) (by kernel_rfl) rfl (by kernel_rfl) (fun _ _ _ h => h) rfl (v_shl rfl rfl rfl (by simp [IntKind.bits]; omega) (w_u32 hcs)) ?_
      simp only [Act.put, List.setIfInBounds_toArray, List.set_cons_zero, List.set_cons_succ]
      refine wpB_take (i := 14) (by kernel_rfl) rfl (by kernel_rfl) (fun _ _ _ h => h) rfl (v_bor rfl rfl rfl he32 hcs (w_or rfl he32 hcs)) ?_
      simp only [Act.put, List.setIfInBounds_toArray, List.set_cons_zero, List.set_cons_succ]
      refine wpB_take (i := 15) (by kernel_rfl) rfl (by kernel_rfl) (fun _ _ _ h => h) rfl (v_indexA0 rfl rfl rfl Try.underlying43 (by kernel_rfl) (by first | assumption | omega)) ?_
      simp only [Act.put, List.setIfInBounds_toArray, List.set_cons_zero, List.set_cons_succ]
      refine wpB_step (i := 16) (by kernel_rfl) rfl (st_putN (i := 0) hE1 rfl rfl rfl rfl rfl (by kernel_rfl) (by first | assumption | omega | (simp only [List.length_set, List.length_replicate]; first | assumption | omega)) ?_)
      intro w2 hE2
      clear hE1
      simp only [List.set_cons_zero, List.set_cons_succ] at hE2
      refine ⟨fun h => absurd h (by decide), ?_⟩
      simp only [Act.put, List.setIfInBounds_toArray, List.set_cons_zero, List.set_cons_succ]
      refine wpB_done (by kernel_rfl) ?_ _
      repeat ((fail_if_success (with_reducible show wpList _ _ _ (List.cons _ _) _ _)); (fail_if_success (with_reducible show Code.wp _ (Code.region _ _ true) _ _ _)); go_step)
      refine wl_step (st_val rfl (v_moveT (.inl rfl) rfl) ?_)
      simp only [Act.put, List.setIfInBounds_toArray, List.set_cons_zero, List.set_cons_succ]
      refine wl_step (st_val rfl (v_add (n := 1) rfl rfl rfl (w_i64 (by omega))) ?_)
      simp only [Act.put, List.setIfInBounds_toArray, List.set_cons_zero, List.set_cons_succ]
      refine wl_step (st_val rfl (v_moveT (.inr rfl) rfl) ?_)
      simp only [Act.put, List.setIfInBounds_toArray, List.set_cons_zero, List.set_cons_succ]
      go_wp2
      go_roundw
      case rel => exact ⟨K + 1, by omega, rfl, by rw [← hf.out]; exact hE2⟩
      case measure => simp [intOf]; omega
    · have hK' : K = 32 := by omega
      subst hK'
      have hv := Hn.out
      rw [hlen] at hv
      rw [Nat.mod_eq_of_lt hv] at hE0
      have hl8 := nm_len (val 256 b)
      clear hv
      repeat ((fail_if_success (with_reducible show wpList _ _ _ (List.cons _ _) _ _)); (fail_if_success (with_reducible show Code.wp _ (Code.region _ _ true) _ _ _)); go_step)
      refine wl_step (st_val rfl (v_moveT (.inl rfl) rfl) ?_)
      simp only [Act.put, List.setIfInBounds_toArray, List.set_cons_zero, List.set_cons_succ]
      refine wl_step (st_val rfl (v_lss (n := 32) rfl rfl rfl) ?_)
      simp only [Act.put, List.setIfInBounds_toArray, List.set_cons_zero, List.set_cons_succ]
      repeat ((fail_if_success (with_reducible show wpList _ _ _ (List.cons _ _) _ _)); (fail_if_success (with_reducible show Code.wp _ (Code.region _ _ true) _ _ _)); go_step)
      refine wl_step (st_val rfl (v_load (i := 0) hE0 rfl rfl rfl Try.underlying43 rfl (sz_of (n := 8) (by kernel_rfl) (by first | (simp only [ints_size, digs_length, List.length_replicate, List.length_cons, List.length_nil]; done) | (simp only [ints_size, digs_length, List.length_replicate, List.length_cons, List.length_nil, List.length_set, List.length_append]; omega) | rfl))) ?_)
      simp only [Act.put, List.setIfInBounds_toArray, List.set_cons_zero, List.set_cons_succ]
      refine wl_step (st_store (i := 1) hE0 rfl rfl rfl rfl rfl (sz_of (n := 8) (by kernel_rfl) (by first | (simp only [ints_size, digs_length, List.length_replicate, List.length_cons, List.length_nil]; done) | (simp only [ints_size, digs_length, List.length_replicate, List.length_cons, List.length_nil, List.length_set, List.length_append]; omega) | rfl)) (by first | (simp only [ints_size, digs_length, List.length_replicate, List.length_cons, List.length_nil]; done) | (simp only [ints_size, digs_length, List.length_replicate, List.length_cons, List.length_nil, List.length_set, List.length_append]; omega) | rfl) (by first | exact ints_one _ _ | decide | simp [*]) ?_)
      intro w1 hE1
      clear hE0
      simp only [List.set_cons_zero, List.set_cons_succ] at hE1
      simp only [Act.put, List.setIfInBounds_toArray, List.set_cons_zero, List.set_cons_succ]
      repeat ((fail_if_success (with_reducible show wpList _ _ _ (List.cons _ _) _ _)); (fail_if_success (with_reducible show Code.wp _ (Code.region _ _ true) _ _ _)); go_step)
      refine bodyPost_ret (results_cell_row rfl _ _ _ _ _ (0, 0) _ rfl (hE1.get (i := 1) rfl) Try.underlying43 rfl (sz_of (n := 8) (by kernel_rfl) (by first | (simp only [ints_size, digs_length, List.length_replicate, List.length_cons, List.length_nil]; done) | (simp only [ints_size, digs_length, List.length_replicate, List.length_cons, List.length_nil, List.length_set, List.length_append]; omega) | rfl))) rfl ⟨rfl, hE1.below⟩

theorem top_bit {b : List Nat} (hB : Digs 256 b) (hlen : b.length = 32) : val 256 (b.set 31 (b.getD 31 0 % 128)) = val 256 b % 57896044618658097711785492504343953926634992332820282019728792003956564819968 := by
  have h31 : 31 < b.length := by omega
  have hs := val_set (B := 256) b 31 (b.getD 31 0 % 128) h31
  have ht := val_take_succ 256 b 31 h31
  rw [List.take_of_length_le (by omega)] at ht
  have hL := val_lt (hB.take 31)
  rw [List.length_take, Nat.min_eq_left (by omega)] at hL
  have hg : b.getD 31 0 = b[31] := by simp [List.getD, h31]
  have h8 := hB.getElem h31
  rw [hg] at hs ⊢
  generalize b[31] = t at *
  generalize val 256 (b.take 31) = L at *
  generalize val 256 b = V at *
  generalize val 256 (b.set 31 (t % 128)) = U at *
  subst ht
  have e : (57896044618658097711785492504343953926634992332820282019728792003956564819968 : Nat) = 256 ^ 31 * 128 := by decide
  rw [e, Nat.mod_mul, Nat.add_mul_mod_self_left, Nat.mod_eq_of_lt hL, Nat.add_mul_div_left _ _ (Nat.pow_pos (by decide)), Nat.div_eq_of_lt hL, Nat.zero_add]
  omega

set_option maxHeartbeats 2000000 in
theorem rOf_any {b : List Nat} (hB : Digs 256 b) (hlen : b.length = 32) (w : World) : Gives 52 #[.agg (ints .u8 b)] w (nm (val 256 b % 57896044618658097711785492504343953926634992332820282019728792003956564819968 % pN)) := by
  have hr := Raw_any (hB.set 31 (show b.getD 31 0 % 128 < 256 by omega)) (by rw [List.length_set]; exact hlen)
  rw [top_bit hB hlen] at hr
  have HR := Lib.hid hr
  have h255 : val 256 b % 57896044618658097711785492504343953926634992332820282019728792003956564819968 < big8 := Nat.lt_trans (Nat.mod_lt _ (by decide)) (by decide)
  have HD := Lib.hid (fun w => down_any h255 w)
  have hb8 : b.getD 31 0 < 256 := hB.getD (by decide) 31
  have hls : (b.set 31 (b.getD 31 0 % 128)).length = 32 := by rw [List.length_set]; exact hlen
  have hl8 := nm_len (val 256 b % 57896044618658097711785492504343953926634992332820282019728792003956564819968)
  have hl9 := nm_len (val 256 b % 57896044618658097711785492504343953926634992332820282019728792003956564819968 % pN)
  clear hr h255 hB
  have hE0 := Env.nil w
  go_enter Try.func52, Try.ntmps52
  repeat ((fail_if_success (with_reducible show wpList _ _ _ (List.cons _ _) _ _)); (fail_if_success (with_reducible show Code.wp _ (Code.region _ _ true) _ _ _)); go_step)
  refine wl_step (st_boxA hE0 rfl rfl rfl ?_)
  intro g0 w1 hb1 hE1
  clear hE0
  simp only [Act.put, List.setIfInBounds_toArray, List.set_cons_zero, List.set_cons_succ]
  refine wl_step (st_alloc (zs := ints .u32 (List.replicate 8 0)) hE1 rfl rfl (fun w => by kernel_rfl) ?_)
  intro g1 w2 hb2 hE2
  clear hE1
  simp only [Act.put, List.setIfInBounds_toArray, List.set_cons_zero, List.set_cons_succ]
  repeat ((fail_if_success (with_reducible show wpList _ _ _ (List.cons _ _) _ _)); (fail_if_success (with_reducible show Code.wp _ (Code.region _ _ true) _ _ _)); go_step)
  refine wl_step (st_val rfl (v_indexA0 (j := 31) rfl rfl rfl Try.underlying22 (by kernel_rfl) (by first | assumption | omega)) ?_)
  simp only [Act.put, List.setIfInBounds_toArray, List.set_cons_zero, List.set_cons_succ]
  refine wl_step (st_val rfl (v_cell rfl rfl Try.underlying5 rfl (Env.cellv (i := 1) hE2 rfl (ints_get? _ _ _ (by first | assumption | omega | (simp; done) | (simp; omega))))) ?_)
  simp only [Act.put, List.setIfInBounds_toArray, List.set_cons_zero, List.set_cons_succ]
  refine wl_step (st_val rfl (v_rem (n := 128) rfl rfl rfl (by omega)) ?_)
  simp only [Act.put, List.setIfInBounds_toArray, List.set_cons_zero, List.set_cons_succ]
  refine wl_step (st_val rfl (v_indexA0 (j := 31) rfl rfl rfl Try.underlying22 (by kernel_rfl) (by first | assumption | omega)) ?_)
  simp only [Act.put, List.setIfInBounds_toArray, List.set_cons_zero, List.set_cons_succ]
  refine wl_step (st_putN (i := 1) hE2 rfl rfl rfl rfl rfl (by kernel_rfl) (by first | assumption | omega | (simp only [List.length_set, List.length_replicate]; first | assumption | omega)) ?_)
  intro w3 hE3
  clear hE2
  simp only [List.set_cons_zero, List.set_cons_succ] at hE3
  simp only [Act.put, List.setIfInBounds_toArray, List.set_cons_zero, List.set_cons_succ]
  repeat ((fail_if_success (with_reducible show wpList _ _ _ (List.cons _ _) _ _)); (fail_if_success (with_reducible show Code.wp _ (Code.region _ _ true) _ _ _)); go_step)
  refine wl_step (st_val rfl (v_load (i := 1) hE3 rfl rfl rfl Try.underlying22 rfl (sz_of (n := 32) (by kernel_rfl) (by first | (simp only [ints_size, digs_length, List.length_replicate, List.length_cons, List.length_nil]; done) | (simp only [ints_size, digs_length, List.length_replicate, List.length_cons, List.length_nil, List.length_set, List.length_append]; omega) | rfl))) ?_)
  simp only [Act.put, List.setIfInBounds_toArray, List.set_cons_zero, List.set_cons_succ]
  refine wl_step (st_gives hE3 rfl (run_call rfl Try.call49) (HR.out _) ?_)
  intro w4 hb4 hE4
  clear hE3
  simp only [Act.put, List.setIfInBounds_toArray, List.set_cons_zero, List.set_cons_succ]
  refine wl_step (st_gives hE4 rfl (run_call rfl Try.call71) (HD.out _) ?_)
  intro w5 hb5 hE5
  clear hE4
  simp only [Act.put, List.setIfInBounds_toArray, List.set_cons_zero, List.set_cons_succ]
  refine wl_step (st_store (i := 0) hE5 rfl rfl rfl rfl rfl (sz_of (n := 8) (by kernel_rfl) (by first | (simp only [ints_size, digs_length, List.length_replicate, List.length_cons, List.length_nil]; done) | (simp only [ints_size, digs_length, List.length_replicate, List.length_cons, List.length_nil, List.length_set, List.length_append]; omega) | rfl)) (by first | (simp only [ints_size, digs_length, List.length_replicate, List.length_cons, List.length_nil]; done) | (simp only [ints_size, digs_length, List.length_replicate, List.length_cons, List.length_nil, List.length_set, List.length_append]; omega) | rfl) (by first | exact ints_one _ _ | decide | simp [*]) ?_)
  intro w6 hE6
  clear hE5
  simp only [List.set_cons_zero, List.set_cons_succ] at hE6
  simp only [Act.put, List.setIfInBounds_toArray, List.set_cons_zero, List.set_cons_succ]
  repeat ((fail_if_success (with_reducible show wpList _ _ _ (List.cons _ _) _ _)); (fail_if_success (with_reducible show Code.wp _ (Code.region _ _ true) _ _ _)); go_step)
  refine bodyPost_ret (results_cell_row rfl _ _ _ _ _ (0, 0) _ rfl (hE6.get (i := 0) rfl) Try.underlying43 rfl (sz_of (n := 8) (by kernel_rfl) (by first | (simp only [ints_size, digs_length, List.length_replicate, List.length_cons, List.length_nil]; done) | (simp only [ints_size, digs_length, List.length_replicate, List.length_cons, List.length_nil, List.length_set, List.length_append]; omega) | rfl))) rfl ⟨rfl, hE6.below⟩
end Go.Proofs.Ytmebjoehmheknaa
