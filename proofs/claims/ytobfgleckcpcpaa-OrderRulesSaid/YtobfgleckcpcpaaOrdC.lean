/-
  Layer 5: bytes into words, and the rest of words divided by the order.
-/
import Derived.Test.YtobfgleckcpcpaaOrdB
namespace Go.Proofs.Ytobfgleckcpcpaa
open Go.RowKit
set_option linter.unusedVariables false
set_option linter.unusedSimpArgs false

theorem or_word {x c s : Nat} (hx : x < 2 ^ s) (hxw : x < 18446744073709551616) (hc : c * 2 ^ s < 18446744073709551616) : bits .or .u64 (x : Int) (IntKind.u64.wrap ((c : Int) * 2 ^ s)) = ((x + c * 2 ^ s : Nat) : Int) := by
  have e : IntKind.u64.wrap ((c : Int) * 2 ^ s) = ((c * 2 ^ s : Nat) : Int) := by
    rw [IntKind.wrap_u64]
    have : ((c : Int) * 2 ^ s) = ((c * 2 ^ s : Nat) : Int) := by simp
    rw [this]
    omega
  rw [e, u64_or_nat _ _ hxw hc, Nat.or_comm, nat_join s _ _ (by simp) hx]
  congr 1
  omega

theorem load_step {V c i n : Nat} (hV : V < 256 ^ i) (hc : c < 256) (hi : i < 8 * n) :
    bits .or .u64 ((V : Int) / 18446744073709551616 ^ (i / 8) % 18446744073709551616) (IntKind.u64.wrap (IntKind.u64.wrap (c : Int) * 2 ^ (8 * (i % 8)))) = ((V / 18446744073709551616 ^ (i / 8) % 18446744073709551616 + c * 2 ^ (8 * (i % 8)) : Nat) : Int) := by
  obtain ⟨-, h1, h2⟩ := word_of_byte hV hc hi
  have e : IntKind.u64.wrap (c : Int) = (c : Int) := by rw [IntKind.wrap_u64]; omega
  have e2 : ((V : Int) / 18446744073709551616 ^ (i / 8) % 18446744073709551616) = ((V / 18446744073709551616 ^ (i / 8) % 18446744073709551616 : Nat) : Int) := by simp
  rw [e, e2]
  exact or_word h1 (Nat.mod_lt _ (by decide)) h2

set_option maxHeartbeats 2000000 in
theorem load4_any (g : Nat) (l : List Nat) (T : TypeId) (hl : l.length = 8 * 4) (dl : Digs 256 l) (w : World) (hg : w.heap[g]? = some (.cells (ints .u8 l) T (0, 0))) :
    Calls Try.prog 27 #[.slice (some ⟨g, 0, none⟩) (8 * 4) (8 * 4)] w fun e w' => ∃ g', e = .returned (.slice (some ⟨g', 0, none⟩) 4 4) ∧ Below w.heap.size w w' ∧ w.heap.size ≤ g' ∧ w'.heap[g']? = some (.cells (ints .u64 (digs 18446744073709551616 4 (val 256 l))) 34 (0, 0)) := by
  have hlt : g < w.heap.size := (Array.getElem?_eq_some_iff.1 hg).1
  have hE0 := Env.nil w
  have Hl := Lib.hid hl
  clear hl
  have Hg := Lib.hid hg
  clear hg
  go_enter Try.func27, Try.ntmps27
  repeat ((fail_if_success (with_reducible show wpList _ _ _ (List.cons _ _) _ _)); (fail_if_success (with_reducible show Code.wp _ (Code.region _ _ true) _ _ _)); go_step)
  apply wl_val rfl
  · go_simp
    with_reducible rfl
  simp only [Act.put, List.setIfInBounds_toArray, List.set_cons_zero, List.set_cons_succ]
  repeat ((fail_if_success (with_reducible show wpList _ _ _ (List.cons _ _) _ _)); (fail_if_success (with_reducible show Code.wp _ (Code.region _ _ true) _ _ _)); go_step)
  iterate 3
    apply wl_val rfl
    · go_simp
      try go_bits
      with_reducible rfl
    simp only [Act.put, List.setIfInBounds_toArray, List.set_cons_zero, List.set_cons_succ]
  refine wl_make (k := .u64) (b := 8) hE0 rfl rfl rfl rfl Try.underlying41 (by kernel_rfl) (by decide) (by decide) ?_
  intro g' w1 hE1
  clear hE0
  simp only [Act.put, List.setIfInBounds_toArray, List.set_cons_zero, List.set_cons_succ]
  go_wp2
  go_loopw [4, 5, 12] (fun _ _ i wr => ∃ k : Nat, k ≤ l.length ∧ i = .int .i64 k ∧ Env w [⟨g', 34, ints .u64 (digs 18446744073709551616 (l.length / 8) (val 256 (l.take k)))⟩] wr) (fun _ _ i _ => l.length - (intOf i).toNat)
  case atStart => exact ⟨0, Nat.zero_le _, rfl, by rw [Hl.out]; simpa [val, digs] using hE1⟩
  case round =>
    obtain ⟨k, hk, rfl, hE⟩ := hrel
    have hlen := Hl.out
    by_cases hlt' : k < l.length
    · have hgr : wr.heap[g]? = some (.cells (ints .u8 l) T (0, 0)) := (hE.below.block g hlt).trans Hg.out
      have ca := cell_of_row wr g k _ _ _ hgr
      rw [ints_get? _ _ _ hlt'] at ca
      have c0 := hE.cell (i := 0) rfl (k / 8)
      rw [ints_get? _ _ _ (by rw [digs_length]; omega), digs_getD _ _ _ _ (by omega)] at c0
      have f0 := hE.frozen (i := 0) rfl (k / 8)
      clear hgr
      have hx : IntKind.i64.wrap ((k : Int) / 8) = (k : Int) / 8 := by rw [IntKind.wrap_i64]; omega
      have hx' : (k : Int) / 8 < 4 := by omega
      have hx0 : (0 : Int) ≤ (k : Int) / 8 := by omega
      have hxt : ((k : Int) / 8).toNat = k / 8 := by omega
      have htm : (k : Int).tmod 8 = (k : Int) % 8 := Int.tmod_eq_emod_of_nonneg (by omega)
      have hm8 : IntKind.i64.wrap (8 * (k : Int).tmod 8) = 8 * ((k : Int) % 8) := by rw [htm, IntKind.wrap_i64]; omega
      have hmt : (8 * ((k : Int) % 8)).toNat = 8 * (k % 8) := by omega
      clear htm
      clear hlen
      go_wp2
      go_region
      go_wp2
      go_roundw
      case rel =>
        refine ⟨k + 1, by omega, by go_num, ?_⟩
        have hc : l[k] < 256 := dl.getElem hlt'
        have hV : val 256 (l.take k) < 256 ^ k := by
          have := val_lt (dl.take k)
          rwa [List.length_take, Nat.min_eq_left (by omega)] at this
        have hkn : k < 8 * (l.length / 8) := by have := Hl.out; omega
        have hE' := (hE.setCell (i := 0) rfl (k / 8) (.int .u64 ((val 256 (l.take k) / 18446744073709551616 ^ (k / 8) % 18446744073709551616 + l[k] * 2 ^ (8 * (k % 8)) : Nat) : Int))).drew
        rw [ints_set, ← (word_of_byte hV hc hkn).1, ← val_take_succ _ _ _ hlt'] at hE'
        rw [load_step hV hc hkn]
        exact hE'
      case measure => simp [intOf]; omega
    · have hke : k = l.length := by omega
      subst hke
      have hfin := Hl.out
      go_wp2
      rw [List.take_of_length_le (Nat.le_refl _), hfin] at hE
      go_returns
      exact ⟨g', rfl, hE.below, hE.new _ (List.mem_cons_self ..), hE.get (i := 0) rfl⟩
set_option maxHeartbeats 2000000 in
theorem load8_any (g : Nat) (l : List Nat) (T : TypeId) (hl : l.length = 8 * 8) (dl : Digs 256 l) (w : World) (hg : w.heap[g]? = some (.cells (ints .u8 l) T (0, 0))) :
    Calls Try.prog 27 #[.slice (some ⟨g, 0, none⟩) (8 * 8) (8 * 8)] w fun e w' => ∃ g', e = .returned (.slice (some ⟨g', 0, none⟩) 8 8) ∧ Below w.heap.size w w' ∧ w.heap.size ≤ g' ∧ w'.heap[g']? = some (.cells (ints .u64 (digs 18446744073709551616 8 (val 256 l))) 34 (0, 0)) := by
  have hlt : g < w.heap.size := (Array.getElem?_eq_some_iff.1 hg).1
  have hE0 := Env.nil w
  have Hl := Lib.hid hl
  clear hl
  have Hg := Lib.hid hg
  clear hg
  go_enter Try.func27, Try.ntmps27
  repeat ((fail_if_success (with_reducible show wpList _ _ _ (List.cons _ _) _ _)); (fail_if_success (with_reducible show Code.wp _ (Code.region _ _ true) _ _ _)); go_step)
  apply wl_val rfl
  · go_simp
    with_reducible rfl
  simp only [Act.put, List.setIfInBounds_toArray, List.set_cons_zero, List.set_cons_succ]
  repeat ((fail_if_success (with_reducible show wpList _ _ _ (List.cons _ _) _ _)); (fail_if_success (with_reducible show Code.wp _ (Code.region _ _ true) _ _ _)); go_step)
  iterate 3
    apply wl_val rfl
    · go_simp
      try go_bits
      with_reducible rfl
    simp only [Act.put, List.setIfInBounds_toArray, List.set_cons_zero, List.set_cons_succ]
  refine wl_make (k := .u64) (b := 8) hE0 rfl rfl rfl rfl Try.underlying41 (by kernel_rfl) (by decide) (by decide) ?_
  intro g' w1 hE1
  clear hE0
  simp only [Act.put, List.setIfInBounds_toArray, List.set_cons_zero, List.set_cons_succ]
  go_wp2
  go_loopw [4, 5, 12] (fun _ _ i wr => ∃ k : Nat, k ≤ l.length ∧ i = .int .i64 k ∧ Env w [⟨g', 34, ints .u64 (digs 18446744073709551616 (l.length / 8) (val 256 (l.take k)))⟩] wr) (fun _ _ i _ => l.length - (intOf i).toNat)
  case atStart => exact ⟨0, Nat.zero_le _, rfl, by rw [Hl.out]; simpa [val, digs] using hE1⟩
  case round =>
    obtain ⟨k, hk, rfl, hE⟩ := hrel
    have hlen := Hl.out
    by_cases hlt' : k < l.length
    · have hgr : wr.heap[g]? = some (.cells (ints .u8 l) T (0, 0)) := (hE.below.block g hlt).trans Hg.out
      have ca := cell_of_row wr g k _ _ _ hgr
      rw [ints_get? _ _ _ hlt'] at ca
      have c0 := hE.cell (i := 0) rfl (k / 8)
      rw [ints_get? _ _ _ (by rw [digs_length]; omega), digs_getD _ _ _ _ (by omega)] at c0
      have f0 := hE.frozen (i := 0) rfl (k / 8)
      clear hgr
      have hx : IntKind.i64.wrap ((k : Int) / 8) = (k : Int) / 8 := by rw [IntKind.wrap_i64]; omega
      have hx' : (k : Int) / 8 < 8 := by omega
      have hx0 : (0 : Int) ≤ (k : Int) / 8 := by omega
      have hxt : ((k : Int) / 8).toNat = k / 8 := by omega
      have htm : (k : Int).tmod 8 = (k : Int) % 8 := Int.tmod_eq_emod_of_nonneg (by omega)
      have hm8 : IntKind.i64.wrap (8 * (k : Int).tmod 8) = 8 * ((k : Int) % 8) := by rw [htm, IntKind.wrap_i64]; omega
      have hmt : (8 * ((k : Int) % 8)).toNat = 8 * (k % 8) := by omega
      clear htm
      clear hlen
      go_wp2
      go_region
      go_wp2
      go_roundw
      case rel =>
        refine ⟨k + 1, by omega, by go_num, ?_⟩
        have hc : l[k] < 256 := dl.getElem hlt'
        have hV : val 256 (l.take k) < 256 ^ k := by
          have := val_lt (dl.take k)
          rwa [List.length_take, Nat.min_eq_left (by omega)] at this
        have hkn : k < 8 * (l.length / 8) := by have := Hl.out; omega
        have hE' := (hE.setCell (i := 0) rfl (k / 8) (.int .u64 ((val 256 (l.take k) / 18446744073709551616 ^ (k / 8) % 18446744073709551616 + l[k] * 2 ^ (8 * (k % 8)) : Nat) : Int))).drew
        rw [ints_set, ← (word_of_byte hV hc hkn).1, ← val_take_succ _ _ _ hlt'] at hE'
        rw [load_step hV hc hkn]
        exact hE'
      case measure => simp [intOf]; omega
    · have hke : k = l.length := by omega
      subst hke
      have hfin := Hl.out
      go_wp2
      rw [List.take_of_length_le (Nat.le_refl _), hfin] at hE
      go_returns
      exact ⟨g', rfl, hE.below, hE.new _ (List.mem_cons_self ..), hE.get (i := 0) rfl⟩
end Go.Proofs.Ytobfgleckcpcpaa
