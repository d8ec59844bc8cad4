/-
  Layer 3: the number of bytes, and a number laid as bytes.
-/
import Derived.Test.YtndnmghlgcamfaaDoorDigM
import Derived.Test.YtndnmghlgcamfaaDoorWord
import Derived.Test.YtndnmghlgcamfaaDoorBit
import Derived.Test.YtndnmghlgcamfaaDoorRow
namespace Go.Proofs.YtndnmghlgcamfaaDoor
open Go.RowKit
set_option maxRecDepth 100000
set_option linter.unusedVariables false
set_option linter.unusedSimpArgs false

theorem beN_snoc (l : List Nat) (c : Nat) : beN (l ++ [c]) = beN l * 256 + c := by
  unfold beN
  rw [List.reverse_append, List.reverse_cons, List.reverse_nil, List.nil_append, List.singleton_append, val_cons]
  omega
theorem Digs.rev {B : Nat} {l : List Nat} (h : Digs B l) : Digs B l.reverse := fun x hx => h x (List.mem_reverse.1 hx)
theorem beN_lt {l : List Nat} (h : Digs 256 l) : beN l < 256 ^ l.length := by
  have := val_lt h.rev
  rwa [List.length_reverse] at this
theorem beN_take {l : List Nat} {k : Nat} (h : k < l.length) : beN (l.take (k + 1)) = beN (l.take k) * 256 + l.getD k 0 := by
  rw [List.take_succ_eq_append_getElem h, beN_snoc, List.getD_eq_getElem?_getD, List.getElem?_eq_getElem h]
  rfl
theorem or_byte {a c : Nat} (hc : c < 256) : a * 256 ||| c = a * 256 + c := by
  have := Nat.two_pow_add_eq_or_of_lt (i := 8) (b := c) hc a
  rw [show (2 : Nat) ^ 8 = 256 from rfl, Nat.mul_comm] at this
  exact this.symm

set_option maxHeartbeats 2000000 in
theorem number_any {l : List Nat} {v : Value} {w : World} (h : RdRow l v w) (dl : Digs 256 l) (hl : l.length ≤ 8) : Gives 28 #[v] w (.int .u64 (beN l : Nat)) := by
  obtain ⟨p, c, rfl⟩ := h.len
  have hat : ∀ j, j < l.length → ∃ b off, p = some ⟨b, off, none⟩ ∧ ∀ w1, Below w.heap.size w w1 → w1.cell? ⟨b, off + j, none⟩ = some (.int .u8 (l.getD j 0 : Nat)) := fun j hj => h.at hj
  have Hat := Lib.hid hat
  have Hd := Lib.hid (fun j => dl.getD (by decide) j)
  have hbt : ∀ k, beN (l.take k) < 256 ^ k := fun k => by
    have h1 := beN_lt (dl.take k)
    exact Nat.lt_of_lt_of_le h1 (Nat.pow_le_pow_right (by decide) (List.length_take_le _ _))
  have Hbt := Lib.hid hbt
  have Hs := Lib.hid (fun k (hk : k < l.length) => beN_take hk)
  obtain ⟨n, hn⟩ : ∃ n, l.length = n := ⟨_, rfl⟩
  have hfin : beN (l.take n) = beN l := by rw [List.take_of_length_le (by omega)]
  have Hf := Lib.hid hfin
  rw [hn] at Hat hl Hs ⊢
  have hb0 : beN (l.take 0) = 0 := rfl
  have Hb0 := Lib.hid hb0
  obtain ⟨A, hA⟩ : ∃ A : Nat → Nat, (fun k => beN (l.take k)) = A := ⟨_, rfl⟩
  have hA' : ∀ k, beN (l.take k) = A k := fun k => congrFun hA k
  simp only [hA'] at Hbt Hs Hf Hb0
  clear hat hbt hfin h dl hn hb0 hA hA'
  rw [← Hf.out]
  have hE0 := Env.nil w
  go_enter Tryd.func28, Tryd.ntmps28
  repeat ((fail_if_success (with_reducible show wpList _ _ _ (List.cons _ _) _ _)); (fail_if_success (with_reducible show Code.wp _ (Code.region _ _ true) _ _ _)); go_step)
  refine wl_step (st_val rfl (v_moveC (.inr rfl)) ?_)
  simp only [Act.put, List.setIfInBounds_toArray, List.set_cons_zero, List.set_cons_succ]
  repeat ((fail_if_success (with_reducible show wpList _ _ _ (List.cons _ _) _ _)); (fail_if_success (with_reducible show Code.wp _ (Code.region _ _ true) _ _ _)); go_step)
  refine wl_step (st_val rfl (v_moveC (.inr rfl)) ?_)
  simp only [Act.put, List.setIfInBounds_toArray, List.set_cons_zero, List.set_cons_succ]
  repeat ((fail_if_success (with_reducible show wpList _ _ _ (List.cons _ _) _ _)); (fail_if_success (with_reducible show Code.wp _ (Code.region _ _ true) _ _ _)); go_step)
  refine wl_step (st_val rfl (v_moveT (.inl rfl) rfl) ?_)
  simp only [Act.put, List.setIfInBounds_toArray, List.set_cons_zero, List.set_cons_succ]
  refine wl_step (st_val rfl (v_len rfl rfl Tryd.underlying22 (by omega)) ?_)
  simp only [Act.put, List.setIfInBounds_toArray, List.set_cons_zero, List.set_cons_succ]
  refine wl_step (st_val rfl (v_moveC (.inl rfl)) ?_)
  simp only [Act.put, List.setIfInBounds_toArray, List.set_cons_zero, List.set_cons_succ]
  go_wp2
  go_loopw [3, 8] (fun s i wr => ∃ k : Nat, k ≤ n ∧ i = .int .i64 k ∧ s = .int .u64 (A k : Nat) ∧ Env w [] wr) (fun _ i _ => n - (intOf i).toNat)
  case atStart => exact ⟨0, Nat.zero_le _, rfl, by rw [Hb0.out]; rfl, hE0⟩
  case round =>
    clear hE0
    obtain ⟨k, hk, rfl, rfl, hE0⟩ := hrel
    by_cases hkn : k < n
    · obtain ⟨b, off, rfl, hc⟩ := Hat.out k hkn
      have hcl := Hd.out k
      have hst := Hs.out k hkn
      have hbk := Hbt.out k
      have hb7 : A k < 72057594037927936 := Nat.lt_of_lt_of_le hbk (by
        have : 256 ^ k ≤ 256 ^ 7 := Nat.pow_le_pow_right (by decide) (by omega)
        exact this)
      obtain ⟨x, hx⟩ : ∃ x, l.getD k 0 = x := ⟨_, rfl⟩
      rw [hx] at hc hcl hst
      obtain ⟨y, hy⟩ : ∃ y, A k = y := ⟨_, rfl⟩
      rw [hy] at hst hb7 ⊢
      have hor : y * 256 ||| x = A (k + 1) := by rw [or_byte hcl, hst]
      have hm1 : y * 256 < 2 ^ IntKind.u64.bits := by show _ < 18446744073709551616; omega
      have hm2 : x < 2 ^ IntKind.u64.bits := by show _ < 18446744073709551616; omega
      have Hc := Lib.hid hc
      have Hor := Lib.hid hor
      clear hc hst hor hbk hx hy
      repeat ((fail_if_success (with_reducible show wpList _ _ _ (List.cons _ _) _ _)); (fail_if_success (with_reducible show Code.wp _ (Code.region _ _ true) _ _ _)); go_step)
      refine wl_step (st_val rfl (v_lss rfl rfl rfl) ?_)
      simp only [Act.put, List.setIfInBounds_toArray, List.set_cons_zero, List.set_cons_succ]
      repeat ((fail_if_success (with_reducible show wpList _ _ _ (List.cons _ _) _ _)); (fail_if_success (with_reducible show Code.wp _ (Code.region _ _ true) _ _ _)); go_step)
      refine wl_step (st_val rfl (v_indexS rfl rfl rfl Tryd.underlying22 (by kernel_rfl) hkn) ?_)
      simp only [Act.put, List.setIfInBounds_toArray, List.set_cons_zero, List.set_cons_succ]
      refine wl_step (st_val rfl (v_cell rfl rfl Tryd.underlying5 rfl (fun w1 hb => Hc.out w1 (hE0.below.trans (hb.mono hE0.below.size)))) ?_)
      simp only [Act.put, List.setIfInBounds_toArray, List.set_cons_zero, List.set_cons_succ]
      refine wl_step (st_val rfl (v_moveT (.inr rfl) rfl) ?_)
      simp only [Act.put, List.setIfInBounds_toArray, List.set_cons_zero, List.set_cons_succ]
      repeat ((fail_if_success (with_reducible show wpList _ _ _ (List.cons _ _) _ _)); (fail_if_success (with_reducible show Code.wp _ (Code.region _ _ true) _ _ _)); go_step)
      refine wl_step (st_val rfl (v_moveT (.inl rfl) rfl) ?_)
      simp only [Act.put, List.setIfInBounds_toArray, List.set_cons_zero, List.set_cons_succ]
      refine wl_step (st_val rfl (v_shlC (s := 8) (d := 256) rfl rfl rfl (by decide) (by decide) (by first | exact w_u64 (by omega) | exact w_u64m _)) ?_)
      simp only [Act.put, List.setIfInBounds_toArray, List.set_cons_zero, List.set_cons_succ]
      refine wl_step (st_val rfl (v_moveT (.inl rfl) rfl) ?_)
      simp only [Act.put, List.setIfInBounds_toArray, List.set_cons_zero, List.set_cons_succ]
      refine wl_step (st_val rfl (v_convInt rfl rfl Tryd.underlying5 Tryd.underlying67 (by first | exact w_u64 (by omega) | exact w_u64m _)) ?_)
      simp only [Act.put, List.setIfInBounds_toArray, List.set_cons_zero, List.set_cons_succ]
      refine wl_step (st_val rfl (v_bor rfl rfl rfl hm1 hm2 (w_or rfl hm1 hm2)) ?_)
      simp only [Act.put, List.setIfInBounds_toArray, List.set_cons_zero, List.set_cons_succ]
      rw [Hor.out]
      refine wl_step (st_val rfl (v_moveT (.inr rfl) rfl) ?_)
      simp only [Act.put, List.setIfInBounds_toArray, List.set_cons_zero, List.set_cons_succ]
      repeat ((fail_if_success (with_reducible show wpList _ _ _ (List.cons _ _) _ _)); (fail_if_success (with_reducible show Code.wp _ (Code.region _ _ true) _ _ _)); go_step)
      refine wl_step (st_val rfl (v_add (n := 1) rfl rfl rfl (w_i64 (by omega))) ?_)
      simp only [Act.put, List.setIfInBounds_toArray, List.set_cons_zero, List.set_cons_succ]
      refine wl_step (st_val rfl (v_moveT (.inl rfl) rfl) ?_)
      simp only [Act.put, List.setIfInBounds_toArray, List.set_cons_zero, List.set_cons_succ]
      go_wp2
      go_roundw
      case rel => exact ⟨k + 1, by omega, rfl, rfl, hE0⟩
      case measure => simp [intOf]; omega
    · have hke : k = n := by omega
      subst hke
      repeat ((fail_if_success (with_reducible show wpList _ _ _ (List.cons _ _) _ _)); (fail_if_success (with_reducible show Code.wp _ (Code.region _ _ true) _ _ _)); go_step)
      refine wl_step (st_val rfl (v_lss rfl rfl rfl) ?_)
      simp only [Act.put, List.setIfInBounds_toArray, List.set_cons_zero, List.set_cons_succ]
      repeat ((fail_if_success (with_reducible show wpList _ _ _ (List.cons _ _) _ _)); (fail_if_success (with_reducible show Code.wp _ (Code.region _ _ true) _ _ _)); go_step)
      refine wl_step (st_val rfl (v_moveT (.inl rfl) rfl) ?_)
      simp only [Act.put, List.setIfInBounds_toArray, List.set_cons_zero, List.set_cons_succ]
      refine wl_step (st_val rfl (v_moveT (.inr rfl) rfl) ?_)
      simp only [Act.put, List.setIfInBounds_toArray, List.set_cons_zero, List.set_cons_succ]
      repeat ((fail_if_success (with_reducible show wpList _ _ _ (List.cons _ _) _ _)); (fail_if_success (with_reducible show Code.wp _ (Code.region _ _ true) _ _ _)); go_step)
      go_returns
      exact ⟨rfl, hE0.below⟩

/-- A number's bytes, the highest one first. -/
def beD (n x : Nat) : List Nat := (digs 256 n x).reverse
theorem beD_len (n x : Nat) : (beD n x).length = n := by
  unfold beD
  rw [List.length_reverse, digs_length]
theorem beD_Digs (n x : Nat) : Digs 256 (beD n x) := (digs_Digs (by decide) _ _).rev
theorem beD_get {n x j : Nat} (hj : j < n) : (beD n x)[j]'(by rw [beD_len]; exact hj) = x / 256 ^ (n - 1 - j) % 256 := by
  unfold beD
  rw [List.getElem_reverse]
  have h := digs_getD 256 n x (n - 1 - j) (by omega)
  rw [List.getD_eq_getElem?_getD, List.getElem?_eq_getElem (by rw [digs_length]; omega)] at h
  simp only [digs_length, Option.getD_some] at h ⊢
  exact h
/-- A row into which the bytes from the K-th one on are laid. -/
def putAt (X : List Nat) (off n x K : Nat) : List Nat := X.take (off + K) ++ (beD n x).drop K ++ X.drop (off + n)
theorem putAt_start {X : List Nat} {off n : Nat} (x : Nat) (h : off + n ≤ X.length) : putAt X off n x n = X := by
  unfold putAt
  rw [List.drop_of_length_le (by rw [beD_len]; exact Nat.le_refl _), List.append_nil, List.take_append_drop]
theorem putAt_len {X : List Nat} {off n K : Nat} (x : Nat) (h : off + n ≤ X.length) (hK : K ≤ n) : (putAt X off n x K).length = X.length := by
  unfold putAt
  rw [List.length_append, List.length_append, List.length_take, List.length_drop, List.length_drop, beD_len]
  omega
theorem putAt_step {X : List Nat} {off n j x : Nat} (h : off + n ≤ X.length) (hj : j < n) : (putAt X off n x (j + 1)).set (off + j) (x / 256 ^ (n - 1 - j) % 256) = putAt X off n x j := by
  unfold putAt
  have h1 : (X.take (off + j)).length = off + j := by rw [List.length_take]; omega
  rw [show off + (j + 1) = off + j + 1 by omega, List.take_succ_eq_append_getElem (by omega), List.drop_eq_getElem_cons (i := j) (by rw [beD_len]; exact hj), beD_get hj]
  rw [List.append_assoc, List.append_assoc, List.set_append_right _ _ (by omega), h1, Nat.sub_self]
  simp

set_option maxHeartbeats 4000000 in
theorem put_any {w0 w : World} {l : List Blk} {i g off n c x : Nat} {T : TypeId} {X : List Nat} (hE : Env w0 l w) (hi : l[i]? = some ⟨g, T, ints .u8 X⟩) (hX : off + n ≤ X.length) (hn : n < 4611686018427387904) (hx : x < 18446744073709551616) :
    Calls Tryd.prog 24 #[.slice (some ⟨g, off, none⟩) n c, .int .u64 (x : Int)] w fun e w' => e = .returned (.tuple #[]) ∧ Env w0 (l.set i ⟨g, T, ints .u8 (putAt X off n x 0)⟩) w' := by
  have hil : i < l.length := (List.getElem?_eq_some_iff.1 hi).1
  have h0 : Env w0 (l.set i ⟨g, T, ints .u8 (putAt X off n x n)⟩) w := by
    rw [putAt_start x hX]
    obtain ⟨h1, h2⟩ := List.getElem?_eq_some_iff.1 hi
    rw [← h2, List.set_getElem_self]
    exact hE
  have Hset := Lib.hid (fun j (hj : j < n) => putAt_step (x := x) hX hj)
  have Hlen := Lib.hid (fun K (hK : K ≤ n) => putAt_len x hX hK)
  have hwn : IntKind.i64.wrap ((n : Int) - ((1 : Nat) : Int)) = (n : Int) - 1 := by rw [IntKind.wrap_i64]; omega
  have Hwn := Lib.hid hwn
  have Hx0 : Hid (x = x / 256 ^ (n - n)) := Lib.hid (by rw [Nat.sub_self, Nat.pow_zero, Nat.div_one])
  have Hxl : Hid (∀ k, x / 256 ^ k < 18446744073709551616) := Lib.hid (fun k => Nat.lt_of_le_of_lt (Nat.div_le_self _ _) hx)
  clear hE hi hwn hx
  have hE0 := h0
  clear h0
  go_enter Tryd.func24, Tryd.ntmps24
  repeat ((fail_if_success (with_reducible show wpList _ _ _ (List.cons _ _) _ _)); (fail_if_success (with_reducible show Code.wp _ (Code.region _ _ true) _ _ _)); go_step)
  refine wl_step (st_val rfl (v_moveT (.inl rfl) rfl) ?_)
  simp only [Act.put, List.setIfInBounds_toArray, List.set_cons_zero, List.set_cons_succ]
  refine wl_step (st_val rfl (v_len rfl rfl Tryd.underlying22 (by omega)) ?_)
  simp only [Act.put, List.setIfInBounds_toArray, List.set_cons_zero, List.set_cons_succ]
  refine wl_step (st_val rfl (v_sub (m := n) (n := 1) rfl rfl rfl Hwn.out) ?_)
  simp only [Act.put, List.setIfInBounds_toArray, List.set_cons_zero, List.set_cons_succ]
  refine wl_step (st_val rfl (v_moveT (.inr rfl) rfl) ?_)
  simp only [Act.put, List.setIfInBounds_toArray, List.set_cons_zero, List.set_cons_succ]
  go_wp2
  go_loopw [1, 4] (fun s j wr => ∃ K : Nat, K ≤ n ∧ j = .int .i64 ((K : Int) - 1) ∧ s = .int .u64 (x / 256 ^ (n - K) : Nat) ∧ Env w0 (l.set i ⟨g, T, ints .u8 (putAt X off n x K)⟩) wr) (fun _ j _ => (intOf j + 1).toNat)
  case atStart => exact ⟨n, Nat.le_refl _, rfl, by rw [← Hx0.out], hE0⟩
  case round =>
    clear hE0
    obtain ⟨K, hK, rfl, rfl, hE0⟩ := hrel
    cases K with
    | zero =>
      repeat ((fail_if_success (with_reducible show wpList _ _ _ (List.cons _ _) _ _)); (fail_if_success (with_reducible show Code.wp _ (Code.region _ _ true) _ _ _)); go_step)
      refine wl_step (st_val rfl (v_moveT (.inl rfl) rfl) ?_)
      simp only [Act.put, List.setIfInBounds_toArray, List.set_cons_zero, List.set_cons_succ]
      refine wl_step (st_val rfl (v_geqI rfl rfl rfl) ?_)
      simp only [Act.put, List.setIfInBounds_toArray, List.set_cons_zero, List.set_cons_succ]
      go_wp2
      go_end0
      exact ⟨rfl, hE0⟩
    | succ j =>
      have hj : ((j + 1 : Nat) : Int) - 1 = (j : Int) := by omega
      rw [hj]
      clear hj
      have hjn : j < n := by omega
      have hset := Hset.out j hjn
      have hlen := Hlen.out (j + 1) hK
      have e1 : n - (j + 1) = n - 1 - j := by omega
      have e2 : x / 256 ^ (n - 1 - j) / 256 = x / 256 ^ (n - j) := by
        rw [Nat.div_div_eq_div_mul, ← Nat.pow_succ, show (n - 1 - j).succ = n - j by omega]
      have hyl := Hxl.out (n - 1 - j)
      rw [e1]
      obtain ⟨y, hy⟩ : ∃ y, x / 256 ^ (n - 1 - j) = y := ⟨_, rfl⟩
      rw [hy] at hset e2 hyl ⊢
      have hlt : off + j < (putAt X off n x (j + 1)).length := by rw [hlen]; omega
      have hget : (l.set i ⟨g, T, ints .u8 (putAt X off n x (j + 1))⟩)[i]? = some ⟨g, T, ints .u8 (putAt X off n x (j + 1))⟩ := List.getElem?_set_self hil
      have Hs := Lib.hid hset
      have E2 := Lib.hid e2
      have Hg := Lib.hid hget
      clear hset hlen e1 e2 hy hget
      repeat ((fail_if_success (with_reducible show wpList _ _ _ (List.cons _ _) _ _)); (fail_if_success (with_reducible show Code.wp _ (Code.region _ _ true) _ _ _)); go_step)
      refine wl_step (st_val rfl (v_moveT (.inl rfl) rfl) ?_)
      simp only [Act.put, List.setIfInBounds_toArray, List.set_cons_zero, List.set_cons_succ]
      refine wl_step (st_val rfl (v_geqI rfl rfl rfl) ?_)
      simp only [Act.put, List.setIfInBounds_toArray, List.set_cons_zero, List.set_cons_succ]
      repeat ((fail_if_success (with_reducible show wpList _ _ _ (List.cons _ _) _ _)); (fail_if_success (with_reducible show Code.wp _ (Code.region _ _ true) _ _ _)); go_step)
      refine wl_step (st_val rfl (v_moveT (.inl rfl) rfl) ?_)
      simp only [Act.put, List.setIfInBounds_toArray, List.set_cons_zero, List.set_cons_succ]
      refine wl_step (st_val rfl (v_moveT (.inl rfl) rfl) ?_)
      simp only [Act.put, List.setIfInBounds_toArray, List.set_cons_zero, List.set_cons_succ]
      refine wl_step (st_val rfl (v_moveT (.inl rfl) rfl) ?_)
      simp only [Act.put, List.setIfInBounds_toArray, List.set_cons_zero, List.set_cons_succ]
      refine wl_step (st_val rfl (v_convInt rfl rfl Tryd.underlying67 Tryd.underlying5 (w_u8m _)) ?_)
      simp only [Act.put, List.setIfInBounds_toArray, List.set_cons_zero, List.set_cons_succ]
      refine wl_step (st_val rfl (v_indexS rfl rfl rfl Tryd.underlying22 (by kernel_rfl) hjn) ?_)
      simp only [Act.put, List.setIfInBounds_toArray, List.set_cons_zero, List.set_cons_succ]
      refine wl_step (st_putN (i := i) hE0 rfl rfl rfl rfl Hg.out (by kernel_rfl) hlt ?_)
      intro w1 hE1
      clear hE0
      rw [List.set_set, Hs.out] at hE1
      simp only [Act.put, List.setIfInBounds_toArray, List.set_cons_zero, List.set_cons_succ]
      repeat ((fail_if_success (with_reducible show wpList _ _ _ (List.cons _ _) _ _)); (fail_if_success (with_reducible show Code.wp _ (Code.region _ _ true) _ _ _)); go_step)
      refine wl_step (st_val rfl (v_moveT (.inl rfl) rfl) ?_)
      simp only [Act.put, List.setIfInBounds_toArray, List.set_cons_zero, List.set_cons_succ]
      refine wl_step (st_val rfl (v_shrC (s := 8) (d := 256) rfl rfl rfl (by decide) (by decide)) ?_)
      simp only [Act.put, List.setIfInBounds_toArray, List.set_cons_zero, List.set_cons_succ]
      rw [E2.out]
      refine wl_step (st_val rfl (v_moveT (.inr rfl) rfl) ?_)
      simp only [Act.put, List.setIfInBounds_toArray, List.set_cons_zero, List.set_cons_succ]
      repeat ((fail_if_success (with_reducible show wpList _ _ _ (List.cons _ _) _ _)); (fail_if_success (with_reducible show Code.wp _ (Code.region _ _ true) _ _ _)); go_step)
      refine wl_step (st_val rfl (v_moveT (.inl rfl) rfl) ?_)
      simp only [Act.put, List.setIfInBounds_toArray, List.set_cons_zero, List.set_cons_succ]
      refine wl_step (st_val rfl (v_sub (n := 1) rfl rfl rfl (by first | exact w_i64s (by omega) (by omega) | exact w_i64I (by omega) (by omega))) ?_)
      simp only [Act.put, List.setIfInBounds_toArray, List.set_cons_zero, List.set_cons_succ]
      refine wl_step (st_val rfl (v_moveT (.inr rfl) rfl) ?_)
      simp only [Act.put, List.setIfInBounds_toArray, List.set_cons_zero, List.set_cons_succ]
      go_wp2
      go_roundw
      case rel => exact ⟨j, by omega, rfl, rfl, hE1⟩
      case measure => simp [intOf]
end Go.Proofs.YtndnmghlgcamfaaDoor
