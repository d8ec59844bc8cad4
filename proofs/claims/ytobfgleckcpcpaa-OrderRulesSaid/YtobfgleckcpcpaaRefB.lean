/-
  Layer 5, the document's answer: a digit of a number, 0 beyond the last one; which of two numbers is less.
-/
import Derived.Test.YtobfgleckcpcpaaRefA
namespace Go.Proofs.Ytobfgleckcpcpaa
open Go.RowKit
set_option linter.unusedVariables false
set_option linter.unusedSimpArgs false

/-- v is a slice that reads these numbers. -/
def Rd (l : List Nat) (v : Value) (w : World) : Prop :=
  (v = .slice none 0 0 ∧ l = []) ∨ ∃ g cap cs T, v = .slice (some ⟨g, 0, none⟩) l.length cap ∧ w.heap[g]? = some (.cells cs T (0, 0)) ∧ cs.toList.take l.length = nums l

theorem Rd.below {l : List Nat} {v : Value} {w w1 : World} (h : Rd l v w) (hb : Below w.heap.size w w1) : Rd l v w1 := by
  rcases h with h | ⟨g, cap, cs, T, h1, h2, h3⟩
  · exact .inl h
  · exact .inr ⟨g, cap, cs, T, h1, (hb.block _ (Array.getElem?_eq_some_iff.1 h2).1).trans h2, h3⟩
theorem Sl.rd {w0 w : World} {ls : List Blk} {e : TypeId} {l : List Nat} {v : Value} (h : Sl w0 ls e (nums l) v w) : Rd l v w := by
  rcases h with ⟨h1, h2, h⟩ | ⟨g, cap, cs, h1, h2, h3, h4, h5, h⟩
  · exact .inl ⟨h1, List.map_eq_nil_iff.1 h2⟩
  · rw [nums_length] at h1 h5
    exact .inr ⟨g, cap, cs, e, h1, h.get (i := 0) rfl, h5⟩
theorem Rd.len {l : List Nat} {v : Value} {w : World} (h : Rd l v w) : ∃ p cap, v = .slice p l.length cap := by
  rcases h with ⟨rfl, rfl⟩ | ⟨g, cap, cs, T, rfl, -⟩
  · exact ⟨_, _, rfl⟩
  · exact ⟨_, _, rfl⟩

/-- A digit, 0 where there is none. -/
def atD (l : List Nat) (i : Int) : Nat := if i < 0 then 0 else l.getD i.toNat 0

theorem Rd.cell {l : List Nat} {g cap : Nat} {w : World} (h : Rd l (.slice (some ⟨g, 0, none⟩) l.length cap) w) {j : Nat} (hj : j < l.length) : w.cell? ⟨g, j, none⟩ = some (.int .i64 (l.getD j 0 : Nat)) := by
  rcases h with ⟨h, -⟩ | ⟨g', cap', cs, T, h1, h2, h3⟩
  · cases h
  · injection h1 with e1 e2 e3
    injection e1 with e1
    injection e1 with e1
    subst e1
    rw [cell_of_row w g j cs T (0, 0) h2]
    have : (cs.toList.take l.length)[j]? = (nums l)[j]? := by rw [h3]
    rw [List.getElem?_take, if_pos hj, nums, List.getElem?_map, List.getElem?_eq_getElem hj] at this
    rw [← Array.getElem?_toList, this]
    simp [List.getD, hj]

set_option maxHeartbeats 1000000 in
theorem at_any {l : List Nat} {v : Value} {w : World} (h : Rd l v w) (hl : l.length < 4611686018427387904) (i : Int) :
    Gives 35 #[v, .int .i64 i] w (.int .i64 (atD l i : Nat)) := by
  obtain ⟨p, cap, rfl⟩ := h.len
  by_cases h0 : i < 0
  · have e : atD l i = 0 := by simp [atD, h0]
    rw [e]
    clear h
    go_enter Try.func35, Try.ntmps35
    go_wp2
    go_returns
    exact ⟨rfl, Below.refl _ _⟩
  · by_cases h1 : (l.length : Int) ≤ i
    · have e : atD l i = 0 := by
        rw [atD, if_neg h0, List.getD_eq_getElem?_getD, List.getElem?_eq_none (by omega)]
        rfl
      rw [e]
      clear h
      go_enter Try.func35, Try.ntmps35
      go_wp2
      go_returns
      exact ⟨rfl, Below.refl _ _⟩
    · have e : atD l i = l.getD i.toNat 0 := by simp [atD, h0]
      rcases h with ⟨h2, h3⟩ | ⟨g, cap', cs, T, h2, h3, h4⟩
      · subst h3
        simp at h1
        omega
      · injection h2 with e1 e2 e3
        subst e1
        have hR : Rd l (.slice (some ⟨g, 0, none⟩) l.length cap) w := .inr ⟨g, cap, cs, T, rfl, h3, h4⟩
        have hj : i.toNat < l.length := by omega
        have ca := hR.cell hj
        rw [← e] at ca
        clear hR h3 h4 e e3
        go_enter Try.func35, Try.ntmps35
        go_wp2
        go_returns
        exact ⟨rfl, Below.refl _ _⟩

theorem atD_nat {l : List Nat} (dl : Digs 256 l) (i : Nat) : atD l (i : Int) = val 256 l / 256 ^ i % 256 := by
  rw [atD, if_neg (by omega), val_div_mod dl (by decide)]
  rfl
theorem atD_up {l : List Nat} (dl : Digs 256 l) (i up : Nat) : atD l ((i : Int) - (up : Int)) = 256 ^ up * val 256 l / 256 ^ i % 256 := by
  by_cases h : i < up
  · rw [atD, if_pos (by omega)]
    obtain ⟨d, rfl⟩ : ∃ d, up = i + (d + 1) := ⟨up - i - 1, by omega⟩
    rw [Nat.pow_add, Nat.mul_assoc, Nat.mul_div_cancel_left _ (Nat.pow_pos (by decide)), Nat.pow_succ, Nat.mul_comm (256 ^ d) 256, Nat.mul_assoc, Nat.mul_mod_right]
  · obtain ⟨d, rfl⟩ : ∃ d, i = up + d := ⟨i - up, by omega⟩
    have e : (((up + d : Nat) : Int) - (up : Int)) = (d : Int) := by omega
    rw [e, atD_nat dl, Nat.pow_add, ← Nat.div_div_eq_div_mul, Nat.mul_div_cancel_left _ (Nat.pow_pos (by decide))]
theorem atD_lt {l : List Nat} (dl : Digs 256 l) (i : Int) : atD l i < 256 := by
  unfold atD
  split
  · decide
  · exact dl.getD (by decide) _
theorem div_step (A j : Nat) : A / 256 ^ j = 256 * (A / 256 ^ (j + 1)) + A / 256 ^ j % 256 := by
  rw [Nat.pow_succ, ← Nat.div_div_eq_div_mul]
  omega
theorem lt_of_div {A B j : Nat} (h : A / 256 ^ j < B / 256 ^ j) : A < B := by
  rcases Nat.lt_or_ge A B with h' | h'
  · exact h'
  · have := Nat.div_le_div_right (c := 256 ^ j) h'
    omega
theorem less_tells {A B j : Nat} (h : A / 256 ^ (j + 1) = B / 256 ^ (j + 1)) (hne : ¬ A / 256 ^ j % 256 = B / 256 ^ j % 256) : decide (A / 256 ^ j % 256 < B / 256 ^ j % 256) = decide (A < B) := by
  apply decide_eq_decide.2
  have ha := div_step A j
  have hb := div_step B j
  constructor
  · intro h'
    exact lt_of_div (j := j) (by omega)
  · intro h'
    rcases Nat.lt_trichotomy (A / 256 ^ j) (B / 256 ^ j) with h1 | h1 | h1
    · omega
    · omega
    · have := lt_of_div h1
      omega
theorem less_goes {A B j : Nat} (h : A / 256 ^ (j + 1) = B / 256 ^ (j + 1)) (he : A / 256 ^ j % 256 = B / 256 ^ j % 256) : A / 256 ^ j = B / 256 ^ j := by
  rw [div_step A j, div_step B j, h, he]
theorem less_start {l : List Nat} (dl : Digs 256 l) {n up : Nat} (h : l.length + up ≤ n) : 256 ^ up * val 256 l / 256 ^ n = 0 := by
  apply Nat.div_eq_of_lt
  have h1 := val_lt dl
  have h2 : 256 ^ up * val 256 l < 256 ^ up * 256 ^ l.length := Nat.mul_lt_mul_of_pos_left h1 (Nat.pow_pos (by decide))
  rw [← Nat.pow_add] at h2
  exact Nat.lt_of_lt_of_le h2 (Nat.pow_le_pow_right (by decide) (by omega))

set_option maxHeartbeats 2000000 in
theorem less_any {la lb : List Nat} {va vb : Value} {w : World} (ha : Rd la va w) (hb : Rd lb vb w) (da : Digs 256 la) (db : Digs 256 lb) (up : Nat) (hla : la.length ≤ 65536) (hlb : lb.length ≤ 65536) (hup : up ≤ 65536) :
    Gives 28 #[va, vb, .int .i64 (up : Int)] w (.bool (decide (val 256 la < 256 ^ up * val 256 lb))) := by
  have Ha := Lib.hid ha
  have Hb := Lib.hid hb
  obtain ⟨pa, ca, hva⟩ := ha.len
  obtain ⟨pb, cb, hvb⟩ := hb.len
  clear ha hb
  obtain ⟨A, hA⟩ : ∃ A, A = val 256 la := ⟨_, rfl⟩
  obtain ⟨B, hB⟩ : ∃ B, B = 256 ^ up * val 256 lb := ⟨_, rfl⟩
  have hsum : IntKind.i64.wrap ((lb.length : Int) + (up : Int)) = ((lb.length + up : Nat) : Int) := by rw [IntKind.wrap_i64]; omega
  have hE0 := Env.nil w
  rw [← hA, ← hB]
  subst hva hvb
  by_cases hn : la.length < lb.length + up
  · have HA0 : A / 256 ^ (lb.length+up) = B / 256 ^ (lb.length+up) := by
      have h1 := less_start da (n := lb.length+up) (up := 0) (by omega)
      have h2 := less_start db (n := lb.length+up) (up := up) (by omega)
      rw [Nat.pow_zero, Nat.one_mul] at h1
      rw [hA, hB, h1, h2]
    have hN : lb.length+up ≤ 131072 := by omega
    obtain ⟨N, hNe⟩ : ∃ N, N = lb.length+up := ⟨_, rfl⟩
    rw [← hNe] at HA0 hN
    have HS := Lib.hid HA0
    clear HA0
    go_enter Try.func28, Try.ntmps28
    go_wp2
    go_loopw [8] (fun i wr => ∃ k : Nat, k ≤ N ∧ i = .int .i64 ((k : Int) - 1) ∧ A / 256 ^ k = B / 256 ^ k ∧ Env w [] wr) (fun i _ => (intOf i + 1).toNat)
    case atStart => exact ⟨N, Nat.le_refl _, by simp [hNe], HS.out, hE0⟩
    case round =>
      clear hE0 hNe hn
      obtain ⟨k, hk, rfl, hAB, hE0⟩ := hrel
      cases k with
      | zero =>
        have hfin : decide (A < B) = false := by
          rw [Nat.pow_zero, Nat.div_one, Nat.div_one] at hAB
          rw [hAB]
          simp
        have hj : ((0 : Nat) : Int) - 1 = -1 := rfl
        rw [hj]
        clear hj hAB
        repeat ((fail_if_success (with_reducible show wpList _ _ _ (List.cons _ _) _ _)); (fail_if_success (with_reducible show Code.wp _ (Code.region _ _ true) _ _ _)); go_step)
        apply wl_val rfl
        · go_simp
          with_reducible rfl
        simp only [Act.put, List.setIfInBounds_toArray, List.set_cons_zero, List.set_cons_succ]
        apply wl_val rfl
        · go_simp
          with_reducible rfl
        simp only [Act.put, List.setIfInBounds_toArray, List.set_cons_zero, List.set_cons_succ]
        repeat ((fail_if_success (with_reducible show wpList _ _ _ (List.cons _ _) _ _)); (fail_if_success (with_reducible show Code.wp _ (Code.region _ _ true) _ _ _)); go_step)
        apply wl_val rfl
        · go_simp
          with_reducible rfl
        simp only [Act.put, List.setIfInBounds_toArray, List.set_cons_zero, List.set_cons_succ]
        repeat ((fail_if_success (with_reducible show wpList _ _ _ (List.cons _ _) _ _)); (fail_if_success (with_reducible show Code.wp _ (Code.region _ _ true) _ _ _)); go_step)
        go_returns
        exact ⟨by rw [hfin]; rfl, hE0.below⟩
      | succ j =>
        have hj : ((j + 1 : Nat) : Int) - 1 = (j : Int) := by omega
        rw [hj]
        clear hj
        have hj0 : (0 : Int) ≤ (j : Int) := by omega
        have hjw : IntKind.i64.wrap ((j : Int) - (up : Int)) = (j : Int) - (up : Int) := by rw [IntKind.wrap_i64]; omega
        have hj1 : IntKind.i64.wrap ((j : Int) - 1) = (j : Int) - 1 := by rw [IntKind.wrap_i64]; omega
        have hat : ∀ w1, Env w [] w1 → Gives 35 #[.slice pa la.length ca, .int .i64 (j : Int)] w1 (.int .i64 (A / 256 ^ j % 256 : Nat)) := fun w1 hE => by
          have := at_any (Ha.out.below hE.below) (by omega) (j : Int)
          rwa [atD_nat da, ← hA] at this
        have hbt : ∀ w1, Env w [] w1 → Gives 35 #[.slice pb lb.length cb, .int .i64 ((j : Int) - (up : Int))] w1 (.int .i64 (B / 256 ^ j % 256 : Nat)) := fun w1 hE => by
          have := at_any (Hb.out.below hE.below) (by omega) ((j : Int) - (up : Int))
          rwa [atD_up db, ← hB] at this
        have htells := less_tells (j := j) hAB
        have hgoes := less_goes (j := j) hAB
        obtain ⟨x, hx⟩ : ∃ x, x = A / 256 ^ j % 256 := ⟨_, rfl⟩
        obtain ⟨y, hy⟩ : ∃ y, y = B / 256 ^ j % 256 := ⟨_, rfl⟩
        rw [← hx] at hat htells hgoes
        rw [← hy] at hbt htells hgoes
        clear hAB hx hy
        have Hat := Lib.hid hat
        have Hbt := Lib.hid hbt
        clear hat hbt
        by_cases hxy : x = y
        · have hg := Lib.hid (hgoes hxy)
          clear htells hgoes
          subst hxy
          repeat ((fail_if_success (with_reducible show wpList _ _ _ (List.cons _ _) _ _)); (fail_if_success (with_reducible show Code.wp _ (Code.region _ _ true) _ _ _)); go_step)
          apply wl_val rfl
          · go_simp
            with_reducible rfl
          simp only [Act.put, List.setIfInBounds_toArray, List.set_cons_zero, List.set_cons_succ]
          apply wl_val rfl
          · go_simp
            with_reducible rfl
          simp only [Act.put, List.setIfInBounds_toArray, List.set_cons_zero, List.set_cons_succ]
          repeat ((fail_if_success (with_reducible show wpList _ _ _ (List.cons _ _) _ _)); (fail_if_success (with_reducible show Code.wp _ (Code.region _ _ true) _ _ _)); go_step)
          apply wl_val rfl
          · go_simp
            with_reducible rfl
          simp only [Act.put, List.setIfInBounds_toArray, List.set_cons_zero, List.set_cons_succ]
          apply wl_val rfl
          · go_simp
            with_reducible rfl
          simp only [Act.put, List.setIfInBounds_toArray, List.set_cons_zero, List.set_cons_succ]
          refine wl_call hE0 rfl (by go_simp) (Hat.out _ hE0) ?_
          intro w1 hE1
          clear hE0
          simp only [Act.put, List.setIfInBounds_toArray, List.set_cons_zero, List.set_cons_succ]
          apply wl_val rfl
          · go_simp
            with_reducible rfl
          simp only [Act.put, List.setIfInBounds_toArray, List.set_cons_zero, List.set_cons_succ]
          apply wl_val rfl
          · go_simp
            with_reducible rfl
          simp only [Act.put, List.setIfInBounds_toArray, List.set_cons_zero, List.set_cons_succ]
          apply wl_val rfl
          · go_simp
            with_reducible rfl
          simp only [Act.put, List.setIfInBounds_toArray, List.set_cons_zero, List.set_cons_succ]
          apply wl_val rfl
          · go_simp
            with_reducible rfl
          simp only [Act.put, List.setIfInBounds_toArray, List.set_cons_zero, List.set_cons_succ]
          refine wl_call hE1 rfl (by go_simp) (Hbt.out _ hE1) ?_
          intro w2 hE2
          clear hE1
          simp only [Act.put, List.setIfInBounds_toArray, List.set_cons_zero, List.set_cons_succ]
          apply wl_val rfl
          · go_simp
            with_reducible rfl
          simp only [Act.put, List.setIfInBounds_toArray, List.set_cons_zero, List.set_cons_succ]
          repeat ((fail_if_success (with_reducible show wpList _ _ _ (List.cons _ _) _ _)); (fail_if_success (with_reducible show Code.wp _ (Code.region _ _ true) _ _ _)); go_step)
          apply wl_val rfl
          · go_simp
            with_reducible rfl
          simp only [Act.put, List.setIfInBounds_toArray, List.set_cons_zero, List.set_cons_succ]
          apply wl_val rfl
          · go_simp
            with_reducible rfl
          simp only [Act.put, List.setIfInBounds_toArray, List.set_cons_zero, List.set_cons_succ]
          apply wl_val rfl
          · go_simp
            with_reducible rfl
          simp only [Act.put, List.setIfInBounds_toArray, List.set_cons_zero, List.set_cons_succ]
          go_wp2
          go_roundw
          case rel => exact ⟨j, by omega, rfl, hg.out, hE2⟩
          case measure => simp [intOf]
        · have htell := htells hxy
          clear htells hgoes
          have hxy' : ¬ (x : Int) = (y : Int) := by omega
          repeat ((fail_if_success (with_reducible show wpList _ _ _ (List.cons _ _) _ _)); (fail_if_success (with_reducible show Code.wp _ (Code.region _ _ true) _ _ _)); go_step)
          apply wl_val rfl
          · go_simp
            with_reducible rfl
          simp only [Act.put, List.setIfInBounds_toArray, List.set_cons_zero, List.set_cons_succ]
          apply wl_val rfl
          · go_simp
            with_reducible rfl
          simp only [Act.put, List.setIfInBounds_toArray, List.set_cons_zero, List.set_cons_succ]
          repeat ((fail_if_success (with_reducible show wpList _ _ _ (List.cons _ _) _ _)); (fail_if_success (with_reducible show Code.wp _ (Code.region _ _ true) _ _ _)); go_step)
          apply wl_val rfl
          · go_simp
            with_reducible rfl
          simp only [Act.put, List.setIfInBounds_toArray, List.set_cons_zero, List.set_cons_succ]
          apply wl_val rfl
          · go_simp
            with_reducible rfl
          simp only [Act.put, List.setIfInBounds_toArray, List.set_cons_zero, List.set_cons_succ]
          refine wl_call hE0 rfl (by go_simp) (Hat.out _ hE0) ?_
          intro w1 hE1
          clear hE0
          simp only [Act.put, List.setIfInBounds_toArray, List.set_cons_zero, List.set_cons_succ]
          apply wl_val rfl
          · go_simp
            with_reducible rfl
          simp only [Act.put, List.setIfInBounds_toArray, List.set_cons_zero, List.set_cons_succ]
          apply wl_val rfl
          · go_simp
            with_reducible rfl
          simp only [Act.put, List.setIfInBounds_toArray, List.set_cons_zero, List.set_cons_succ]
          apply wl_val rfl
          · go_simp
            with_reducible rfl
          simp only [Act.put, List.setIfInBounds_toArray, List.set_cons_zero, List.set_cons_succ]
          apply wl_val rfl
          · go_simp
            with_reducible rfl
          simp only [Act.put, List.setIfInBounds_toArray, List.set_cons_zero, List.set_cons_succ]
          refine wl_call hE1 rfl (by go_simp) (Hbt.out _ hE1) ?_
          intro w2 hE2
          clear hE1
          simp only [Act.put, List.setIfInBounds_toArray, List.set_cons_zero, List.set_cons_succ]
          apply wl_val rfl
          · go_simp
            with_reducible rfl
          simp only [Act.put, List.setIfInBounds_toArray, List.set_cons_zero, List.set_cons_succ]
          repeat ((fail_if_success (with_reducible show wpList _ _ _ (List.cons _ _) _ _)); (fail_if_success (with_reducible show Code.wp _ (Code.region _ _ true) _ _ _)); go_step)
          apply wl_val rfl
          · go_simp
            with_reducible rfl
          simp only [Act.put, List.setIfInBounds_toArray, List.set_cons_zero, List.set_cons_succ]
          apply wl_val rfl
          · go_simp
            with_reducible rfl
          simp only [Act.put, List.setIfInBounds_toArray, List.set_cons_zero, List.set_cons_succ]
          refine wl_call hE2 rfl (by go_simp) (Hat.out _ hE2) ?_
          intro w3 hE3
          clear hE2
          simp only [Act.put, List.setIfInBounds_toArray, List.set_cons_zero, List.set_cons_succ]
          apply wl_val rfl
          · go_simp
            with_reducible rfl
          simp only [Act.put, List.setIfInBounds_toArray, List.set_cons_zero, List.set_cons_succ]
          apply wl_val rfl
          · go_simp
            with_reducible rfl
          simp only [Act.put, List.setIfInBounds_toArray, List.set_cons_zero, List.set_cons_succ]
          apply wl_val rfl
          · go_simp
            with_reducible rfl
          simp only [Act.put, List.setIfInBounds_toArray, List.set_cons_zero, List.set_cons_succ]
          apply wl_val rfl
          · go_simp
            with_reducible rfl
          simp only [Act.put, List.setIfInBounds_toArray, List.set_cons_zero, List.set_cons_succ]
          refine wl_call hE3 rfl (by go_simp) (Hbt.out _ hE3) ?_
          intro w4 hE4
          clear hE3
          simp only [Act.put, List.setIfInBounds_toArray, List.set_cons_zero, List.set_cons_succ]
          apply wl_val rfl
          · go_simp
            with_reducible rfl
          simp only [Act.put, List.setIfInBounds_toArray, List.set_cons_zero, List.set_cons_succ]
          apply wl_val rfl
          · go_simp
            with_reducible rfl
          simp only [Act.put, List.setIfInBounds_toArray, List.set_cons_zero, List.set_cons_succ]
          repeat ((fail_if_success (with_reducible show wpList _ _ _ (List.cons _ _) _ _)); (fail_if_success (with_reducible show Code.wp _ (Code.region _ _ true) _ _ _)); go_step)
          go_returns
          exact ⟨by first | (rw [hA, hB]; rfl) | (rw [← htell]; rfl), hE4.below⟩
  · have HA0 : A / 256 ^ (la.length) = B / 256 ^ (la.length) := by
      have h1 := less_start da (n := la.length) (up := 0) (by omega)
      have h2 := less_start db (n := la.length) (up := up) (by omega)
      rw [Nat.pow_zero, Nat.one_mul] at h1
      rw [hA, hB, h1, h2]
    have hN : la.length ≤ 131072 := by omega
    obtain ⟨N, hNe⟩ : ∃ N, N = la.length := ⟨_, rfl⟩
    rw [← hNe] at HA0 hN
    have HS := Lib.hid HA0
    clear HA0
    go_enter Try.func28, Try.ntmps28
    go_wp2
    go_loopw [8] (fun i wr => ∃ k : Nat, k ≤ N ∧ i = .int .i64 ((k : Int) - 1) ∧ A / 256 ^ k = B / 256 ^ k ∧ Env w [] wr) (fun i _ => (intOf i + 1).toNat)
    case atStart => exact ⟨N, Nat.le_refl _, by simp [hNe], HS.out, hE0⟩
    case round =>
      clear hE0 hNe hn
      obtain ⟨k, hk, rfl, hAB, hE0⟩ := hrel
      cases k with
      | zero =>
        have hfin : decide (A < B) = false := by
          rw [Nat.pow_zero, Nat.div_one, Nat.div_one] at hAB
          rw [hAB]
          simp
        have hj : ((0 : Nat) : Int) - 1 = -1 := rfl
        rw [hj]
        clear hj hAB
        repeat ((fail_if_success (with_reducible show wpList _ _ _ (List.cons _ _) _ _)); (fail_if_success (with_reducible show Code.wp _ (Code.region _ _ true) _ _ _)); go_step)
        apply wl_val rfl
        · go_simp
          with_reducible rfl
        simp only [Act.put, List.setIfInBounds_toArray, List.set_cons_zero, List.set_cons_succ]
        apply wl_val rfl
        · go_simp
          with_reducible rfl
        simp only [Act.put, List.setIfInBounds_toArray, List.set_cons_zero, List.set_cons_succ]
        repeat ((fail_if_success (with_reducible show wpList _ _ _ (List.cons _ _) _ _)); (fail_if_success (with_reducible show Code.wp _ (Code.region _ _ true) _ _ _)); go_step)
        apply wl_val rfl
        · go_simp
          with_reducible rfl
        simp only [Act.put, List.setIfInBounds_toArray, List.set_cons_zero, List.set_cons_succ]
        repeat ((fail_if_success (with_reducible show wpList _ _ _ (List.cons _ _) _ _)); (fail_if_success (with_reducible show Code.wp _ (Code.region _ _ true) _ _ _)); go_step)
        go_returns
        exact ⟨by rw [hfin]; rfl, hE0.below⟩
      | succ j =>
        have hj : ((j + 1 : Nat) : Int) - 1 = (j : Int) := by omega
        rw [hj]
        clear hj
        have hj0 : (0 : Int) ≤ (j : Int) := by omega
        have hjw : IntKind.i64.wrap ((j : Int) - (up : Int)) = (j : Int) - (up : Int) := by rw [IntKind.wrap_i64]; omega
        have hj1 : IntKind.i64.wrap ((j : Int) - 1) = (j : Int) - 1 := by rw [IntKind.wrap_i64]; omega
        have hat : ∀ w1, Env w [] w1 → Gives 35 #[.slice pa la.length ca, .int .i64 (j : Int)] w1 (.int .i64 (A / 256 ^ j % 256 : Nat)) := fun w1 hE => by
          have := at_any (Ha.out.below hE.below) (by omega) (j : Int)
          rwa [atD_nat da, ← hA] at this
        have hbt : ∀ w1, Env w [] w1 → Gives 35 #[.slice pb lb.length cb, .int .i64 ((j : Int) - (up : Int))] w1 (.int .i64 (B / 256 ^ j % 256 : Nat)) := fun w1 hE => by
          have := at_any (Hb.out.below hE.below) (by omega) ((j : Int) - (up : Int))
          rwa [atD_up db, ← hB] at this
        have htells := less_tells (j := j) hAB
        have hgoes := less_goes (j := j) hAB
        obtain ⟨x, hx⟩ : ∃ x, x = A / 256 ^ j % 256 := ⟨_, rfl⟩
        obtain ⟨y, hy⟩ : ∃ y, y = B / 256 ^ j % 256 := ⟨_, rfl⟩
        rw [← hx] at hat htells hgoes
        rw [← hy] at hbt htells hgoes
        clear hAB hx hy
        have Hat := Lib.hid hat
        have Hbt := Lib.hid hbt
        clear hat hbt
        by_cases hxy : x = y
        · have hg := Lib.hid (hgoes hxy)
          clear htells hgoes
          subst hxy
          repeat ((fail_if_success (with_reducible show wpList _ _ _ (List.cons _ _) _ _)); (fail_if_success (with_reducible show Code.wp _ (Code.region _ _ true) _ _ _)); go_step)
          apply wl_val rfl
          · go_simp
            with_reducible rfl
          simp only [Act.put, List.setIfInBounds_toArray, List.set_cons_zero, List.set_cons_succ]
          apply wl_val rfl
          · go_simp
            with_reducible rfl
          simp only [Act.put, List.setIfInBounds_toArray, List.set_cons_zero, List.set_cons_succ]
          repeat ((fail_if_success (with_reducible show wpList _ _ _ (List.cons _ _) _ _)); (fail_if_success (with_reducible show Code.wp _ (Code.region _ _ true) _ _ _)); go_step)
          apply wl_val rfl
          · go_simp
            with_reducible rfl
          simp only [Act.put, List.setIfInBounds_toArray, List.set_cons_zero, List.set_cons_succ]
          apply wl_val rfl
          · go_simp
            with_reducible rfl
          simp only [Act.put, List.setIfInBounds_toArray, List.set_cons_zero, List.set_cons_succ]
          refine wl_call hE0 rfl (by go_simp) (Hat.out _ hE0) ?_
          intro w1 hE1
          clear hE0
          simp only [Act.put, List.setIfInBounds_toArray, List.set_cons_zero, List.set_cons_succ]
          apply wl_val rfl
          · go_simp
            with_reducible rfl
          simp only [Act.put, List.setIfInBounds_toArray, List.set_cons_zero, List.set_cons_succ]
          apply wl_val rfl
          · go_simp
            with_reducible rfl
          simp only [Act.put, List.setIfInBounds_toArray, List.set_cons_zero, List.set_cons_succ]
          apply wl_val rfl
          · go_simp
            with_reducible rfl
          simp only [Act.put, List.setIfInBounds_toArray, List.set_cons_zero, List.set_cons_succ]
          apply wl_val rfl
          · go_simp
            with_reducible rfl
          simp only [Act.put, List.setIfInBounds_toArray, List.set_cons_zero, List.set_cons_succ]
          refine wl_call hE1 rfl (by go_simp) (Hbt.out _ hE1) ?_
          intro w2 hE2
          clear hE1
          simp only [Act.put, List.setIfInBounds_toArray, List.set_cons_zero, List.set_cons_succ]
          apply wl_val rfl
          · go_simp
            with_reducible rfl
          simp only [Act.put, List.setIfInBounds_toArray, List.set_cons_zero, List.set_cons_succ]
          repeat ((fail_if_success (with_reducible show wpList _ _ _ (List.cons _ _) _ _)); (fail_if_success (with_reducible show Code.wp _ (Code.region _ _ true) _ _ _)); go_step)
          apply wl_val rfl
          · go_simp
            with_reducible rfl
          simp only [Act.put, List.setIfInBounds_toArray, List.set_cons_zero, List.set_cons_succ]
          apply wl_val rfl
          · go_simp
            with_reducible rfl
          simp only [Act.put, List.setIfInBounds_toArray, List.set_cons_zero, List.set_cons_succ]
          apply wl_val rfl
          · go_simp
            with_reducible rfl
          simp only [Act.put, List.setIfInBounds_toArray, List.set_cons_zero, List.set_cons_succ]
          go_wp2
          go_roundw
          case rel => exact ⟨j, by omega, rfl, hg.out, hE2⟩
          case measure => simp [intOf]
        · have htell := htells hxy
          clear htells hgoes
          have hxy' : ¬ (x : Int) = (y : Int) := by omega
          repeat ((fail_if_success (with_reducible show wpList _ _ _ (List.cons _ _) _ _)); (fail_if_success (with_reducible show Code.wp _ (Code.region _ _ true) _ _ _)); go_step)
          apply wl_val rfl
          · go_simp
            with_reducible rfl
          simp only [Act.put, List.setIfInBounds_toArray, List.set_cons_zero, List.set_cons_succ]
          apply wl_val rfl
          · go_simp
            with_reducible rfl
          simp only [Act.put, List.setIfInBounds_toArray, List.set_cons_zero, List.set_cons_succ]
          repeat ((fail_if_success (with_reducible show wpList _ _ _ (List.cons _ _) _ _)); (fail_if_success (with_reducible show Code.wp _ (Code.region _ _ true) _ _ _)); go_step)
          apply wl_val rfl
          · go_simp
            with_reducible rfl
          simp only [Act.put, List.setIfInBounds_toArray, List.set_cons_zero, List.set_cons_succ]
          apply wl_val rfl
          · go_simp
            with_reducible rfl
          simp only [Act.put, List.setIfInBounds_toArray, List.set_cons_zero, List.set_cons_succ]
          refine wl_call hE0 rfl (by go_simp) (Hat.out _ hE0) ?_
          intro w1 hE1
          clear hE0
          simp only [Act.put, List.setIfInBounds_toArray, List.set_cons_zero, List.set_cons_succ]
          apply wl_val rfl
          · go_simp
            with_reducible rfl
          simp only [Act.put, List.setIfInBounds_toArray, List.set_cons_zero, List.set_cons_succ]
          apply wl_val rfl
          · go_simp
            with_reducible rfl
          simp only [Act.put, List.setIfInBounds_toArray, List.set_cons_zero, List.set_cons_succ]
          apply wl_val rfl
          · go_simp
            with_reducible rfl
          simp only [Act.put, List.setIfInBounds_toArray, List.set_cons_zero, List.set_cons_succ]
          apply wl_val rfl
          · go_simp
            with_reducible rfl
          simp only [Act.put, List.setIfInBounds_toArray, List.set_cons_zero, List.set_cons_succ]
          refine wl_call hE1 rfl (by go_simp) (Hbt.out _ hE1) ?_
          intro w2 hE2
          clear hE1
          simp only [Act.put, List.setIfInBounds_toArray, List.set_cons_zero, List.set_cons_succ]
          apply wl_val rfl
          · go_simp
            with_reducible rfl
          simp only [Act.put, List.setIfInBounds_toArray, List.set_cons_zero, List.set_cons_succ]
          repeat ((fail_if_success (with_reducible show wpList _ _ _ (List.cons _ _) _ _)); (fail_if_success (with_reducible show Code.wp _ (Code.region _ _ true) _ _ _)); go_step)
          apply wl_val rfl
          · go_simp
            with_reducible rfl
          simp only [Act.put, List.setIfInBounds_toArray, List.set_cons_zero, List.set_cons_succ]
          apply wl_val rfl
          · go_simp
            with_reducible rfl
          simp only [Act.put, List.setIfInBounds_toArray, List.set_cons_zero, List.set_cons_succ]
          refine wl_call hE2 rfl (by go_simp) (Hat.out _ hE2) ?_
          intro w3 hE3
          clear hE2
          simp only [Act.put, List.setIfInBounds_toArray, List.set_cons_zero, List.set_cons_succ]
          apply wl_val rfl
          · go_simp
            with_reducible rfl
          simp only [Act.put, List.setIfInBounds_toArray, List.set_cons_zero, List.set_cons_succ]
          apply wl_val rfl
          · go_simp
            with_reducible rfl
          simp only [Act.put, List.setIfInBounds_toArray, List.set_cons_zero, List.set_cons_succ]
          apply wl_val rfl
          · go_simp
            with_reducible rfl
          simp only [Act.put, List.setIfInBounds_toArray, List.set_cons_zero, List.set_cons_succ]
          apply wl_val rfl
          · go_simp
            with_reducible rfl
          simp only [Act.put, List.setIfInBounds_toArray, List.set_cons_zero, List.set_cons_succ]
          refine wl_call hE3 rfl (by go_simp) (Hbt.out _ hE3) ?_
          intro w4 hE4
          clear hE3
          simp only [Act.put, List.setIfInBounds_toArray, List.set_cons_zero, List.set_cons_succ]
          apply wl_val rfl
          · go_simp
            with_reducible rfl
          simp only [Act.put, List.setIfInBounds_toArray, List.set_cons_zero, List.set_cons_succ]
          apply wl_val rfl
          · go_simp
            with_reducible rfl
          simp only [Act.put, List.setIfInBounds_toArray, List.set_cons_zero, List.set_cons_succ]
          repeat ((fail_if_success (with_reducible show wpList _ _ _ (List.cons _ _) _ _)); (fail_if_success (with_reducible show Code.wp _ (Code.region _ _ true) _ _ _)); go_step)
          go_returns
          exact ⟨by first | (rw [hA, hB]; rfl) | (rw [← htell]; rfl), hE4.below⟩
end Go.Proofs.Ytobfgleckcpcpaa
