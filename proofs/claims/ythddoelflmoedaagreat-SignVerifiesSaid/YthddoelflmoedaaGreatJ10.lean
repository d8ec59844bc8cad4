/-
  Layer 4: sums, differences, negatives; small numbers.
  Layer 4: the product.
  Layer 4: the product, walked.
  Layer 4: the number of bytes; small numbers.
  Layer 4: the number below p, and its bytes.
-/
import Derived.Test.YthddoelflmoedaaGreatJ08
import Derived.Test.YthddoelflmoedaaGreatJ09
set_option linter.unusedVariables false
set_option linter.unusedSimpArgs false
namespace Go.Proofs.YthddoelflmoedaaGreat
open Go.RowKit
set_option maxRecDepth 100000

theorem carry_key (a b c d e qa qb qc qd qe ra rb rc rd re : Nat) (ha : a = 2251799813685248 * qa + ra) (hb : b = 2251799813685248 * qb + rb) (hc : c = 2251799813685248 * qc + rc) (hd : d = 2251799813685248 * qd + rd) (he : e = 2251799813685248 * qe + re) :
  (ra + 19 * qe) + 2251799813685248 * ((rb + qa) + 2251799813685248 * ((rc + qb) + 2251799813685248 * ((rd + qc) + 2251799813685248 * (re + qd)))) + pN * qe =
  a + 2251799813685248 * (b + 2251799813685248 * (c + 2251799813685248 * (d + 2251799813685248 * e))) := by
 subst ha hb hc hd he
 unfold pN
 omega
theorem carry_val {l : List Nat} (h : l.length = 5) : fval (carryL l) % pN = fval l % pN := by
 obtain ⟨a, b, c, d, e, rfl⟩ := five h
 rw [carryL_eq, fval5, fval5, ← carry_key a b c d e (a / 2251799813685248) (b / 2251799813685248) (c / 2251799813685248) (d / 2251799813685248) (e / 2251799813685248) (a % 2251799813685248) (b % 2251799813685248) (c % 2251799813685248) (d % 2251799813685248) (e % 2251799813685248)
  (Nat.div_add_mod _ _).symm (Nat.div_add_mod _ _).symm (Nat.div_add_mod _ _).symm (Nat.div_add_mod _ _).symm (Nat.div_add_mod _ _).symm, Nat.add_mul_mod_self_left]
theorem carry_limb {x y : Nat} (hy : y < 9007199254740992) : x % 2251799813685248 + y / 2251799813685248 < 2251799813685312 := by omega
theorem carry_limb0 {x y : Nat} (hy : y < 9007199254740992) : x % 2251799813685248 + 19 * (y / 2251799813685248) < 2251799813685312 := by omega
theorem carry_Fe {l : List Nat} (h : l.length = 5) (hb : ∀ x ∈ l, x < 9007199254740992) : Fe (carryL l) := by
 obtain ⟨a, b, c, d, e, rfl⟩ := five h
 simp only [List.mem_cons, List.not_mem_nil, or_false, forall_eq_or_imp, forall_eq] at hb
 obtain ⟨ha, hb, hc, hd, he⟩ := hb
 rw [carryL_eq]
 exact Fe.mk (carry_limb0 he) (carry_limb ha) (carry_limb hb) (carry_limb hc) (carry_limb hd)

theorem range5 (F : Nat → Nat) : (List.range 5).map F = [F 0, F 1, F 2, F 3, F 4] := rfl
theorem mem_range5 {F : Nat → Nat} {B : Nat} (h : ∀ j, j < 5 → F j < B) : ∀ x ∈ (List.range 5).map F, x < B := fun x hx => by
 obtain ⟨j, hj, rfl⟩ := List.mem_map.1 hx
 exact h j (by simpa using hj)
theorem mem_mono {l : List Nat} {A B : Nat} (h : ∀ x ∈ l, x < A) (hAB : A ≤ B) : ∀ x ∈ l, x < B := fun x hx => Nat.lt_of_lt_of_le (h x hx) hAB
theorem Fe.getD {l : List Nat} (h : Fe l) (j : Nat) : l.getD j 0 < 2251799813685312 := getD_lt h.2 (by decide) j

def addF (l m : List Nat) (j : Nat) : Nat := l.getD j 0 + m.getD j 0
def subF (l m : List Nat) (j : Nat) : Nat := l.getD j 0 + ((if j = 0 then 4503599627370458 else 4503599627370494) - m.getD j 0)
theorem addF_lt {l m : List Nat} (hl : Fe l) (hm : Fe m) (j : Nat) : addF l m j < 9007199254740992 := by
 have h1 := hl.getD j
 have h2 := hm.getD j
 unfold addF
 omega
theorem subF_lt {l m : List Nat} (hl : Fe l) (hm : Fe m) (j : Nat) : subF l m j < 9007199254740992 := by
 have h1 := hl.getD j
 have h2 := hm.getD j
 unfold subF
 split <;> omega
theorem addF_val {l m : List Nat} (hl : Fe l) (hm : Fe m) : fval ((List.range 5).map (addF l m)) = fval l + fval m := by
 obtain ⟨a, b, c, d, e, rfl, -⟩ := hl.open
 obtain ⟨a', b', c', d', e', rfl, -⟩ := hm.open
 have h : (List.range 5).map (addF [a, b, c, d, e] [a', b', c', d', e']) = [a + a', b + b', c + c', d + d', e + e'] := rfl
 rw [h, fval5, fval5, fval5]
 omega
theorem sub_key (a b c d e a' b' c' d' e' s0 s1 s2 s3 s4 : Nat) (h0 : s0 + a' = a + 4503599627370458) (h1 : s1 + b' = b + 4503599627370494) (h2 : s2 + c' = c + 4503599627370494) (h3 : s3 + d' = d + 4503599627370494) (h4 : s4 + e' = e + 4503599627370494) :
  (s0 + 2251799813685248 * (s1 + 2251799813685248 * (s2 + 2251799813685248 * (s3 + 2251799813685248 * s4)))) + (a' + 2251799813685248 * (b' + 2251799813685248 * (c' + 2251799813685248 * (d' + 2251799813685248 * e')))) =
  (a + 2251799813685248 * (b + 2251799813685248 * (c + 2251799813685248 * (d + 2251799813685248 * e)))) + 2 * pN := by
 unfold pN
 omega
theorem sub_limb {x y c : Nat} (hy : y ≤ c) : x + (c - y) + y = x + c := by omega
theorem subF_val {l m : List Nat} (hl : Fe l) (hm : Fe m) : fval ((List.range 5).map (subF l m)) + fval m = fval l + 2 * pN := by
 obtain ⟨a, b, c, d, e, rfl, -⟩ := hl.open
 obtain ⟨a', b', c', d', e', rfl, ha, hb, hc, hd, he⟩ := hm.open
 have h : (List.range 5).map (subF [a, b, c, d, e] [a', b', c', d', e']) = [a + (4503599627370458 - a'), b + (4503599627370494 - b'), c + (4503599627370494 - c'), d + (4503599627370494 - d'), e + (4503599627370494 - e')] := rfl
 rw [h, fval5, fval5, fval5]
 exact sub_key a b c d e a' b' c' d' e' _ _ _ _ _ (sub_limb (by omega)) (sub_limb (by omega)) (sub_limb (by omega)) (sub_limb (by omega)) (sub_limb (by omega))

set_option maxHeartbeats 2000000 in
theorem Add_walk {l m : List Nat} (hl : Fe l) (hm : Fe m) (w : World) : Gives 74 #[elem l, elem m] w (elem (carryL ((List.range 5).map (addF l m)))) := by
 have hl5 := hl.1
 have hm5 := hm.1
 have Hl := Lib.hid hl
 have Hm := Lib.hid hm
 have HC := Lib.hid (fun w => carry_any ((List.range 5).map (addF l m)) rfl (mem_range5 fun j _ => Nat.lt_trans (addF_lt hl hm j) (by decide)) w)
 clear hl hm
 have hE0 := Env.nil w
 go_enter Tryz.func74, Tryz.ntmps74
 repeat ((fail_if_success refine sqx ?_); go_step)
 refine wl_step (st_boxA hE0 rfl rfl rfl ?_)
 intro g0 w1 hb1 hE1
 clear hE0
 simp only [qZ]
 refine wl_step (st_boxA hE1 rfl rfl rfl ?_)
 intro g1 w2 hb2 hE2
 clear hE1
 simp only [qZ]
 refine wl_step (sqA (ints .u64 (List.replicate 5 0)) hE2 ?_)
 intro g2 w3 hb3 hE3
 clear hE2
 simp only [qZ]
 repeat ((fail_if_success refine sqx ?_); go_step)
 refine wqv (v_moveC (.inl rfl)) ?_
 go_wp2
 go_loopw [6] (fun i wr => ∃ k : Nat, k ≤ 5 ∧ i = .int .i64 k ∧ Env w [⟨g2, 53, ints .u64 (List.replicate 5 0)⟩, ⟨g1, 53, ints .u64 m⟩, ⟨g0, 53, ints .u64 (fillR (addF l m) l k)⟩] wr) (fun i _ => 5 - (intOf i).toNat)
 case atStart => exact ⟨0, Nat.zero_le _, rfl, hE3⟩
 case round =>
  clear hE3
  obtain ⟨k, hk, rfl, hE0⟩ := hrel
  have hX : (fillR (addF l m) l k).length = 5 := by rw [fillR_len (by omega), hl5]
  by_cases hk5 : k < 5
  ·have hlk := Hl.out.getD k
   have hmk := Hm.out.getD k
   repeat ((fail_if_success refine sqx ?_); go_step)
   refine wqv (v_lss (n := 5) rfl rfl rfl) ?_
   repeat ((fail_if_success refine sqx ?_); go_step)
   refine mqA ?_
   refine mqB ?_
   repeat ((fail_if_success refine sqx ?_); go_step)
   refine wp_region_B (n := 12) 11 (by kernel_rfl) rfl hE0 ?_
   intro w1 hb1 hE1
   clear hE0
   refine tqB 0 rfl (v_moveT (.inl rfl) rfl) ?_
   refine tqB 1 rfl (v_field0 (s := 4) rfl rfl Tryz.underlying53 rfl (by kernel_rfl) rfl) ?_
   refine tqB 2 rfl (vqI Tryz.underlying51) ?_
   refine tqB 3 rfl (vqC 2 hE1 Tryz.underlying50) ?_
   rw [fillR_ge (Nat.le_refl k)]
   refine tqB 4 rfl (v_moveT (.inl rfl) rfl) ?_
   refine tqB 5 rfl (v_field0 (s := 4) rfl rfl Tryz.underlying53 rfl (by kernel_rfl) rfl) ?_
   refine tqB 6 rfl (vqI Tryz.underlying51) ?_
   refine tqB 7 rfl (vqC 1 hE1 Tryz.underlying50) ?_
   refine tqB 8 rfl (v_add rfl rfl rfl (by first | exact w_u64 (by omega) | exact w_u64m _)) ?_
   refine tqB 9 rfl (v_field0 (s := 4) rfl rfl Tryz.underlying53 rfl (by kernel_rfl) rfl) ?_
   refine tqB 10 rfl (vqI Tryz.underlying51) ?_
   refine sqB 11 rfl (st_putN (i := 2) hE1 rfl rfl rfl rfl rfl (by kernel_rfl) (by first | assumption | omega | (simp only [List.length_set, List.length_replicate]; first | assumption | omega)) ?_)
   intro w2 hE2
   clear hE1
   simp only [qpB, qpC] at hE2
   refine nqB ?_
   simp only [qZ]
   refine wpB_done (by kernel_rfl) ?_ _
   repeat ((fail_if_success refine sqx ?_); go_step)
   refine wqv (v_add (n := 1) rfl rfl rfl (w_i64 (by omega))) ?_
   refine mqA ?_
   go_wp2
   go_roundw
   case rel => exact ⟨k + 1, by omega, rfl, by rw [fillR_set (F := addF l m) (v := l.getD k 0 + m.getD k 0) (by omega) rfl] at hE2; exact hE2⟩
   case measure => simp [intOf]; omega
  ·have hk' : k = 5 := by omega
   subst hk'
   have e : fillR (addF l m) l 5 = (List.range 5).map (addF l m) := by
    have h := fillR_full (addF l m) l
    rwa [hl5] at h
   rw [e] at hE0
   have hcl : ((List.range 5).map (addF l m)).length = 5 := rfl
   have hcl2 : (carryL ((List.range 5).map (addF l m))).length = 5 := rfl
   repeat ((fail_if_success refine sqx ?_); go_step)
   refine wqv (v_lss (n := 5) rfl rfl rfl) ?_
   repeat ((fail_if_success refine sqx ?_); go_step)
   refine wqv (vqL 2 5 hE0 Tryz.underlying53) ?_
   refine wl_step (st_gives hE0 rfl (run_call rfl Tryz.call97) (HC.out _) ?_)
   intro w1 hb1 hE1
   clear hE0
   simp only [qZ]
   refine wl_step (sqS 0 5 hE1 ?_)
   intro w2 hE2
   clear hE1
   simp only [qpB, qpC] at hE2
   simp only [qZ]
   repeat ((fail_if_success refine sqx ?_); go_step)
   refine bodyPost_ret (results_cell_row rfl _ _ _ _ _ (0, 0) _ rfl (hE2.get (i := 0) rfl) Tryz.underlying53 rfl (szqA (n := 5))) rfl ⟨rfl, hE2.below⟩
theorem Add_any {l m : List Nat} (hl : Fe l) (hm : Fe m) : ∃ c, Fe c ∧ fval c % pN = (fval l + fval m) % pN ∧ ∀ w, Gives 74 #[elem l, elem m] w (elem c) :=
 ⟨_, carry_Fe rfl (mem_range5 fun j _ => addF_lt hl hm j), by rw [carry_val rfl, addF_val hl hm], Add_walk hl hm⟩

set_option maxHeartbeats 2000000 in
theorem Sub_walk {l m : List Nat} (hl : Fe l) (hm : Fe m) (w : World) : Gives 72 #[elem l, elem m] w (elem (carryL ((List.range 5).map (subF l m)))) := by
 have hl5 := hl.1
 have hm5 := hm.1
 have Hl := Lib.hid hl
 have Hm := Lib.hid hm
 have HC := Lib.hid (fun w => carry_any ((List.range 5).map (subF l m)) rfl (mem_range5 fun j _ => Nat.lt_trans (subF_lt hl hm j) (by decide)) w)
 clear hl hm
 have hE0 := Env.nil w
 go_enter Tryz.func72, Tryz.ntmps72
 repeat ((fail_if_success refine sqx ?_); go_step)
 refine wl_step (st_boxA hE0 rfl rfl rfl ?_)
 intro g0 w1 hb1 hE1
 clear hE0
 simp only [qZ]
 refine wl_step (st_boxA hE1 rfl rfl rfl ?_)
 intro g1 w2 hb2 hE2
 clear hE1
 simp only [qZ]
 refine wl_step (sqA (ints .u64 (List.replicate 5 0)) hE2 ?_)
 intro g2 w3 hb3 hE3
 clear hE2
 simp only [qZ]
 repeat ((fail_if_success refine sqx ?_); go_step)
 refine wqv (v_moveC (.inl rfl)) ?_
 go_wp2
 go_loopw [6] (fun i wr => ∃ k : Nat, k ≤ 5 ∧ i = .int .i64 k ∧ Env w [⟨g2, 53, ints .u64 (List.replicate 5 0)⟩, ⟨g1, 53, ints .u64 m⟩, ⟨g0, 53, ints .u64 (fillR (subF l m) l k)⟩] wr) (fun i _ => 5 - (intOf i).toNat)
 case atStart => exact ⟨0, Nat.zero_le _, rfl, hE3⟩
 case round =>
  clear hE3
  obtain ⟨k, hk, rfl, hE0⟩ := hrel
  have hX : (fillR (subF l m) l k).length = 5 := by rw [fillR_len (by omega), hl5]
  by_cases hk5 : k < 5
  ·have hlk := Hl.out.getD k
   have hmk := Hm.out.getD k
   by_cases hk0 : k = 0
   ·have hp := hk0
    repeat ((fail_if_success refine sqx ?_); go_step)
    refine wqv (v_lss (n := 5) rfl rfl rfl) ?_
    repeat ((fail_if_success refine sqx ?_); go_step)
    refine mqA ?_
    refine mqB ?_
    repeat ((fail_if_success refine sqx ?_); go_step)
    refine mqA ?_
    refine wqv (v_eql (n := 0) rfl rfl rfl) ?_
    repeat ((fail_if_success refine sqy ?_); go_step)
    refine cqT ?_
    skip
    repeat ((fail_if_success refine sqx ?_); go_step)
    refine wp_region_B (n := 13) 12 (by kernel_rfl) rfl hE0 ?_
    intro w1 hb1 hE1
    clear hE0
    refine tqB 0 rfl (v_moveT (.inl rfl) rfl) ?_
    refine tqB 1 rfl (v_field0 (s := 4) rfl rfl Tryz.underlying53 rfl (by kernel_rfl) rfl) ?_
    refine tqB 2 rfl (vqI Tryz.underlying51) ?_
    refine tqB 3 rfl (vqC 2 hE1 Tryz.underlying50) ?_
    rw [fillR_ge (Nat.le_refl k)]
    refine tqB 4 rfl (v_moveT (.inl rfl) rfl) ?_
    refine tqB 5 rfl (v_field0 (s := 4) rfl rfl Tryz.underlying53 rfl (by kernel_rfl) rfl) ?_
    refine tqB 6 rfl (vqI Tryz.underlying51) ?_
    refine tqB 7 rfl (vqC 1 hE1 Tryz.underlying50) ?_
    refine tqB 8 rfl (v_sub (m := 4503599627370458) rfl rfl rfl (by first | exact w_u64s (by omega) (by omega) | rfl)) ?_
    refine tqB 9 rfl (v_add rfl rfl rfl (by first | exact w_u64 (by omega) | exact w_u64m _)) ?_
    refine tqB 10 rfl (v_field0 (s := 4) rfl rfl Tryz.underlying53 rfl (by kernel_rfl) rfl) ?_
    refine tqB 11 rfl (vqI Tryz.underlying51) ?_
    refine sqB 12 rfl (st_putN (i := 2) hE1 rfl rfl rfl rfl rfl (by kernel_rfl) (by first | assumption | omega | (simp only [List.length_set, List.length_replicate]; first | assumption | omega)) ?_)
    intro w2 hE2
    clear hE1
    simp only [qpB, qpC] at hE2
    refine nqB ?_
    simp only [qZ]
    refine wpB_done (by kernel_rfl) ?_ _
    repeat ((fail_if_success refine sqx ?_); go_step)
    refine wqv (v_add (n := 1) rfl rfl rfl (w_i64 (by omega))) ?_
    refine mqA ?_
    go_wp2
    go_roundw
    case rel => exact ⟨k + 1, by omega, rfl, by rw [fillR_set (by omega) (by unfold subF; rw [if_pos hk0])] at hE2; exact hE2⟩
    case measure => simp [intOf]; omega
   ·have hp := hk0
    repeat ((fail_if_success refine sqx ?_); go_step)
    refine wqv (v_lss (n := 5) rfl rfl rfl) ?_
    repeat ((fail_if_success refine sqx ?_); go_step)
    refine mqA ?_
    refine mqB ?_
    repeat ((fail_if_success refine sqx ?_); go_step)
    refine mqA ?_
    refine wqv (v_eql (n := 0) rfl rfl rfl) ?_
    repeat ((fail_if_success refine sqy ?_); go_step)
    refine cqF ?_
    skip
    repeat ((fail_if_success refine sqx ?_); go_step)
    refine wp_region_B (n := 13) 12 (by kernel_rfl) rfl hE0 ?_
    intro w1 hb1 hE1
    clear hE0
    refine tqB 0 rfl (v_moveT (.inl rfl) rfl) ?_
    refine tqB 1 rfl (v_field0 (s := 4) rfl rfl Tryz.underlying53 rfl (by kernel_rfl) rfl) ?_
    refine tqB 2 rfl (vqI Tryz.underlying51) ?_
    refine tqB 3 rfl (vqC 2 hE1 Tryz.underlying50) ?_
    rw [fillR_ge (Nat.le_refl k)]
    refine tqB 4 rfl (v_moveT (.inl rfl) rfl) ?_
    refine tqB 5 rfl (v_field0 (s := 4) rfl rfl Tryz.underlying53 rfl (by kernel_rfl) rfl) ?_
    refine tqB 6 rfl (vqI Tryz.underlying51) ?_
    refine tqB 7 rfl (vqC 1 hE1 Tryz.underlying50) ?_
    refine tqB 8 rfl (v_sub (m := 4503599627370494) rfl rfl rfl (by first | exact w_u64s (by omega) (by omega) | rfl)) ?_
    refine tqB 9 rfl (v_add rfl rfl rfl (by first | exact w_u64 (by omega) | exact w_u64m _)) ?_
    refine tqB 10 rfl (v_field0 (s := 4) rfl rfl Tryz.underlying53 rfl (by kernel_rfl) rfl) ?_
    refine tqB 11 rfl (vqI Tryz.underlying51) ?_
    refine sqB 12 rfl (st_putN (i := 2) hE1 rfl rfl rfl rfl rfl (by kernel_rfl) (by first | assumption | omega | (simp only [List.length_set, List.length_replicate]; first | assumption | omega)) ?_)
    intro w2 hE2
    clear hE1
    simp only [qpB, qpC] at hE2
    refine nqB ?_
    simp only [qZ]
    refine wpB_done (by kernel_rfl) ?_ _
    repeat ((fail_if_success refine sqx ?_); go_step)
    refine wqv (v_add (n := 1) rfl rfl rfl (w_i64 (by omega))) ?_
    refine mqA ?_
    go_wp2
    go_roundw
    case rel => exact ⟨k + 1, by omega, rfl, by rw [fillR_set (by omega) (by unfold subF; rw [if_neg hk0])] at hE2; exact hE2⟩
    case measure => simp [intOf]; omega
  ·have hk' : k = 5 := by omega
   subst hk'
   have e : fillR (subF l m) l 5 = (List.range 5).map (subF l m) := by
    have h := fillR_full (subF l m) l
    rwa [hl5] at h
   rw [e] at hE0
   have hcl : ((List.range 5).map (subF l m)).length = 5 := rfl
   have hcl2 : (carryL ((List.range 5).map (subF l m))).length = 5 := rfl
   repeat ((fail_if_success refine sqx ?_); go_step)
   refine wqv (v_lss (n := 5) rfl rfl rfl) ?_
   repeat ((fail_if_success refine sqx ?_); go_step)
   refine wqv (vqL 2 5 hE0 Tryz.underlying53) ?_
   refine wl_step (st_gives hE0 rfl (run_call rfl Tryz.call97) (HC.out _) ?_)
   intro w1 hb1 hE1
   clear hE0
   simp only [qZ]
   refine wl_step (sqS 0 5 hE1 ?_)
   intro w2 hE2
   clear hE1
   simp only [qpB, qpC] at hE2
   simp only [qZ]
   repeat ((fail_if_success refine sqx ?_); go_step)
   refine bodyPost_ret (results_cell_row rfl _ _ _ _ _ (0, 0) _ rfl (hE2.get (i := 0) rfl) Tryz.underlying53 rfl (szqA (n := 5))) rfl ⟨rfl, hE2.below⟩
theorem sub_mod {x y z n : Nat} (h : x + y = z + 2 * n) (hn : 0 < n) : x % n = (z + (n - y % n)) % n := by
 have e : x + n * (y / n) = z + (n - y % n) + n * 1 := by
  have h1 := Nat.div_add_mod y n
  have h2 := Nat.mod_lt y hn
  omega
 have h1 := congrArg (· % n) e
 simp only [Nat.add_mul_mod_self_left] at h1
 exact h1
theorem Sub_any {l m : List Nat} (hl : Fe l) (hm : Fe m) : ∃ c, Fe c ∧ fval c % pN = (fval l + (pN - fval m % pN)) % pN ∧ ∀ w, Gives 72 #[elem l, elem m] w (elem c) :=
 ⟨_, carry_Fe rfl (mem_range5 fun j _ => subF_lt hl hm j), by rw [carry_val rfl, sub_mod (subF_val hl hm) (by decide)], Sub_walk hl hm⟩

theorem Fe_zero : Fe (List.replicate 5 0) := ⟨rfl, fun x hx => by rw [(List.mem_replicate.1 hx).2]; decide⟩
set_option maxHeartbeats 1000000 in
theorem Neg_any {m : List Nat} (hm : Fe m) : ∃ c, Fe c ∧ fval c % pN = (pN - fval m % pN) % pN ∧ ∀ w, Gives 76 #[elem m] w (elem c) := by
 obtain ⟨c, h1, h2, h3⟩ := Sub_any Fe_zero hm
 refine ⟨c, h1, ?_, fun w => ?_⟩
 ·rw [h2]
  congr 1
  rw [show fval (List.replicate 5 0) = 0 from val_replicate _ _, Nat.zero_add]
 ·have hm5 := hm.1
  have hc5 := h1.1
  have H3 := Lib.hid h3
  clear h3 h2 h1 hm
  have hE0 := Env.nil w
  go_enter Tryz.func76, Tryz.ntmps76
  repeat ((fail_if_success refine sqx ?_); go_step)
  refine wl_step (st_boxA hE0 rfl rfl rfl ?_)
  intro g0 w1 hb1 hE1
  clear hE0
  simp only [qZ]
  refine wl_step (sqA (ints .u64 (List.replicate 5 0)) hE1 ?_)
  intro g1 w2 hb2 hE2
  clear hE1
  simp only [qZ]
  repeat ((fail_if_success refine sqx ?_); go_step)
  refine wqv (v_built (k := .u64) (l := List.replicate 5 0) rfl (fun w => by kernel_rfl)) ?_
  refine wqv (vqL 1 5 hE2 Tryz.underlying53) ?_
  refine wl_step (st_gives hE2 rfl (run_call rfl Tryz.call72) (H3.out _) ?_)
  intro w3 hb3 hE3
  clear hE2
  simp only [qZ]
  refine wl_step (sqS 0 5 hE3 ?_)
  intro w4 hE4
  clear hE3
  simp only [qpB, qpC] at hE4
  simp only [qZ]
  repeat ((fail_if_success refine sqx ?_); go_step)
  refine bodyPost_ret (results_cell_row rfl _ _ _ _ _ (0, 0) _ rfl (hE4.get (i := 0) rfl) Tryz.underlying53 rfl (szqA (n := 5))) rfl ⟨rfl, hE4.below⟩
end Go.Proofs.YthddoelflmoedaaGreat
namespace Go.Proofs.YthddoelflmoedaaGreat
open Go.RowKit
set_option maxRecDepth 100000

def wpair (a : Nat) : List Nat := [a / 18446744073709551616, a % 18446744073709551616]
theorem wpair_len (a : Nat) : (wpair a).length = 2 := rfl
theorem wpair_key (a P : Nat) (h : a + P < 340282366920938463463374607431768211456) :
  sumW (a / 18446744073709551616) (P / 18446744073709551616) (carW (a % 18446744073709551616) (P % 18446744073709551616) 0) = (a + P) / 18446744073709551616 ∧
  sumW (a % 18446744073709551616) (P % 18446744073709551616) 0 = (a + P) % 18446744073709551616 := by
 unfold sumW carW
 omega

theorem Mul64_gives (x y : Nat) (hx : x < 18446744073709551616) (hy : y < 18446744073709551616) (w : World) : Gives 96 #[.int .u64 x, .int .u64 y] w (.tuple #[.int .u64 (mulHi x y : Nat), .int .u64 (mulLo x y : Nat)]) :=
 (Mul64_any x y hx hy w).mono fun e w' ⟨h1, h2⟩ => ⟨h1, by subst h2; exact Below.refl _ _⟩

set_option maxHeartbeats 1000000 in
theorem plus_any (a x y : Nat) (ha : a + x * y < 340282366920938463463374607431768211456) (hx : x < 18446744073709551616) (hy : y < 18446744073709551616) (w : World) :
  Gives 94 #[.agg (ints .u64 (wpair a)), .int .u64 x, .int .u64 y] w (.agg (ints .u64 (wpair (a + x * y)))) := by
 have hk := Lib.hid (wpair_key a (x * y) ha)
 have hc : carW (a % 18446744073709551616) (mulLo x y) 0 ≤ 1 := carW_le (Nat.mod_lt _ (by decide)) (mulLo_lt x y) (by decide)
 have hal : a % 18446744073709551616 < 18446744073709551616 := Nat.mod_lt _ (by decide)
 have hah : a / 18446744073709551616 < 18446744073709551616 := by omega
 have hw := wpair_len a
 clear ha
 have hE0 := Env.nil w
 go_enter Tryz.func94, Tryz.ntmps94
 repeat ((fail_if_success refine sqx ?_); go_step)
 refine wl_step (st_boxA hE0 rfl rfl rfl ?_)
 intro g0 w1 hb1 hE1
 clear hE0
 simp only [qZ]
 refine wl_step (sqA (ints .u64 (List.replicate 2 0)) hE1 ?_)
 intro g1 w2 hb2 hE2
 clear hE1
 simp only [qZ]
 repeat ((fail_if_success refine sqx ?_); go_step)
 refine mqA ?_
 refine mqA ?_
 refine wl_step (st_gives hE2 rfl (run_call rfl Tryz.call96) (Mul64_gives x y hx hy _) ?_)
 intro w3 hb3 hE3
 clear hE2
 simp only [qZ]
 refine mqA ?_
 refine wqv (v_extract rfl rfl rfl) ?_
 refine wqv (v_extract rfl rfl rfl) ?_
 refine mqB ?_
 refine mqB ?_
 repeat ((fail_if_success refine sqx ?_); go_step)
 refine wqv (v_fieldB (s := 0) rfl rfl Tryz.underlying126 rfl (by kernel_rfl) rfl) ?_
 refine wqv (v_cell rfl rfl Tryz.underlying50 rfl (Env.cellv (i := 1) hE3 rfl (ints_get? _ _ _ (by first | assumption | omega | (simp; omega))))) ?_
 refine mqA ?_
 refine wqv (v_extern rfl (fun w9 => run_Add64 _ _ 0 (by decide) w9)) ?_
 refine mqA ?_
 refine wqv (v_extract rfl rfl rfl) ?_
 refine wqv (v_extract rfl rfl rfl) ?_
 refine mqB ?_
 refine mqB ?_
 repeat ((fail_if_success refine sqx ?_); go_step)
 refine wqv (v_field0 (s := 0) rfl rfl Tryz.underlying126 rfl (by kernel_rfl) rfl) ?_
 refine wqv (v_cell rfl rfl Tryz.underlying50 rfl (Env.cellv (i := 1) hE3 rfl (ints_get? _ _ _ (by first | assumption | omega | (simp; omega))))) ?_
 refine mqA ?_
 refine mqA ?_
 refine wqv (v_extern rfl (fun w9 => run_Add64 _ _ _ (by first | assumption | omega) w9)) ?_
 refine mqA ?_
 refine wqv (v_extract rfl rfl rfl) ?_
 refine wqv (v_extract rfl rfl rfl) ?_
 refine mqB ?_
 repeat ((fail_if_success refine sqx ?_); go_step)
 refine mqA ?_
 refine mqA ?_
 refine wqv (v_built (k := .u64) (l := [sumW (a / 18446744073709551616) (mulHi x y) (carW (a % 18446744073709551616) (mulLo x y) 0), sumW (a % 18446744073709551616) (mulLo x y) 0]) rfl (fun w => by kernel_rfl)) ?_
 refine wl_step (sqS 0 2 hE3 ?_)
 intro w4 hE4
 clear hE3
 simp only [qpB, qpC] at hE4
 simp only [qZ]
 repeat ((fail_if_success refine sqx ?_); go_step)
 refine bodyPost_ret (results_cell_row rfl _ _ _ _ _ (0, 0) _ rfl (hE4.get (i := 0) rfl) Tryz.underlying126 rfl (szqA (n := 2))) rfl ⟨by rw [show wpair (a + x * y) = [_, _] from rfl, ← hk.out.1, ← hk.out.2]; rfl, hE4.below⟩

def wcells (A : List Nat) : List Nat := A.flatMap wpair
theorem wcells_len (A : List Nat) : (wcells A).length = A.length * 2 := by
 induction A with
 | nil => rfl
 | cons a A ih => rw [wcells, List.flatMap_cons, List.length_append, ← wcells, ih, wpair_len, List.length_cons]; omega
theorem wcells_drop (A : List Nat) : ∀ j, (wcells A).drop (j * 2) = wcells (A.drop j) := by
 induction A with
 | nil => intro j; simp [wcells]
 | cons a A ih =>
  intro j
  cases j with
  | zero => rfl
  | succ j =>
   rw [show (j + 1) * 2 = (wpair a).length + j * 2 by rw [wpair_len]; omega, wcells, List.flatMap_cons, List.drop_length_add_append]
   exact ih j
theorem wcells_take (A : List Nat) : ∀ j, (wcells A).take (j * 2) = wcells (A.take j) := by
 induction A with
 | nil => intro j; simp [wcells]
 | cons a A ih =>
  intro j
  cases j with
  | zero => rfl
  | succ j =>
   rw [show (j + 1) * 2 = (wpair a).length + j * 2 by rw [wpair_len]; omega, wcells, List.flatMap_cons, List.take_length_add_append]
   rw [List.take_succ_cons, wcells, List.flatMap_cons]
   congr 1
   exact ih j
theorem wcells_part {A : List Nat} {j : Nat} (h : j < A.length) : ((wcells A).drop (j * 2)).take 2 = wpair (A.getD j 0) := by
 rw [wcells_drop, List.drop_eq_getElem_cons h, wcells, List.flatMap_cons, List.take_left' (wpair_len _)]
 simp [List.getD, h]
theorem wcells_put {A : List Nat} {j v : Nat} (h : j < A.length) : (wcells A).take (j * 2) ++ wpair v ++ (wcells A).drop (j * 2 + 2) = wcells (A.set j v) := by
 rw [show j * 2 + 2 = (j + 1) * 2 by omega, wcells_take, wcells_drop, List.set_eq_take_append_cons_drop, if_pos h]
 simp [wcells]
theorem wcells_hi {A : List Nat} {j : Nat} (h : j < A.length) : (wcells A).getD (j * 2) 0 = A.getD j 0 / 18446744073709551616 := by
 have e := congrArg (fun l => l.getD 0 0) (wcells_part h)
 simpa [wpair, List.getD, List.getElem?_take, List.getElem?_drop] using e
theorem wcells_lo {A : List Nat} {j : Nat} (h : j < A.length) : (wcells A).getD (j * 2 + 1) 0 = A.getD j 0 % 18446744073709551616 := by
 have e := congrArg (fun l => l.getD 1 0) (wcells_part h)
 simpa [wpair, List.getD, List.getElem?_take, List.getElem?_drop] using e

def mterm (l m : List Nat) (t : Nat) : Nat := l.getD (t / 5) 0 * (if 5 ≤ t / 5 + t % 5 then 19 * m.getD (t % 5) 0 else m.getD (t % 5) 0)
def mslot (t : Nat) : Nat := (t / 5 + t % 5) % 5
def prodAcc (l m : List Nat) : Nat → List Nat
 | 0 => List.replicate 5 0
 | t + 1 => (prodAcc l m t).set (mslot t) ((prodAcc l m t).getD (mslot t) 0 + mterm l m t)
theorem prodAcc_len (l m : List Nat) (t : Nat) : (prodAcc l m t).length = 5 := by
 induction t with
 | zero => rfl
 | succ t ih => rw [prodAcc, List.length_set, ih]
theorem mterm_lt {l m : List Nat} (hl : Fe l) (hm : Fe m) (t : Nat) : mterm l m t < 162259276829213363391578010288128 := by
 unfold mterm
 have h1 : l.getD (t / 5) 0 ≤ 2251799813685312 := Nat.le_of_lt (hl.getD _)
 have h2 : (if 5 ≤ t / 5 + t % 5 then 19 * m.getD (t % 5) 0 else m.getD (t % 5) 0) ≤ 42784196460020928 := by
  have := hm.getD (t % 5)
  split <;> omega
 exact Nat.lt_of_le_of_lt (Nat.mul_le_mul h1 h2) (by decide)
theorem prodAcc_lt {l m : List Nat} (hl : Fe l) (hm : Fe m) : ∀ t j, (prodAcc l m t).getD j 0 ≤ t * 162259276829213363391578010288128
 | 0, j => by
  rw [prodAcc, List.getD_eq_getElem?_getD, List.getElem?_replicate]
  split <;> simp
 | t + 1, j => by
  have ih := prodAcc_lt hl hm t
  have ht := mterm_lt hl hm t
  rw [prodAcc]
  by_cases hj : mslot t = j
  ·subst hj
   rw [set_getD (by rw [prodAcc_len]; exact Nat.mod_lt _ (by decide))]
   have h := ih (mslot t)
   rw [Nat.add_mul, Nat.one_mul]
   exact Nat.add_le_add h (Nat.le_of_lt ht)
  ·rw [List.getD_eq_getElem?_getD, List.getElem?_set_ne hj, ← List.getD_eq_getElem?_getD]
   have h := ih j
   rw [Nat.add_mul, Nat.one_mul]
   exact Nat.le_trans h (Nat.le_add_right _ _)
theorem step5 {I K : Nat} (hK : K < 5) : (5 * I + K) / 5 = I ∧ (5 * I + K) % 5 = K := by omega

theorem prod_fits {l m : List Nat} (hl : Fe l) (hm : Fe m) {t : Nat} (ht : t < 25) (j : Nat) : (prodAcc l m t).getD j 0 + mterm l m t < 340282366920938463463374607431768211456 := by
 have h1 := prodAcc_lt hl hm t j
 have h2 := mterm_lt hl hm t
 have h3 : t * 162259276829213363391578010288128 ≤ 25 * 162259276829213363391578010288128 := Nat.mul_le_mul_right _ (by omega)
 exact Nat.lt_of_le_of_lt (Nat.add_le_add (Nat.le_trans h1 h3) (Nat.le_of_lt h2)) (by decide)

def overF (A : List Nat) (i : Nat) : Nat := val 2251799813685248 (A.take i) / 2251799813685248 ^ i
def outF (A : List Nat) (i : Nat) : Nat := val 2251799813685248 A / 2251799813685248 ^ i % 2251799813685248
theorem over_step {A : List Nat} {i : Nat} (h : i < A.length) : overF A (i + 1) = (A.getD i 0 + overF A i) / 2251799813685248 ∧ outF A i = (A.getD i 0 + overF A i) % 2251799813685248 := by
 have hp : 0 < 2251799813685248 ^ i := Nat.pow_pos (by decide)
 have e1 : val 2251799813685248 (A.take (i + 1)) / 2251799813685248 ^ i = overF A i + A.getD i 0 := by
  rw [val_take_succ _ _ _ h, overF, Nat.add_mul_div_left _ _ hp]
  simp [List.getD, h]
 constructor
 ·rw [overF, Nat.pow_succ, ← Nat.div_div_eq_div_mul, e1, Nat.add_comm]
 ·have e2 := val_take_drop 2251799813685248 A (i + 1) (by omega)
  rw [outF, e2, Nat.pow_succ, Nat.mul_assoc, Nat.add_mul_div_left _ _ hp, e1, Nat.add_mul_mod_self_left, Nat.add_comm]
theorem over_zero (A : List Nat) : overF A 0 = 0 := by simp [overF, val]
theorem over_lt {A : List Nat} (h : ∀ j, A.getD j 0 < 4056481920730334084789450257203200 + 1) : ∀ i, i ≤ A.length → overF A i < 4611686018427387904
 | 0, _ => by rw [over_zero]; decide
 | i + 1, hi => by
  rw [(over_step (by omega)).1]
  have h1 := h i
  have h2 := over_lt h i (by omega)
  rw [Nat.div_lt_iff_lt_mul (by decide)]
  exact Nat.lt_of_lt_of_le (Nat.add_lt_add h1 h2) (by decide)

def mulOut (A : List Nat) : List Nat :=
 ((((List.range 5).map (outF A)).set 0 ((overF A 5 * 19 + outF A 0) % 2251799813685248)).set 1 (outF A 1 + (overF A 5 * 19 + outF A 0) / 2251799813685248))
theorem mulOut_eq (A : List Nat) : mulOut A = [(overF A 5 * 19 + outF A 0) % 2251799813685248, outF A 1 + (overF A 5 * 19 + outF A 0) / 2251799813685248, outF A 2, outF A 3, outF A 4] := rfl
theorem mulOut_key (o a b c d e : Nat) : ((o * 19 + a) % 2251799813685248 + 2251799813685248 * (b + (o * 19 + a) / 2251799813685248 + 2251799813685248 * (c + 2251799813685248 * (d + 2251799813685248 * e)))) + pN * o =
  (a + 2251799813685248 * (b + 2251799813685248 * (c + 2251799813685248 * (d + 2251799813685248 * e)))) + 2251799813685248 ^ 5 * o := by
 have h := Nat.div_add_mod (o * 19 + a) 2251799813685248
 generalize (o * 19 + a) / 2251799813685248 = q at *
 generalize (o * 19 + a) % 2251799813685248 = r at *
 have e1 : pN * o + 19 * o = 2251799813685248 ^ 5 * o := by
  rw [← Nat.add_mul]
  rfl
 omega
theorem mulOut_val {A : List Nat} (h : A.length = 5) : fval (mulOut A) % pN = fval A % pN := by
 have hd : digs 2251799813685248 5 (fval A) = [outF A 0, outF A 1, outF A 2, outF A 3, outF A 4] := by
  simp only [digs, outF, Nat.pow_zero, Nat.div_one, Nat.div_div_eq_div_mul]
 have hv := val_digs 2251799813685248 5 (fval A)
 rw [hd] at hv
 have hover : overF A 5 = fval A / 2251799813685248 ^ 5 := by
  rw [overF, ← h, List.take_length]
 have h1 := Nat.div_add_mod (fval A) (2251799813685248 ^ 5)
 rw [← hover, ← hv] at h1
 have hk := mulOut_key (overF A 5) (outF A 0) (outF A 1) (outF A 2) (outF A 3) (outF A 4)
 rw [mulOut_eq, fval5]
 rw [← fval5 (outF A 0), Nat.add_comm (fval _)] at hk
 have h2 : fval A = fval [(overF A 5 * 19 + outF A 0) % 2251799813685248, outF A 1 + (overF A 5 * 19 + outF A 0) / 2251799813685248, outF A 2, outF A 3, outF A 4] + pN * overF A 5 := by
  rw [fval5, hk]
  exact h1.symm
 rw [h2, Nat.add_mul_mod_self_left, fval5]
theorem outF_lt (A : List Nat) (i : Nat) : outF A i < 2251799813685248 := Nat.mod_lt _ (by decide)
theorem mulOut_lt {A : List Nat} (ho : overF A 5 < 4611686018427387904) : ∀ x ∈ mulOut A, x < 9007199254740992 := by
 intro x hx
 rw [mulOut_eq] at hx
 have h0 := outF_lt A 0
 have h1 := outF_lt A 1
 have h2 := outF_lt A 2
 have h3 := outF_lt A 3
 have h4 := outF_lt A 4
 simp only [List.mem_cons, List.not_mem_nil, or_false] at hx
 rcases hx with rfl | rfl | rfl | rfl | rfl <;> omega

def prodSum (l m : List Nat) : Nat → Nat
 | 0 => 0
 | t + 1 => prodSum l m t + 2251799813685248 ^ mslot t * mterm l m t
theorem prodSum_eq (l m : List Nat) : ∀ t, fval (prodAcc l m t) = prodSum l m t
 | 0 => val_replicate _ _
 | t + 1 => by
  have hs : mslot t < (prodAcc l m t).length := by rw [prodAcc_len]; exact Nat.mod_lt _ (by decide)
  have h := val_set (B := 2251799813685248) (prodAcc l m t) (mslot t) ((prodAcc l m t).getD (mslot t) 0 + mterm l m t) hs
  rw [prodAcc, prodSum, ← prodSum_eq l m t]
  have e : (prodAcc l m t)[mslot t] = (prodAcc l m t).getD (mslot t) 0 := by simp [List.getD, hs]
  rw [e, Nat.mul_add] at h
  show val 2251799813685248 _ = val 2251799813685248 _ + _
  omega
theorem prod_poly (a b c d e a' b' c' d' e' : Nat) : prodSum [a, b, c, d, e] [a', b', c', d', e'] 25 =
  2251799813685248 ^ 0 * (a * a' + b * (19 * e') + c * (19 * d') + d * (19 * c') + e * (19 * b')) + 2251799813685248 ^ 1 * (a * b' + b * a' + c * (19 * e') + d * (19 * d') + e * (19 * c')) +
  2251799813685248 ^ 2 * (a * c' + b * b' + c * a' + d * (19 * e') + e * (19 * d')) + 2251799813685248 ^ 3 * (a * d' + b * c' + c * b' + d * a' + e * (19 * e')) + 2251799813685248 ^ 4 * (a * e' + b * d' + c * c' + d * b' + e * a') := by
 have h : prodSum [a, b, c, d, e] [a', b', c', d', e'] 25 =
  0 + 2251799813685248 ^ 0 * (a * a') + 2251799813685248 ^ 1 * (a * b') + 2251799813685248 ^ 2 * (a * c') + 2251799813685248 ^ 3 * (a * d') + 2251799813685248 ^ 4 * (a * e') +
  2251799813685248 ^ 1 * (b * a') + 2251799813685248 ^ 2 * (b * b') + 2251799813685248 ^ 3 * (b * c') + 2251799813685248 ^ 4 * (b * d') + 2251799813685248 ^ 0 * (b * (19 * e')) +
  2251799813685248 ^ 2 * (c * a') + 2251799813685248 ^ 3 * (c * b') + 2251799813685248 ^ 4 * (c * c') + 2251799813685248 ^ 0 * (c * (19 * d')) + 2251799813685248 ^ 1 * (c * (19 * e')) +
  2251799813685248 ^ 3 * (d * a') + 2251799813685248 ^ 4 * (d * b') + 2251799813685248 ^ 0 * (d * (19 * c')) + 2251799813685248 ^ 1 * (d * (19 * d')) + 2251799813685248 ^ 2 * (d * (19 * e')) +
  2251799813685248 ^ 4 * (e * a') + 2251799813685248 ^ 0 * (e * (19 * b')) + 2251799813685248 ^ 1 * (e * (19 * c')) + 2251799813685248 ^ 2 * (e * (19 * d')) + 2251799813685248 ^ 3 * (e * (19 * e')) := rfl
 rw [h]
 simp only [Nat.mul_add]
 omega
theorem prod_val {l m : List Nat} (hl : l.length = 5) (hm : m.length = 5) : fval (prodAcc l m 25) % pN = fval l * fval m % pN := by
 obtain ⟨a, b, c, d, e, rfl⟩ := five hl
 obtain ⟨a', b', c', d', e', rfl⟩ := five hm
 have h : fval [a, b, c, d, e] * fval [a', b', c', d', e'] = fval (prodAcc [a, b, c, d, e] [a', b', c', d', e'] 25) + pN * (b * e' + c * d' + d * c' + e * b' + 2251799813685248 * (c * e' + d * d' + e * c' + 2251799813685248 * (d * e' + e * d' + 2251799813685248 * (e * e')))) := by
  rw [prodSum_eq, prod_poly, fval5, fval5]
  unfold pN
  grind
 rw [h, Nat.add_mul_mod_self_left]
end Go.Proofs.YthddoelflmoedaaGreat
namespace Go.Proofs.YthddoelflmoedaaGreat
open Go.RowKit
set_option maxRecDepth 100000

theorem or_add {x y : Nat} (h : y < 8192) : (x * 8192) ||| y = x * 8192 + y := by
 have := Nat.two_pow_add_eq_or_of_lt (i := 13) (show y < 2 ^ 13 from h) x
 rw [Nat.mul_comm x 8192]
 exact this.symm
theorem v_orAdd {a : Act} {w : World} {o : Oper} {P : Program} {t t' : TypeId} {x y : Operand} {m n : Nat} (ho : o.op = .binOp .or t x y t') (hx : a.eval x = .int .u64 ((m * 8192 : Nat) : Int)) (hy : a.eval y = .int .u64 (n : Int)) (hm : m < 2251799813685248) (hn : n < 8192) : Val P o a (.int .u64 ((m * 8192 + n : Nat) : Int)) w := by
 have h1 : m * 8192 < 2 ^ IntKind.u64.bits := by simp only [IntKind.bits]; omega
 have h2 : n < 2 ^ IntKind.u64.bits := by simp only [IntKind.bits]; omega
 have h := v_bor (P := P) (w := w) ho hx hy h1 h2 (w_or rfl h1 h2)
 rwa [or_add hn] at h

theorem word_key {A O : Nat} (hA : A < 4056481920730334084789450257203201) (hO : O < 4611686018427387904) :
  sumW (A % 18446744073709551616) O 0 = (A + O) % 18446744073709551616 ∧ A / 18446744073709551616 + carW (A % 18446744073709551616) O 0 = (A + O) / 18446744073709551616 ∧ (A + O) / 18446744073709551616 < 2251799813685248 ∧
  (A + O) % 18446744073709551616 % 2251799813685248 = (A + O) % 2251799813685248 ∧ (A + O) / 18446744073709551616 * 8192 + (A + O) % 18446744073709551616 / 2251799813685248 = (A + O) / 2251799813685248 := by
 unfold sumW carW
 omega
theorem last_key {O a : Nat} (hO : O < 4611686018427387904) (ha : a < 2251799813685248) :
  sumW (mulLo O 19) a 0 = (O * 19 + a) % 18446744073709551616 ∧ mulHi O 19 + carW (mulLo O 19) a 0 = (O * 19 + a) / 18446744073709551616 ∧ (O * 19 + a) / 18446744073709551616 < 2251799813685248 ∧
  (O * 19 + a) % 18446744073709551616 % 2251799813685248 = (O * 19 + a) % 2251799813685248 ∧ (O * 19 + a) / 18446744073709551616 * 8192 + (O * 19 + a) % 18446744073709551616 / 2251799813685248 = (O * 19 + a) / 2251799813685248 := by
 unfold sumW carW mulLo mulHi
 omega

set_option maxRecDepth 100000 in
set_option maxHeartbeats 4000000 in
theorem Mul_walk {l m : List Nat} (hl : Fe l) (hm : Fe m) (w : World) : Gives 55 #[elem l, elem m] w (elem (carryL (mulOut (prodAcc l m 25)))) := by
 have hl5 := hl.1
 have hm5 := hm.1
 have Hl := Lib.hid hl
 have Hm := Lib.hid hm
 obtain ⟨A, hAe⟩ : ∃ A, A = prodAcc l m 25 := ⟨_, rfl⟩
 have hA : ∀ j, A.getD j 0 < 4056481920730334084789450257203201 := fun j => by rw [hAe]; exact Nat.lt_of_le_of_lt (prodAcc_lt hl hm 25 j) (by decide)
 have hAl : A.length = 5 := by rw [hAe]; exact prodAcc_len l m 25
 rw [← hAe]
 have HAe := Lib.hid hAe
 have HO := Lib.hid (fun i (hi : i ≤ 5) => over_lt hA i (by omega))
 have HA := Lib.hid hA
 have HC := Lib.hid (fun w => carry_any (mulOut A) rfl (mem_mono (mulOut_lt (HO.out 5 (by decide))) (by decide)) w)
 have HF := Lib.hid (fun t (ht : t < 25) j => prod_fits hl hm ht j)
 clear hl hm hA hAe
 have hE0 := Env.nil w
 go_enter Tryz.func55, Tryz.ntmps55
 repeat ((fail_if_success refine sqx ?_); go_step)
 refine wl_step (st_boxA hE0 rfl rfl rfl ?_)
 intro g0 w1 hb1 hE1
 clear hE0
 simp only [qZ]
 refine wl_step (st_boxA hE1 rfl rfl rfl ?_)
 intro g1 w2 hb2 hE2
 clear hE1
 simp only [qZ]
 refine wl_step (sqA (ints .u64 (List.replicate 5 0)) hE2 ?_)
 intro g2 w3 hb3 hE3
 clear hE2
 simp only [qZ]
 repeat ((fail_if_success refine sqx ?_); go_step)
 refine wl_step (sqA (ints .u64 (List.replicate 10 0)) hE3 ?_)
 intro g3 w4 hb4 hE4
 clear hE3
 simp only [qZ]
 repeat ((fail_if_success refine sqx ?_); go_step)
 refine wqv (v_field0 (s := 4) rfl rfl Tryz.underlying53 rfl (by kernel_rfl) rfl) ?_
 refine wqv (vqL 3 5 hE4 Tryz.underlying51) ?_
 refine wqv (v_moveC (.inl rfl)) ?_
 go_wp2
 go_loopw [21] (fun i wr => ∃ I : Nat, I ≤ 5 ∧ i = .int .i64 I ∧ Env w [⟨g3, 127, ints .u64 (wcells (prodAcc l m (5 * I)))⟩, ⟨g2, 53, ints .u64 (List.replicate 5 0)⟩, ⟨g1, 53, ints .u64 m⟩, ⟨g0, 53, ints .u64 l⟩] wr) (fun i _ => 5 - (intOf i).toNat)
 case atStart => exact ⟨0, Nat.zero_le _, rfl, hE4⟩
 case round =>
  clear hE4
  obtain ⟨I, hI, rfl, hE0⟩ := hrel
  by_cases hI5 : I < 5
  ·have hlI := Hl.out.getD I
   repeat ((fail_if_success refine sqx ?_); go_step)
   refine wqv (v_lss (n := 5) rfl rfl rfl) ?_
   repeat ((fail_if_success refine sqx ?_); go_step)
   refine mqA ?_
   refine wqv (v_idx rfl rfl rfl Tryz.underlying51 (by kernel_rfl : _ = some Tryz.t50) rfl Tryz.underlying50 (by first | assumption | simp) (by first | assumption | omega)) ?_
   refine mqB ?_
   refine mqB ?_
   repeat ((fail_if_success refine sqx ?_); go_step)
   refine wqv (v_field0 (s := 4) rfl rfl Tryz.underlying53 rfl (by kernel_rfl) rfl) ?_
   refine wqv (vqL 2 5 hE0 Tryz.underlying51) ?_
   refine wqv (v_moveC (.inl rfl)) ?_
   go_wp2
   go_loopw [27] (fun i wr => ∃ K : Nat, K ≤ 5 ∧ i = .int .i64 K ∧ Env w [⟨g3, 127, ints .u64 (wcells (prodAcc l m (5 * I + K)))⟩, ⟨g2, 53, ints .u64 (List.replicate 5 0)⟩, ⟨g1, 53, ints .u64 m⟩, ⟨g0, 53, ints .u64 l⟩] wr) (fun i _ => 5 - (intOf i).toNat)
   case atStart => exact ⟨0, Nat.zero_le _, rfl, hE0⟩
   case round =>
    clear hE0
    obtain ⟨K, hK, rfl, hE0⟩ := hrel
    by_cases hK5 : K < 5
    ·have hmK := Hm.out.getD K
     have hlen := prodAcc_len l m (5 * I + K)
     have hst := step5 (I := I) hK5
     have hwl : (wcells (prodAcc l m (5 * I + K))).length = 10 := by rw [wcells_len, hlen]
     have hfit := HF.out (5 * I + K) (by omega)
     have hnext : prodAcc l m (5 * I + (K + 1)) = (prodAcc l m (5 * I + K)).set ((I + K) % 5) ((prodAcc l m (5 * I + K)).getD ((I + K) % 5) 0 + l.getD I 0 * (if 5 ≤ I + K then 19 * m.getD K 0 else m.getD K 0)) := by
      show prodAcc l m (5 * I + K + 1) = _
      rw [prodAcc, mslot, mterm, hst.1, hst.2]
     have hf2 : ∀ j, (prodAcc l m (5 * I + K)).getD j 0 + l.getD I 0 * (if 5 ≤ I + K then 19 * m.getD K 0 else m.getD K 0) < 340282366920938463463374607431768211456 := fun j => by
      have := hfit j
      rwa [mterm, hst.1, hst.2] at this
     have hl64 : l.getD I 0 < 18446744073709551616 := by omega
     clear hfit hst
     by_cases hge : 5 ≤ I + K
     ·have hs : (I + K) % 5 = I + K - 5 := by omega
      rw [if_pos hge, hs] at hnext
      have hplus := fun w => plus_any ((prodAcc l m (5 * I + K)).getD (I + K - 5) 0) (l.getD I 0) (19 * m.getD K 0) (by have := hf2 (I + K - 5); rwa [if_pos hge] at this) hl64 (by omega) w
      have Hplus := Lib.hid hplus
      have Hnext := Lib.hid hnext
      have hj : I + K - 5 < (prodAcc l m (5 * I + K)).length := by omega
      have hj2 : (I + K - 5) * 2 + 2 ≤ (wcells (prodAcc l m (5 * I + K))).length := by omega
      have hj3 : I + K - 5 < 5 := by omega
      clear hplus hnext hf2 hl64
      repeat ((fail_if_success refine sqx ?_); go_step)
      refine wqv (v_lss (n := 5) rfl rfl rfl) ?_
      repeat ((fail_if_success refine sqx ?_); go_step)
      refine mqA ?_
      refine wqv (v_idx rfl rfl rfl Tryz.underlying51 (by kernel_rfl : _ = some Tryz.t50) rfl Tryz.underlying50 (by first | assumption | simp) (by first | assumption | omega)) ?_
      refine mqB ?_
      refine mqB ?_
      repeat ((fail_if_success refine sqx ?_); go_step)
      refine mqA ?_
      refine mqA ?_
      refine wqv (v_add rfl rfl rfl (w_i64 (by omega))) ?_
      refine wqv (v_geq (n := 5) rfl rfl rfl) ?_
      repeat ((fail_if_success refine sqy ?_); go_step)
      refine cqT ?_
      skip
      repeat ((fail_if_success refine sqx ?_); go_step)
      refine mqA ?_
      refine mqA ?_
      refine wqv (v_add rfl rfl rfl (w_i64 (by omega))) ?_
      refine wqv (v_sub (n := 5) rfl rfl rfl (by first | exact w_i64s (by omega) (by omega) | exact w_i64I (by omega) (by omega))) ?_
      refine mqA ?_
      refine mqA ?_
      refine wqv (v_add rfl rfl rfl (w_i64 (by omega))) ?_
      refine wqv (v_sub (n := 5) rfl rfl rfl (by first | exact w_i64s (by omega) (by omega) | exact w_i64I (by omega) (by omega))) ?_
      refine wqv (v_indexAs (s := 2) rfl rfl rfl Tryz.underlying127 (by kernel_rfl) (by first | assumption | omega)) ?_
      refine wqv (v_loadPart (i := 0) (n := 2) hE0 rfl rfl rfl Tryz.underlying126 rfl (by kernel_rfl) (by first | assumption | (simp only [List.length_append, *]; try omega))) ?_
      rw [wcells_part hj]
      refine mqA ?_
      refine mqA ?_
      refine wqv (v_mul (m := 19) rfl rfl rfl (by first | exact w_u64 (by omega) | exact w_u64m _)) ?_
      refine wl_step (st_gives hE0 rfl (run_call rfl Tryz.call94) (Hplus.out _) ?_)
      intro w1 hb1 hE1
      clear hE0
      simp only [qZ]
      refine wqv (v_indexAs (s := 2) rfl rfl rfl Tryz.underlying127 (by kernel_rfl) (by first | assumption | omega)) ?_
      refine wl_step (st_putPart (i := 0) (n := 2) hE1 rfl rfl rfl rfl rfl (by kernel_rfl) (by first | rfl | assumption) (by first | assumption | (simp only [List.length_append, *]; try omega)) ?_)
      intro w2 hE2
      clear hE1
      simp only [qpB, qpC] at hE2
      simp only [qZ]
      rw [wcells_put hj, ← Hnext.out] at hE2
      repeat ((fail_if_success refine sqx ?_); go_step)
      refine wqv (v_add (n := 1) rfl rfl rfl (w_i64 (by omega))) ?_
      refine mqA ?_
      go_wp2
      go_roundw
      case rel => exact ⟨K + 1, by omega, rfl, hE2⟩
      case measure => simp [intOf]; omega
     ·have hs : (I + K) % 5 = I + K := by omega
      rw [if_neg hge, hs] at hnext
      have hplus := fun w => plus_any ((prodAcc l m (5 * I + K)).getD (I + K) 0) (l.getD I 0) (m.getD K 0) (by have := hf2 (I + K); rwa [if_neg hge] at this) hl64 (by omega) w
      have Hplus := Lib.hid hplus
      have Hnext := Lib.hid hnext
      have hj : I + K < (prodAcc l m (5 * I + K)).length := by omega
      have hj2 : (I + K) * 2 + 2 ≤ (wcells (prodAcc l m (5 * I + K))).length := by omega
      have hj3 : I + K < 5 := by omega
      clear hplus hnext hf2 hl64
      repeat ((fail_if_success refine sqx ?_); go_step)
      refine wqv (v_lss (n := 5) rfl rfl rfl) ?_
      repeat ((fail_if_success refine sqx ?_); go_step)
      refine mqA ?_
      refine wqv (v_idx rfl rfl rfl Tryz.underlying51 (by kernel_rfl : _ = some Tryz.t50) rfl Tryz.underlying50 (by first | assumption | simp) (by first | assumption | omega)) ?_
      refine mqB ?_
      refine mqB ?_
      repeat ((fail_if_success refine sqx ?_); go_step)
      refine mqA ?_
      refine mqA ?_
      refine wqv (v_add rfl rfl rfl (w_i64 (by omega))) ?_
      refine wqv (v_geq (n := 5) rfl rfl rfl) ?_
      repeat ((fail_if_success refine sqy ?_); go_step)
      refine cqF ?_
      skip
      repeat ((fail_if_success refine sqx ?_); go_step)
      refine mqA ?_
      refine mqA ?_
      refine wqv (v_add rfl rfl rfl (w_i64 (by omega))) ?_
      refine mqA ?_
      refine mqA ?_
      refine wqv (v_add rfl rfl rfl (w_i64 (by omega))) ?_
      refine wqv (v_indexAs (s := 2) rfl rfl rfl Tryz.underlying127 (by kernel_rfl) (by first | assumption | omega)) ?_
      refine wqv (v_loadPart (i := 0) (n := 2) hE0 rfl rfl rfl Tryz.underlying126 rfl (by kernel_rfl) (by first | assumption | (simp only [List.length_append, *]; try omega))) ?_
      rw [wcells_part hj]
      refine mqA ?_
      refine mqA ?_
      refine wl_step (st_gives hE0 rfl (run_call rfl Tryz.call94) (Hplus.out _) ?_)
      intro w1 hb1 hE1
      clear hE0
      simp only [qZ]
      refine wqv (v_indexAs (s := 2) rfl rfl rfl Tryz.underlying127 (by kernel_rfl) (by first | assumption | omega)) ?_
      refine wl_step (st_putPart (i := 0) (n := 2) hE1 rfl rfl rfl rfl rfl (by kernel_rfl) (by first | rfl | assumption) (by first | assumption | (simp only [List.length_append, *]; try omega)) ?_)
      intro w2 hE2
      clear hE1
      simp only [qpB, qpC] at hE2
      simp only [qZ]
      rw [wcells_put hj, ← Hnext.out] at hE2
      repeat ((fail_if_success refine sqx ?_); go_step)
      refine wqv (v_add (n := 1) rfl rfl rfl (w_i64 (by omega))) ?_
      refine mqA ?_
      go_wp2
      go_roundw
      case rel => exact ⟨K + 1, by omega, rfl, hE2⟩
      case measure => simp [intOf]; omega
    ·have hK' : K = 5 := by omega
     subst hK'
     repeat ((fail_if_success refine sqx ?_); go_step)
     refine wqv (v_lss (n := 5) rfl rfl rfl) ?_
     repeat ((fail_if_success refine sqx ?_); go_step)
     refine wqv (v_add (n := 1) rfl rfl rfl (w_i64 (by omega))) ?_
     refine mqA ?_
     go_wp2
     go_roundw
     case rel => exact ⟨I + 1, by omega, rfl, by rw [show 5 * (I + 1) = 5 * I + 5 by omega]; exact hE0⟩
     case measure => simp [intOf]; omega
  ·have hI' : I = 5 := by omega
   subst hI'
   have hE1 : Env w [⟨g3, 127, ints .u64 (wcells A)⟩, ⟨g2, 53, ints .u64 (List.replicate 5 0)⟩, ⟨g1, 53, ints .u64 m⟩, ⟨g0, 53, ints .u64 l⟩] wr := by rw [HAe.out]; exact hE0
   clear hE0
   have hz : outF A 0 < 2251799813685248 := outF_lt _ _
   repeat ((fail_if_success refine sqx ?_); go_step)
   refine wqv (v_lss (n := 5) rfl rfl rfl) ?_
   repeat ((fail_if_success refine sqx ?_); go_step)
   refine wl_step (sqA (ints .u64 (List.replicate 5 0)) hE1 ?_)
   intro g4 w2 hb2 hE2
   clear hE1
   simp only [qZ]
   repeat ((fail_if_success refine sqx ?_); go_step)
   refine mqC ?_
   repeat ((fail_if_success refine sqx ?_); go_step)
   refine wqv (v_moveC (.inl rfl)) ?_
   go_wp2
   go_loopw [11, 64] (fun ov i wr => ∃ k : Nat, k ≤ 5 ∧ i = .int .i64 k ∧ ov = .int .u64 (overF A k : Nat) ∧ Env w [⟨g4, 53, ints .u64 (fillR (outF A) (List.replicate 5 0) k)⟩, ⟨g3, 127, ints .u64 (wcells A)⟩, ⟨g2, 53, ints .u64 (List.replicate 5 0)⟩, ⟨g1, 53, ints .u64 m⟩, ⟨g0, 53, ints .u64 l⟩] wr) (fun _ i _ => 5 - (intOf i).toNat)
   case atStart => exact ⟨0, Nat.zero_le _, rfl, by rw [over_zero]; rfl, hE2⟩
   case round =>
    clear hE2 hI hI5
    obtain ⟨k, hk, rfl, rfl, hE0⟩ := hrel
    have hwl : (wcells A).length = 10 := by rw [wcells_len, hAl]
    have hX : (fillR (outF A) (List.replicate 5 0) k).length = 5 := fillR_len (by simp; omega)
    by_cases hk5 : k < 5
    ·have hkl : k < A.length := by omega
     have hO := HO.out k hk
     have hwk := word_key (HA.out k) hO
     have hos := over_step hkl
     have hhi := wcells_hi hkl
     have hlo := wcells_lo hkl
     have hcw : carW (A.getD k 0 % 18446744073709551616) (overF A k) 0 ≤ 1 := carW_le (Nat.mod_lt _ (by decide)) (by omega) (by decide)
     obtain ⟨Ak, hAk⟩ : ∃ x, x = A.getD k 0 := ⟨_, rfl⟩
     have hAb := HA.out k
     rw [← hAk] at hwk hos hhi hlo hcw hAb
     obtain ⟨O, hOe⟩ : ∃ O, O = overF A k := ⟨_, rfl⟩
     rw [← hOe] at hwk hos hcw hO ⊢
     clear hAk hOe
     obtain ⟨hw1, hw2, hw3, hw4, hw5⟩ := hwk
     have Hhi := Lib.hid hhi
     have Hlo := Lib.hid hlo
     have Hw1 := Lib.hid hw1
     have Hw2 := Lib.hid hw2
     have Hw4 := Lib.hid hw4
     have Hw5 := Lib.hid hw5
     have Hos := Lib.hid hos
     have hml : (Ak + O) % 18446744073709551616 < 18446744073709551616 := Nat.mod_lt _ (by decide)
     have hm2 : (Ak + O) % 18446744073709551616 / 2251799813685248 < 8192 := by omega
     have hah : Ak / 18446744073709551616 + carW (Ak % 18446744073709551616) O 0 < 18446744073709551616 := by rw [hw2]; omega
     clear hhi hlo hw1 hw2 hw4 hw5 hos hAb
     repeat ((fail_if_success refine sqx ?_); go_step)
     refine wqv (v_lss (n := 5) rfl rfl rfl) ?_
     repeat ((fail_if_success refine sqx ?_); go_step)
     refine mqA ?_
     refine mqB ?_
     repeat ((fail_if_success refine sqx ?_); go_step)
     refine mqA ?_
     refine wqv (v_indexAs (s := 2) rfl rfl rfl Tryz.underlying127 (by kernel_rfl) (by first | assumption | omega)) ?_
     refine wqv (v_fieldK (s := 0) rfl rfl Tryz.underlying126 rfl (by kernel_rfl) rfl) ?_
     refine wqv (vqC 1 hE0 Tryz.underlying50) ?_
     rw [Hlo.out]
     refine mqA ?_
     refine wqv (v_extern rfl (fun w9 => run_Add64 _ _ 0 (by decide) w9)) ?_
     refine mqA ?_
     refine wqv (v_extract rfl rfl rfl) ?_
     rw [Hw1.out]
     refine wqv (v_extract rfl rfl rfl) ?_
     refine mqB ?_
     refine mqB ?_
     repeat ((fail_if_success refine sqx ?_); go_step)
     refine mqA ?_
     refine wqv (v_indexAs (s := 2) rfl rfl rfl Tryz.underlying127 (by kernel_rfl) (by first | assumption | omega)) ?_
     refine wqv (v_field0 (s := 0) rfl rfl Tryz.underlying126 rfl (by kernel_rfl) rfl) ?_
     refine wqv (vqC 1 hE0 Tryz.underlying50) ?_
     rw [Hhi.out]
     refine mqA ?_
     refine wqv (v_add rfl rfl rfl (by first | exact w_u64 (by omega) | exact w_u64m _)) ?_
     rw [Hw2.out]
     refine mqB ?_
     repeat ((fail_if_success refine sqx ?_); go_step)
     refine mqA ?_
     refine mqA ?_
     refine wqv (v_mask (c := 2251799813685247) (s := 51) (d := 2251799813685248) rfl rfl rfl (by decide) (by decide) rfl (by simp only [IntKind.bits]; omega) (by decide)) ?_
     rw [Hw4.out]
     refine wqv (v_field0 (s := 4) rfl rfl Tryz.underlying53 rfl (by kernel_rfl) rfl) ?_
     refine wqv (vqI Tryz.underlying51) ?_
     refine wl_step (st_putN (i := 0) hE0 rfl rfl rfl rfl rfl (by kernel_rfl) (by first | assumption | omega | (simp only [List.length_set, List.length_replicate]; first | assumption | omega)) ?_)
     intro w1 hE1
     clear hE0
     simp only [qpB, qpC] at hE1
     simp only [qZ]
     repeat ((fail_if_success refine sqx ?_); go_step)
     refine mqA ?_
     refine wqv (v_shlC (s := 13) (d := 8192) rfl rfl rfl (by decide) (by decide) (by first | exact w_u64 (by omega) | exact w_u64m _)) ?_
     refine mqA ?_
     refine wqv (v_shrC (s := 51) (d := 2251799813685248) rfl rfl rfl (by decide) (by decide)) ?_
     refine wqv (v_orAdd rfl rfl rfl hw3 hm2) ?_
     rw [Hw5.out]
     refine mqB ?_
     repeat ((fail_if_success refine sqx ?_); go_step)
     refine wqv (v_add (n := 1) rfl rfl rfl (w_i64 (by omega))) ?_
     refine mqA ?_
     go_wp2
     go_roundw
     case rel => exact ⟨k + 1, by omega, rfl, by rw [Hos.out.1], by rw [fillR_set (F := outF A) (v := (Ak + O) % 2251799813685248) (by simp; omega) Hos.out.2.symm] at hE1; exact hE1⟩
     case measure => simp [intOf]; omega
    ·have hk' : k = 5 := by omega
     subst hk'
     have e : fillR (outF A) (List.replicate 5 0) 5 = (List.range 5).map (outF A) := fillR_full (outF A) (List.replicate 5 0)
     rw [e] at hE0
     have hO := HO.out 5 (by decide)
     have hlk := last_key hO (outF_lt A 0)
     have h1 := outF_lt A 1
     have hcw : carW (mulLo (overF A 5) 19) (outF A 0) 0 ≤ 1 := carW_le (mulLo_lt _ _) (by omega) (by decide)
     have hml : mulLo (overF A 5) 19 < 18446744073709551616 := mulLo_lt _ _
     obtain ⟨O, hOe⟩ : ∃ O, O = overF A 5 := ⟨_, rfl⟩
     have hmo : Hid (((((List.range 5).map (outF A)).set 0 ((O * 19 + outF A 0) % 2251799813685248)).set 1 (outF A 1 + (O * 19 + outF A 0) / 2251799813685248)) = mulOut A) := Lib.hid (by rw [hOe]; rfl)
     have hr0 : ((List.range 5).map (outF A)).getD 0 0 = outF A 0 := rfl
     have hr1 : ∀ v, (((List.range 5).map (outF A)).set 0 v).getD 1 0 = outF A 1 := fun _ => rfl
     have hrl : ((List.range 5).map (outF A)).length = 5 := rfl
     have hmol : (mulOut A).length = 5 := rfl
     have hcl : (carryL (mulOut A)).length = 5 := rfl
     rw [← hOe] at hlk hcw hml hO ⊢
     obtain ⟨hw1, hw2, hw3, hw4, hw5⟩ := hlk
     have hgiv : ∀ w, Gives 96 #[.int .u64 O, .int .u64 (19 : Nat)] w (.tuple #[.int .u64 (mulHi O 19 : Nat), .int .u64 (mulLo O 19 : Nat)]) := fun w => Mul64_gives O 19 (by omega) (by decide) w
     have Hgiv := Lib.hid hgiv
     have Hw1 := Lib.hid hw1
     have Hw2 := Lib.hid hw2
     have Hw4 := Lib.hid hw4
     have Hw5 := Lib.hid hw5
     have Hr0 := Lib.hid hr0
     have Hr1 := Lib.hid hr1
     have hmh : (O * 19 + outF A 0) % 18446744073709551616 < 18446744073709551616 := Nat.mod_lt _ (by decide)
     have hm2 : (O * 19 + outF A 0) % 18446744073709551616 / 2251799813685248 < 8192 := by omega
     have hah : mulHi O 19 + carW (mulLo O 19) (outF A 0) 0 < 18446744073709551616 := by rw [hw2]; omega
     clear hw1 hw2 hw4 hw5 hr0 hr1 hgiv hOe
     repeat ((fail_if_success refine sqx ?_); go_step)
     refine wqv (v_lss (n := 5) rfl rfl rfl) ?_
     repeat ((fail_if_success refine sqx ?_); go_step)
     refine mqA ?_
     refine wl_step (st_gives hE0 rfl (run_call rfl Tryz.call96) (Hgiv.out _) ?_)
     intro w1 hb1 hE1
     clear hE0
     simp only [qZ]
     refine mqA ?_
     refine wqv (v_extract rfl rfl rfl) ?_
     refine wqv (v_extract rfl rfl rfl) ?_
     refine mqB ?_
     refine mqB ?_
     repeat ((fail_if_success refine sqx ?_); go_step)
     refine mqA ?_
     refine wqv (v_field0 (s := 4) rfl rfl Tryz.underlying53 rfl (by kernel_rfl) rfl) ?_
     refine wqv (vqI (j := 0) Tryz.underlying51) ?_
     refine wqv (vqC 0 hE1 Tryz.underlying50) ?_
     rw [Hr0.out]
     refine wqv (v_extern rfl (fun w9 => run_Add64 _ _ 0 (by decide) w9)) ?_
     refine mqA ?_
     refine wqv (v_extract rfl rfl rfl) ?_
     rw [Hw1.out]
     refine wqv (v_extract rfl rfl rfl) ?_
     refine mqB ?_
     refine mqB ?_
     repeat ((fail_if_success refine sqx ?_); go_step)
     refine mqA ?_
     refine mqA ?_
     refine wqv (v_add rfl rfl rfl (by first | exact w_u64 (by omega) | exact w_u64m _)) ?_
     rw [Hw2.out]
     refine mqB ?_
     repeat ((fail_if_success refine sqx ?_); go_step)
     refine mqA ?_
     refine wqv (v_mask (c := 2251799813685247) (s := 51) (d := 2251799813685248) rfl rfl rfl (by decide) (by decide) rfl (by simp only [IntKind.bits]; omega) (by decide)) ?_
     rw [Hw4.out]
     refine wqv (v_field0 (s := 4) rfl rfl Tryz.underlying53 rfl (by kernel_rfl) rfl) ?_
     refine wqv (vqI (j := 0) Tryz.underlying51) ?_
     refine wl_step (st_putN (i := 0) hE1 rfl rfl rfl rfl rfl (by kernel_rfl) (by first | assumption | omega | (simp only [List.length_set, List.length_replicate]; first | assumption | omega)) ?_)
     intro w2 hE2
     clear hE1
     simp only [qpB, qpC] at hE2
     simp only [qZ]
     repeat ((fail_if_success refine sqx ?_); go_step)
     refine wqv (v_field0 (s := 4) rfl rfl Tryz.underlying53 rfl (by kernel_rfl) rfl) ?_
     refine wqv (vqI (j := 1) Tryz.underlying51) ?_
     refine wqv (vqC 0 hE2 Tryz.underlying50) ?_
     rw [Hr1.out]
     refine mqA ?_
     refine wqv (v_shlC (s := 13) (d := 8192) rfl rfl rfl (by decide) (by decide) (by first | exact w_u64 (by omega) | exact w_u64m _)) ?_
     refine mqA ?_
     refine wqv (v_shrC (s := 51) (d := 2251799813685248) rfl rfl rfl (by decide) (by decide)) ?_
     refine wqv (v_orAdd rfl rfl rfl hw3 hm2) ?_
     rw [Hw5.out]
     refine wqv (v_add rfl rfl rfl (by first | exact w_u64 (by omega) | exact w_u64m _)) ?_
     refine wqv (v_field0 (s := 4) rfl rfl Tryz.underlying53 rfl (by kernel_rfl) rfl) ?_
     refine wqv (vqI (j := 1) Tryz.underlying51) ?_
     refine wl_step (st_putN (i := 0) hE2 rfl rfl rfl rfl rfl (by kernel_rfl) (by first | assumption | omega | (simp only [List.length_set, List.length_replicate]; first | assumption | omega)) ?_)
     intro w3 hE3
     clear hE2
     simp only [qpB, qpC] at hE3
     simp only [qZ]
     rw [hmo.out] at hE3
     repeat ((fail_if_success refine sqx ?_); go_step)
     refine wqv (vqL 0 5 hE3 Tryz.underlying53) ?_
     refine wl_step (st_gives hE3 rfl (run_call rfl Tryz.call97) (HC.out _) ?_)
     intro w4 hb4 hE4
     clear hE3
     simp only [qZ]
     refine wl_step (sqS 2 5 hE4 ?_)
     intro w5 hE5
     clear hE4
     simp only [qpB, qpC] at hE5
     simp only [qZ]
     repeat ((fail_if_success refine sqx ?_); go_step)
     refine bodyPost_ret (results_cell_row rfl _ _ _ _ _ (0, 0) _ rfl (hE5.get (i := 2) rfl) Tryz.underlying53 rfl (szqA (n := 5))) rfl ⟨rfl, hE5.below⟩
theorem Mul_any {l m : List Nat} (hl : Fe l) (hm : Fe m) : ∃ c, Fe c ∧ fval c % pN = fval l * fval m % pN ∧ ∀ w, Gives 55 #[elem l, elem m] w (elem c) := by
 have hA : ∀ j, (prodAcc l m 25).getD j 0 < 4056481920730334084789450257203201 := fun j => Nat.lt_of_le_of_lt (prodAcc_lt hl hm 25 j) (by decide)
 have hlen := prodAcc_len l m 25
 exact ⟨_, carry_Fe rfl (mulOut_lt (over_lt hA 5 (Nat.le_of_eq hlen.symm))), by rw [carry_val rfl, mulOut_val hlen, prod_val hl.1 hm.1], Mul_walk hl hm⟩
end Go.Proofs.YthddoelflmoedaaGreat
namespace Go.Proofs.YthddoelflmoedaaGreat
open Go.RowKit
set_option maxRecDepth 100000

theorem or_shift {n x s : Nat} (h : n < 2 ^ s) : n ||| (x * 2 ^ s) = n + x * 2 ^ s := by
 have := Nat.two_pow_add_eq_or_of_lt h x
 rw [Nat.or_comm, Nat.mul_comm x, ← this, Nat.add_comm]
theorem v_orShift {a : Act} {w : World} {o : Oper} {P : Program} {t t' : TypeId} {x y : Operand} {m n s : Nat} {k : IntKind} (ho : o.op = .binOp .or t x y t') (hx : a.eval x = .int k (n : Int)) (hy : a.eval y = .int k ((m * 2 ^ s : Nat) : Int)) (hk : k.signed = false) (hn : n < 2 ^ s) (hs : 2 ^ s ≤ 2 ^ k.bits) (hm : m * 2 ^ s < 2 ^ k.bits) :
  Val P o a (.int k ((n + m * 2 ^ s : Nat) : Int)) w := by
 have h2 : n < 2 ^ k.bits := Nat.lt_of_lt_of_le hn hs
 have h := v_bor (P := P) (w := w) ho hx hy h2 hm (w_or hk h2 hm)
 rwa [or_shift hn] at h

def loadF (V q i : Nat) : Nat := V / 256 ^ q % 256 ^ i
theorem loadF_step (V q i : Nat) : loadF V q (i + 1) = loadF V q i + V / 256 ^ (q + i) % 256 * 2 ^ (8 * i) := by
 unfold loadF
 rw [Nat.pow_succ, Nat.mod_mul, Nat.div_div_eq_div_mul, ← Nat.pow_add, Nat.pow_mul 2 8 i, Nat.mul_comm (256 ^ i)]
theorem loadF_lt (V q i : Nat) : loadF V q i < 2 ^ (8 * i) := by
 unfold loadF
 rw [Nat.pow_mul 2 8 i]
 exact Nat.mod_lt _ (Nat.pow_pos (by decide))
theorem byte_fits {c i : Nat} (hc : c < 256) (hi : i < 8) : c * 2 ^ (8 * i) < 18446744073709551616 := by
 have h1 : 2 ^ (8 * i) ≤ 2 ^ 56 := Nat.pow_le_pow_right (by decide) (by omega)
 exact Nat.lt_of_le_of_lt (Nat.mul_le_mul (show c ≤ 255 by omega) h1) (by decide)

set_option maxHeartbeats 2000000 in
theorem load_any (b : List Nat) (bit : Nat) (hb : b.length = 32) (db : Digs 256 b) (hbit : bit < 256) (w : World) :
  Gives 90 #[.agg (ints .u8 b), .int .i64 bit] w (.int .u64 (val 256 b / 256 ^ (bit / 8) % 18446744073709551616 / 2 ^ (bit % 8) : Nat)) := by
 have Hdb := Lib.hid db
 clear db
 have hE0 := Env.nil w
 go_enter Tryz.func90, Tryz.ntmps90
 repeat ((fail_if_success refine sqx ?_); go_step)
 refine wl_step (st_boxA hE0 rfl rfl rfl ?_)
 intro g0 w1 hb1 hE1
 clear hE0
 simp only [qZ]
 refine mqC ?_
 repeat ((fail_if_success refine sqx ?_); go_step)
 refine mqC ?_
 repeat ((fail_if_success refine sqx ?_); go_step)
 refine mqC ?_
 go_wp2
 go_loopw [5, 6] (fun n i wr => ∃ k : Nat, k ≤ 8 ∧ i = .int .i64 k ∧ n = .int .u64 (loadF (val 256 b) (bit / 8) k : Nat) ∧ Env w [⟨g0, 22, ints .u8 b⟩] wr) (fun _ i _ => 8 - (intOf i).toNat)
 case atStart => exact ⟨0, Nat.zero_le _, rfl, by rw [loadF, Nat.pow_zero, Nat.mod_one]; rfl, hE1⟩
 case round =>
  clear hE1
  obtain ⟨k, hk, rfl, rfl, hE0⟩ := hrel
  by_cases hk8 : k < 8
  ·have hst := loadF_step (val 256 b) (bit / 8) k
   have hlt := loadF_lt (val 256 b) (bit / 8) k
   have hdm := val_div_mod Hdb.out (by decide) (bit / 8 + k)
   have hgl := Hdb.out.getD (by decide) (bit / 8 + k)
   by_cases hin : bit / 8 + k < 32
   ·have hjb : bit / 8 + k < b.length := by omega
    rw [hdm] at hst
    have hbf := byte_fits hgl hk8
    have hsp : 2 ^ (8 * k) ≤ 2 ^ IntKind.u64.bits := Nat.pow_le_pow_right (by decide) (by simp only [IntKind.bits]; omega)
    have hbf' : b.getD (bit / 8 + k) 0 * 2 ^ (8 * k) < 2 ^ IntKind.u64.bits := hbf
    have Hst := Lib.hid hst
    clear hst hdm
    repeat ((fail_if_success refine sqx ?_); go_step)
    refine mqA ?_
    refine wqv (v_lss (n := 8) rfl rfl rfl) ?_
    repeat ((fail_if_success refine sqx ?_); go_step)
    refine mqA ?_
    refine wqv (v_quo (n := 8) rfl rfl rfl (by omega) (w_i64 (by omega))) ?_
    refine mqA ?_
    refine wqv (v_add rfl rfl rfl (w_i64 (by omega))) ?_
    refine mqB ?_
    repeat ((fail_if_success refine sqx ?_); go_step)
    refine mqA ?_
    refine wqv (v_lss (n := 32) rfl rfl rfl) ?_
    repeat ((fail_if_success refine sqy ?_); go_step)
    refine cqT ?_
    skip
    repeat ((fail_if_success refine sqx ?_); go_step)
    refine mqA ?_
    refine mqA ?_
    refine wqv (vqI Tryz.underlying22) ?_
    refine wqv (vqC 0 hE0 Tryz.underlying5) ?_
    refine wqv (v_convInt rfl rfl Tryz.underlying5 Tryz.underlying50 (by first | exact w_u64 (by omega) | exact w_u64m _)) ?_
    refine mqA ?_
    refine wqv (v_mul (m := 8) rfl rfl rfl (w_i64 (by omega))) ?_
    refine wqv (v_shl rfl rfl rfl (by simp only [IntKind.bits]; omega) (w_u64 hbf)) ?_
    refine wqv (v_orShift rfl rfl rfl rfl hlt hsp hbf') ?_
    rw [← Hst.out]
    refine mqB ?_
    repeat ((fail_if_success refine sqx ?_); go_step)
    refine mqA ?_
    refine wqv (v_add (n := 1) rfl rfl rfl (w_i64 (by omega))) ?_
    refine mqB ?_
    go_wp2
    go_roundw
    case rel => exact ⟨k + 1, by omega, rfl, rfl, hE0⟩
    case measure => simp [intOf]; omega
   ·have h0 : b.getD (bit / 8 + k) 0 = 0 := by rw [List.getD_eq_getElem?_getD, List.getElem?_eq_none (by omega)]; rfl
    rw [hdm, h0, Nat.zero_mul, Nat.add_zero] at hst
    have Hst := Lib.hid hst
    clear hst hdm h0 hgl hlt
    repeat ((fail_if_success refine sqx ?_); go_step)
    refine mqA ?_
    refine wqv (v_lss (n := 8) rfl rfl rfl) ?_
    repeat ((fail_if_success refine sqx ?_); go_step)
    refine mqA ?_
    refine wqv (v_quo (n := 8) rfl rfl rfl (by omega) (w_i64 (by omega))) ?_
    refine mqA ?_
    refine wqv (v_add rfl rfl rfl (w_i64 (by omega))) ?_
    refine mqB ?_
    repeat ((fail_if_success refine sqx ?_); go_step)
    refine mqA ?_
    refine wqv (v_lss (n := 32) rfl rfl rfl) ?_
    repeat ((fail_if_success refine sqy ?_); go_step)
    refine cqF ?_
    skip
    repeat ((fail_if_success refine sqx ?_); go_step)
    refine mqA ?_
    refine wqv (v_add (n := 1) rfl rfl rfl (w_i64 (by omega))) ?_
    refine mqB ?_
    go_wp2
    go_roundw
    case rel => exact ⟨k + 1, by omega, rfl, by rw [Hst.out]; rfl, hE0⟩
    case measure => simp [intOf]; omega
  ·have hk' : k = 8 := by omega
   subst hk'
   have hfin : loadF (val 256 b) (bit / 8) 8 = val 256 b / 256 ^ (bit / 8) % 18446744073709551616 := rfl
   rw [hfin]
   have hm8 : bit % 8 < 8 := Nat.mod_lt _ (by decide)
   clear hfin
   repeat ((fail_if_success refine sqx ?_); go_step)
   refine mqA ?_
   refine wqv (v_lss (n := 8) rfl rfl rfl) ?_
   repeat ((fail_if_success refine sqx ?_); go_step)
   refine mqA ?_
   refine mqA ?_
   refine wqv (v_rem (n := 8) rfl rfl rfl (by omega)) ?_
   refine wqv (v_shr rfl rfl rfl (by simp only [IntKind.bits]; omega)) ?_
   refine mqB ?_
   repeat ((fail_if_success refine sqx ?_); go_step)
   go_returns
   exact ⟨rfl, hE0.below⟩

theorem of_limb (V i : Nat) (hi : i < 5) : V / 256 ^ (51 * i / 8) % 18446744073709551616 / 2 ^ (51 * i % 8) % 2251799813685248 = V / 2251799813685248 ^ i % 2251799813685248 := by
 have key : ∀ q r s, r + 51 ≤ 64 → 8 * q + r = s → V / 256 ^ q % 2 ^ 64 / 2 ^ r % 2 ^ 51 = V / 2 ^ s % 2 ^ 51 := by
  intro q r s hr hs
  have e : 2 ^ 64 = 2 ^ r * 2 ^ (64 - r) := by rw [← Nat.pow_add]; congr 1; omega
  rw [e, Nat.mod_mul_right_div_self, Nat.div_div_eq_div_mul, show (256 : Nat) = 2 ^ 8 from rfl, ← Nat.pow_mul, ← Nat.pow_add, hs]
  exact Nat.mod_mod_of_dvd _ (Nat.pow_dvd_pow 2 (by omega))
 have h := key (51 * i / 8) (51 * i % 8) (51 * i) (by omega) (by omega)
 rw [Nat.pow_mul 2 51 i] at h
 exact h

def digF (V i : Nat) : Nat := V / 2251799813685248 ^ i % 2251799813685248
theorem digF_all (V : Nat) : (List.range 5).map (digF V) = digs 2251799813685248 5 V := by
 rw [range5]
 simp only [digs, digF, Nat.pow_zero, Nat.div_one, Nat.div_div_eq_div_mul]
theorem digs_Fe (V : Nat) : Fe (digs 2251799813685248 5 V) :=
 ⟨digs_length _ _ _, fun x hx => Nat.lt_trans (digs_Digs (by decide) 5 V x hx) (by decide)⟩
theorem digs_fval (V : Nat) : fval (digs 2251799813685248 5 V) = V % 57896044618658097711785492504343953926634992332820282019728792003956564819968 := val_digs _ _ _

set_option maxHeartbeats 2000000 in
theorem Of_any (b : List Nat) (hb : b.length = 32) (db : Digs 256 b) (w : World) : Gives 49 #[.agg (ints .u8 b)] w (elem (digs 2251799813685248 5 (val 256 b))) := by
 have hload := fun bit (h : bit < 256) w => load_any b bit hb db h w
 have Hload := Lib.hid hload
 clear hload
 have hE0 := Env.nil w
 go_enter Tryz.func49, Tryz.ntmps49
 repeat ((fail_if_success refine sqx ?_); go_step)
 refine wl_step (st_boxA hE0 rfl rfl rfl ?_)
 intro g0 w1 hb1 hE1
 clear hE0
 simp only [qZ]
 refine wl_step (sqA (ints .u64 (List.replicate 5 0)) hE1 ?_)
 intro g1 w2 hb2 hE2
 clear hE1
 simp only [qZ]
 repeat ((fail_if_success refine sqx ?_); go_step)
 refine wl_step (sqA (ints .u64 (List.replicate 5 0)) hE2 ?_)
 intro g2 w3 hb3 hE3
 clear hE2
 simp only [qZ]
 repeat ((fail_if_success refine sqx ?_); go_step)
 refine wqv (v_moveC (.inl rfl)) ?_
 go_wp2
 go_loopw [5] (fun i wr => ∃ k : Nat, k ≤ 5 ∧ i = .int .i64 k ∧ Env w [⟨g2, 53, ints .u64 (fillR (digF (val 256 b)) (List.replicate 5 0) k)⟩, ⟨g1, 53, ints .u64 (List.replicate 5 0)⟩, ⟨g0, 22, ints .u8 b⟩] wr) (fun i _ => 5 - (intOf i).toNat)
 case atStart => exact ⟨0, Nat.zero_le _, rfl, hE3⟩
 case round =>
  clear hE3
  obtain ⟨k, hk, rfl, hE0⟩ := hrel
  have hX : (fillR (digF (val 256 b)) (List.replicate 5 0) k).length = 5 := fillR_len (by simp; omega)
  by_cases hk5 : k < 5
  ·have Hlimb := Lib.hid (of_limb (val 256 b) k hk5)
   have hml : val 256 b / 256 ^ (51 * k / 8) % 18446744073709551616 / 2 ^ (51 * k % 8) < 18446744073709551616 := Nat.lt_of_le_of_lt (Nat.div_le_self _ _) (Nat.mod_lt _ (by decide))
   repeat ((fail_if_success refine sqx ?_); go_step)
   refine wqv (v_lss (n := 5) rfl rfl rfl) ?_
   repeat ((fail_if_success refine sqx ?_); go_step)
   refine mqA ?_
   refine mqB ?_
   repeat ((fail_if_success refine sqx ?_); go_step)
   refine mqA ?_
   refine wqv (vqL 2 32 hE0 Tryz.underlying22) ?_
   refine mqA ?_
   refine wqv (v_mul (m := 51) rfl rfl rfl (w_i64 (by omega))) ?_
   refine wl_step (st_gives hE0 rfl (run_call rfl Tryz.call90) (Hload.out (51 * k) (by omega) _) ?_)
   intro w1 hb1 hE1
   clear hE0
   simp only [qZ]
   refine wqv (v_mask (c := 2251799813685247) (s := 51) (d := 2251799813685248) rfl rfl rfl (by decide) (by decide) rfl (by simp only [IntKind.bits]; omega) (by decide)) ?_
   refine wqv (v_field0 (s := 4) rfl rfl Tryz.underlying53 rfl (by kernel_rfl) rfl) ?_
   refine wqv (vqI Tryz.underlying51) ?_
   refine wl_step (st_putN (i := 0) hE1 rfl rfl rfl rfl rfl (by kernel_rfl) (by first | assumption | omega | (simp only [List.length_set, List.length_replicate]; first | assumption | omega)) ?_)
   intro w2 hE2
   clear hE1
   simp only [qpB, qpC] at hE2
   simp only [qZ]
   repeat ((fail_if_success refine sqx ?_); go_step)
   refine wqv (v_add (n := 1) rfl rfl rfl (w_i64 (by omega))) ?_
   refine mqA ?_
   go_wp2
   go_roundw
   case rel => exact ⟨k + 1, by omega, rfl, by rw [fillR_set (F := digF (val 256 b)) (by simp; omega) Hlimb.out] at hE2; exact hE2⟩
   case measure => simp [intOf]; omega
  ·have hk' : k = 5 := by omega
   subst hk'
   have e : fillR (digF (val 256 b)) (List.replicate 5 0) 5 = digs 2251799813685248 5 (val 256 b) := (fillR_full (digF (val 256 b)) (List.replicate 5 0)).trans (digF_all _)
   rw [e] at hE0
   repeat ((fail_if_success refine sqx ?_); go_step)
   refine wqv (v_lss (n := 5) rfl rfl rfl) ?_
   repeat ((fail_if_success refine sqx ?_); go_step)
   refine wqv (vqL 0 5 hE0 Tryz.underlying53) ?_
   refine wl_step (sqS 1 5 hE0 ?_)
   intro w1 hE1
   clear hE0
   simp only [qpB, qpC] at hE1
   simp only [qZ]
   repeat ((fail_if_success refine sqx ?_); go_step)
   refine bodyPost_ret (results_cell_row rfl _ _ _ _ _ (0, 0) _ rfl (hE1.get (i := 1) rfl) Tryz.underlying53 rfl (szqA (n := 5))) rfl ⟨rfl, hE1.below⟩

set_option maxHeartbeats 1000000 in
theorem Small_walk (n : Nat) (w : World) : Gives 70 #[.int .u32 n] w (elem [n % 18446744073709551616, 0, 0, 0, 0]) := by
 have hE0 := Env.nil w
 go_enter Tryz.func70, Tryz.ntmps70
 repeat ((fail_if_success refine sqx ?_); go_step)
 refine wl_step (sqA (ints .u64 (List.replicate 5 0)) hE0 ?_)
 intro g0 w1 hb1 hE1
 clear hE0
 simp only [qZ]
 repeat ((fail_if_success refine sqx ?_); go_step)
 refine mqA ?_
 refine wqv (v_convInt rfl rfl Tryz.underlying39 Tryz.underlying50 (w_u64m n)) ?_
 refine wqv (v_built (k := .u64) (l := [n % 18446744073709551616, 0, 0, 0, 0]) rfl (fun w => by kernel_rfl)) ?_
 refine wqv (v_built (k := .u64) (l := [n % 18446744073709551616, 0, 0, 0, 0]) rfl (fun w => by kernel_rfl)) ?_
 refine wl_step (sqS 0 5 hE1 ?_)
 intro w2 hE2
 clear hE1
 simp only [qpB, qpC] at hE2
 simp only [qZ]
 repeat ((fail_if_success refine sqx ?_); go_step)
 refine bodyPost_ret (results_cell_row rfl _ _ _ _ _ (0, 0) _ rfl (hE2.get (i := 0) rfl) Tryz.underlying53 rfl (szqA (n := 5))) rfl ⟨rfl, hE2.below⟩
theorem Small_any {n : Nat} (hn : n < 4294967296) : Fe [n, 0, 0, 0, 0] ∧ fval [n, 0, 0, 0, 0] = n ∧ ∀ w, Gives 70 #[.int .u32 n] w (elem [n, 0, 0, 0, 0]) :=
 ⟨Fe.mk (by omega) (by decide) (by decide) (by decide) (by decide), by rw [fval5]; omega, fun w => by
  have h := Small_walk n w
  rwa [Nat.mod_eq_of_lt (Nat.lt_trans hn (by decide))] at h⟩
end Go.Proofs.YthddoelflmoedaaGreat
namespace Go.Proofs.YthddoelflmoedaaGreat
open Go.RowKit
set_option maxRecDepth 100000

def askF (A : List Nat) (i : Nat) : Nat := (val 2251799813685248 (A.take i) + 19) / 2251799813685248 ^ i
theorem askF_zero (A : List Nat) : askF A 0 = 19 := by simp [askF, val]
theorem askF_step {A : List Nat} {i : Nat} (h : i < A.length) : askF A (i + 1) = (A.getD i 0 + askF A i) / 2251799813685248 := by
 have hp : 0 < 2251799813685248 ^ i := Nat.pow_pos (by decide)
 unfold askF
 rw [Nat.pow_succ, ← Nat.div_div_eq_div_mul, val_take_succ _ _ _ h]
 have e : val 2251799813685248 (A.take i) + 2251799813685248 ^ i * A[i] + 19 = (val 2251799813685248 (A.take i) + 19) + 2251799813685248 ^ i * A[i] := by omega
 rw [e, Nat.add_mul_div_left _ _ hp, Nat.add_comm]
 simp [List.getD, h]
theorem askF_lt {A : List Nat} (h : ∀ i, A.getD i 0 < 2251799813685312) : ∀ k, k ≤ A.length → askF A k < 2251799813685248
 | 0, _ => by rw [askF_zero]; decide
 | k + 1, hk => by
  have h1 := h k
  have h2 := askF_lt h k (by omega)
  rw [askF_step (by omega)]
  omega
theorem Fe_val_lt {l : List Nat} (h : Fe l) : fval l < 2 * pN := by
 obtain ⟨a, b, c, d, e, rfl, ha, hb, hc, hd, he⟩ := h.open
 rw [fval5]
 unfold pN
 omega
theorem least_key {V q : Nat} (hV : V < 2 * pN) (hq : q = (V + 19) / 57896044618658097711785492504343953926634992332820282019728792003956564819968) : q ≤ 1 ∧ (V + 19 * q) % 57896044618658097711785492504343953926634992332820282019728792003956564819968 = V % pN := by
 have e : pN + 19 = 57896044618658097711785492504343953926634992332820282019728792003956564819968 := by decide
 rw [← e] at hq ⊢
 rcases Nat.lt_or_ge V pN with h | h
 ·have : q = 0 := by rw [hq]; exact Nat.div_eq_of_lt (by omega)
  subst this
  rw [Nat.mul_zero, Nat.add_zero, Nat.mod_eq_of_lt h, Nat.mod_eq_of_lt (by omega)]
  exact ⟨by decide, rfl⟩
 ·have : q = 1 := by
   rw [hq]
   exact Nat.div_eq_of_lt_le (by omega) (by omega)
  subst this
  have e2 : V + 19 * 1 = (V - pN) + (pN + 19) := by omega
  rw [e2, Nat.add_mod_right, Nat.mod_eq_of_lt (show V - pN < pN + 19 by omega), Nat.mod_eq_sub_mod h, Nat.mod_eq_of_lt (show V - pN < pN by omega)]
  exact ⟨by decide, rfl⟩

def raise0 (A : List Nat) (q : Nat) : List Nat := A.set 0 (A.getD 0 0 + 19 * q)
theorem raise0_val {A : List Nat} (h : A.length = 5) (q : Nat) : fval (raise0 A q) = fval A + 19 * q := by
 obtain ⟨a, b, c, d, e, rfl⟩ := five h
 show fval [a + 19 * q, b, c, d, e] = _
 rw [fval5, fval5]
 omega
def runF (R : List Nat) (i : Nat) : List Nat := (fillR (outF R) R i).set i (R.getD i 0 + overF R i)
theorem runF_len {R : List Nat} {i : Nat} (h : i ≤ R.length) : (runF R i).length = R.length := by rw [runF, List.length_set, fillR_len h]
theorem runF_get {R : List Nat} {i : Nat} (h : i < R.length) : (runF R i).getD i 0 = R.getD i 0 + overF R i := set_getD (by rw [fillR_len (by omega)]; exact h)
theorem runF_next {R : List Nat} {i : Nat} (h : i < R.length) : (runF R i).getD (i + 1) 0 = R.getD (i + 1) 0 := by
 rw [runF, List.getD_eq_getElem?_getD, List.getElem?_set_ne (by omega), ← List.getD_eq_getElem?_getD, fillR_ge (by omega)]
theorem runF_zero {R : List Nat} (h : 0 < R.length) : runF R 0 = R := by
 rw [runF, fillR_zero, over_zero, Nat.add_zero]
 simp [List.getD, h]
theorem runF_step {R : List Nat} {i : Nat} (h : i + 1 < R.length) : ((runF R i).set (i + 1) (R.getD (i + 1) 0 + (R.getD i 0 + overF R i) / 2251799813685248)).set i ((R.getD i 0 + overF R i) % 2251799813685248) = runF R (i + 1) := by
 obtain ⟨h1, h2⟩ := over_step (A := R) (i := i) (by omega)
 rw [← h1, ← h2, runF, runF, List.set_comm _ _ (by omega), List.set_set, fillR_set (by omega) rfl]
theorem runF_last {R : List Nat} (h : R.length = 5) : (runF R 4).set 4 ((R.getD 4 0 + overF R 4) % 2251799813685248) = digs 2251799813685248 5 (fval R) := by
 have h2 := (over_step (A := R) (i := 4) (by omega)).2
 rw [← h2, runF, List.set_set, fillR_set (by omega) rfl]
 have e := fillR_full (outF R) R
 rw [h] at e
 rw [e]
 exact digF_all (fval R)

theorem least_over {R : List Nat} (hR : ∀ x ∈ R, x < 9007199254740992) : ∀ i, i ≤ R.length → overF R i < 4294967296
 | 0, _ => by rw [over_zero]; decide
 | i + 1, hi => by
  have h1 := getD_lt hR (by decide) i
  have h2 := least_over hR i (by omega)
  rw [(over_step (by omega)).1]
  omega

set_option maxHeartbeats 4000000 in
theorem least_any {l : List Nat} (hl : Fe l) (w : World) : Gives 98 #[elem l] w (elem (digs 2251799813685248 5 (fval l % pN))) := by
 have hl5 := hl.1
 have hc1 := carry_Fe hl.1 (mem_mono hl.2 (by decide))
 have hc2 := carry_Fe hc1.1 (mem_mono hc1.2 (by decide))
 have hcA := Lib.hid (fun w => carry_any l hl.1 (mem_mono hl.2 (by decide)) w)
 have hcB := Lib.hid (fun w => carry_any (carryL l) hc1.1 (mem_mono hc1.2 (by decide)) w)
 have hv : fval (carryL (carryL l)) % pN = fval l % pN := by rw [carry_val hc1.1, carry_val hl.1]
 have hlen1 := hc1.1
 obtain ⟨A, hA⟩ : ∃ A, A = carryL (carryL l) := ⟨_, rfl⟩
 rw [← hA] at hc2 hv hcB
 have hA5 := hc2.1
 have hVlt := Fe_val_lt hc2
 obtain ⟨q, hq⟩ : ∃ q, q = askF A 5 := ⟨_, rfl⟩
 have hq5 : q = (fval A + 19) / 57896044618658097711785492504343953926634992332820282019728792003956564819968 := by
  rw [hq, askF, List.take_of_length_le (by omega)]
 obtain ⟨hq1, hq2⟩ := least_key hVlt hq5
 have hR5 : (raise0 A q).length = 5 := by rw [raise0, List.length_set, hA5]
 have hRb : ∀ x ∈ raise0 A q, x < 9007199254740992 := by
  intro x hx
  rcases List.mem_or_eq_of_mem_set hx with h | h
  ·exact Nat.lt_trans (hc2.2 x h) (by decide)
  ·rw [h]
   have := hc2.getD 0
   omega
 have hend : digs 2251799813685248 5 (fval (raise0 A q)) = digs 2251799813685248 5 (fval l % pN) := by
  rw [raise0_val hA5, ← hv, ← hq2]
  exact (digs_mod 2251799813685248 5 _).symm
 have Hover := Lib.hid (least_over hRb)
 have HRb := Lib.hid hRb
 have Hc2 := Lib.hid hc2
 have Hq := Lib.hid hq
 have Hend := Lib.hid hend
 obtain ⟨R, hR⟩ : ∃ R, R = raise0 A q := ⟨_, rfl⟩
 have HR := Lib.hid hR
 rw [← hR] at hR5 Hend Hover HRb
 have Hlast := Lib.hid (runF_last hR5)
 have hAb := fun i => hc2.getD i
 have HAb := Lib.hid hAb
 clear hl hc1 hc2 hA hv hVlt hq hq5 hq2 hRb hend hR hAb
 have hE0 := Env.nil w
 go_enter Tryz.func98, Tryz.ntmps98
 repeat ((fail_if_success refine sqx ?_); go_step)
 refine wl_step (st_boxA hE0 rfl rfl rfl ?_)
 intro g0 w1 hb1 hE1
 clear hE0
 simp only [qZ]
 refine wl_step (sqA (ints .u64 (List.replicate 5 0)) hE1 ?_)
 intro g1 w2 hb2 hE2
 clear hE1
 simp only [qZ]
 repeat ((fail_if_success refine sqx ?_); go_step)
 refine wqv (vqL 1 5 hE2 Tryz.underlying53) ?_
 refine wl_step (st_gives hE2 rfl (run_call rfl Tryz.call97) (hcA.out _) ?_)
 intro w3 hb3 hE3
 clear hE2
 simp only [qZ]
 refine wl_step (st_gives hE3 rfl (run_call rfl Tryz.call97) (hcB.out _) ?_)
 intro w4 hb4 hE4
 clear hE3
 simp only [qZ]
 refine wl_step (sqS 1 5 hE4 ?_)
 intro w5 hE5
 clear hE4
 simp only [qpB, qpC] at hE5
 simp only [qZ]
 repeat ((fail_if_success refine sqx ?_); go_step)
 refine mqC ?_
 repeat ((fail_if_success refine sqx ?_); go_step)
 refine wqv (v_field0 (s := 4) rfl rfl Tryz.underlying53 rfl (by kernel_rfl) rfl) ?_
 refine wqv (vqL 1 5 hE5 Tryz.underlying51) ?_
 refine wqv (v_moveC (.inl rfl)) ?_
 go_wp2
 go_loopw [3, 12] (fun qv i wr => ∃ k : Nat, k ≤ 5 ∧ i = .int .i64 k ∧ qv = .int .u64 (askF A k : Nat) ∧ Env w [⟨g1, 53, ints .u64 (List.replicate 5 0)⟩, ⟨g0, 53, ints .u64 A⟩] wr) (fun _ i _ => 5 - (intOf i).toNat)
 case atStart => exact ⟨0, Nat.zero_le _, rfl, by rw [askF_zero]; rfl, hE5⟩
 case round =>
  clear hE5
  obtain ⟨k, hk, rfl, rfl, hE0⟩ := hrel
  by_cases hk5 : k < 5
  ·have hak := HAb.out k
   have Hst := Lib.hid (askF_step (A := A) (i := k) (by omega))
   have hask := askF_lt HAb.out k (by omega)
   repeat ((fail_if_success refine sqx ?_); go_step)
   refine wqv (v_lss (n := 5) rfl rfl rfl) ?_
   repeat ((fail_if_success refine sqx ?_); go_step)
   refine wqv (v_idx rfl rfl rfl Tryz.underlying51 (by kernel_rfl : _ = some Tryz.t50) rfl Tryz.underlying50 (by first | assumption | simp) (by first | assumption | omega)) ?_
   refine mqB ?_
   repeat ((fail_if_success refine sqx ?_); go_step)
   refine mqA ?_
   refine mqA ?_
   refine wqv (v_add rfl rfl rfl (by first | exact w_u64 (by omega) | exact w_u64m _)) ?_
   refine wqv (v_shrC (s := 51) (d := 2251799813685248) rfl rfl rfl (by decide) (by decide)) ?_
   rw [← Hst.out]
   refine mqB ?_
   repeat ((fail_if_success refine sqx ?_); go_step)
   refine wqv (v_add (n := 1) rfl rfl rfl (w_i64 (by omega))) ?_
   refine mqA ?_
   go_wp2
   go_roundw
   case rel => exact ⟨k + 1, by omega, rfl, rfl, hE0⟩
   case measure => simp [intOf]; omega
  ·have hk' : k = 5 := by omega
   subst hk'
   rw [← Hq.out]
   have ha0 := HAb.out 0
   have hst0 : Hid (A.set 0 (A.getD 0 0 + 19 * q) = R) := Lib.hid HR.out.symm
   repeat ((fail_if_success refine sqx ?_); go_step)
   refine wqv (v_lss (n := 5) rfl rfl rfl) ?_
   repeat ((fail_if_success refine sqx ?_); go_step)
   refine wqv (v_field0 (s := 4) rfl rfl Tryz.underlying53 rfl (by kernel_rfl) rfl) ?_
   refine wqv (vqI (j := 0) Tryz.underlying51) ?_
   refine wqv (vqC 1 hE0 Tryz.underlying50) ?_
   refine mqA ?_
   refine wqv (v_mul (m := 19) rfl rfl rfl (by first | exact w_u64 (by omega) | exact w_u64m _)) ?_
   refine wqv (v_add rfl rfl rfl (by first | exact w_u64 (by omega) | exact w_u64m _)) ?_
   refine wqv (v_field0 (s := 4) rfl rfl Tryz.underlying53 rfl (by kernel_rfl) rfl) ?_
   refine wqv (vqI (j := 0) Tryz.underlying51) ?_
   refine wl_step (st_putN (i := 1) hE0 rfl rfl rfl rfl rfl (by kernel_rfl) (by first | assumption | omega | (simp only [List.length_set, List.length_replicate]; first | assumption | omega)) ?_)
   intro w1 hE1
   clear hE0
   simp only [qpB, qpC] at hE1
   simp only [qZ]
   repeat ((fail_if_success refine sqx ?_); go_step)
   refine mqC ?_
   rw [hst0.out] at hE1
   go_wp2
   go_loopw [6] (fun i wr => ∃ k : Nat, k ≤ 4 ∧ i = .int .i64 k ∧ Env w [⟨g1, 53, ints .u64 (List.replicate 5 0)⟩, ⟨g0, 53, ints .u64 (runF R k)⟩] wr) (fun i _ => 5 - (intOf i).toNat)
   case atStart => exact ⟨0, Nat.zero_le _, rfl, by rw [runF_zero (by omega)]; exact hE1⟩
   case round =>
    clear hE1 hk hk5
    obtain ⟨k, hk, rfl, hE0⟩ := hrel
    have hX : (runF R k).length = 5 := by rw [runF_len (by omega), hR5]
    have hkR : k < R.length := by omega
    have hget := runF_get hkR
    have hov := Hover.out k (by omega)
    have hrk := getD_lt HRb.out (by decide) k
    have hrk1 := getD_lt HRb.out (by decide) (k + 1)
    have Hget := Lib.hid hget
    clear hget
    by_cases hk4 : k < 4
    ·have Hnext := Lib.hid (runF_next hkR)
     have Hstep := Lib.hid (runF_step (R := R) (i := k) (by omega))
     have Hk : ∀ v, ((runF R k).set (k + 1) v).getD k 0 = R.getD k 0 + overF R k := fun v => by
      rw [List.getD_eq_getElem?_getD, List.getElem?_set_ne (by omega), ← List.getD_eq_getElem?_getD]
      exact Hget.out
     have HK := Lib.hid Hk
     clear Hk
     repeat ((fail_if_success refine sqx ?_); go_step)
     refine mqA ?_
     refine wqv (v_add (n := 1) rfl rfl rfl (w_i64 (by omega))) ?_
     refine wqv (v_lss (n := 5) rfl rfl rfl) ?_
     repeat ((fail_if_success refine sqx ?_); go_step)
     refine wp_region_B (n := 14) 13 (by kernel_rfl) rfl hE0 ?_
     intro w1 hb1 hE1
     clear hE0
     refine tqB 0 rfl (v_moveT (.inl rfl) rfl) ?_
     refine tqB 1 rfl (v_add (n := 1) rfl rfl rfl (w_i64 (by omega))) ?_
     refine tqB 2 rfl (v_field0 (s := 4) rfl rfl Tryz.underlying53 rfl (by kernel_rfl) rfl) ?_
     refine tqB 3 rfl (vqI Tryz.underlying51) ?_
     refine tqB 4 rfl (vqC 1 hE1 Tryz.underlying50) ?_
     rw [Hnext.out]
     refine tqB 5 rfl (v_moveT (.inl rfl) rfl) ?_
     refine tqB 6 rfl (v_field0 (s := 4) rfl rfl Tryz.underlying53 rfl (by kernel_rfl) rfl) ?_
     refine tqB 7 rfl (vqI Tryz.underlying51) ?_
     refine tqB 8 rfl (vqC 1 hE1 Tryz.underlying50) ?_
     rw [Hget.out]
     refine tqB 9 rfl (v_shrC (s := 51) (d := 2251799813685248) rfl rfl rfl (by decide) (by decide)) ?_
     refine tqB 10 rfl (v_add rfl rfl rfl (by first | exact w_u64 (by omega) | exact w_u64m _)) ?_
     refine tqB 11 rfl (v_field0 (s := 4) rfl rfl Tryz.underlying53 rfl (by kernel_rfl) rfl) ?_
     refine tqB 12 rfl (vqI Tryz.underlying51) ?_
     refine sqB 13 rfl (st_putN (i := 1) hE1 rfl rfl rfl rfl rfl (by kernel_rfl) (by first | assumption | omega | (simp only [List.length_set, List.length_replicate]; first | assumption | omega)) ?_)
     intro w2 hE2
     clear hE1
     simp only [qpB, qpC] at hE2
     refine nqB ?_
     simp only [qZ]
     refine wpB_done (by kernel_rfl) ?_ _
     repeat ((fail_if_success refine sqx ?_); go_step)
     refine mqA ?_
     refine wqv (v_field0 (s := 4) rfl rfl Tryz.underlying53 rfl (by kernel_rfl) rfl) ?_
     refine wqv (vqI Tryz.underlying51) ?_
     refine wqv (vqC 1 hE2 Tryz.underlying50) ?_
     rw [HK.out]
     refine wqv (v_mask (c := 2251799813685247) (s := 51) (d := 2251799813685248) rfl rfl rfl (by decide) (by decide) rfl (by simp only [IntKind.bits]; omega) (by decide)) ?_
     refine wqv (v_field0 (s := 4) rfl rfl Tryz.underlying53 rfl (by kernel_rfl) rfl) ?_
     refine wqv (vqI Tryz.underlying51) ?_
     refine wl_step (st_putN (i := 1) hE2 rfl rfl rfl rfl rfl (by kernel_rfl) (by first | assumption | omega | (simp only [List.length_set, List.length_replicate]; first | assumption | omega)) ?_)
     intro w3 hE3
     clear hE2
     simp only [qpB, qpC] at hE3
     simp only [qZ]
     repeat ((fail_if_success refine sqx ?_); go_step)
     refine mqA ?_
     refine wqv (v_add (n := 1) rfl rfl rfl (w_i64 (by omega))) ?_
     refine mqB ?_
     rw [Hstep.out] at hE3
     go_wp2
     go_roundw
     case rel => exact ⟨k + 1, by omega, rfl, hE3⟩
     case measure => simp [intOf]; omega
    ·have hk' : k = 4 := by omega
     subst hk'
     have hdl : (digs 2251799813685248 5 (fval l % pN)).length = 5 := digs_length _ _ _
     repeat ((fail_if_success refine sqx ?_); go_step)
     refine mqA ?_
     refine wqv (v_add (n := 1) rfl rfl rfl (w_i64 (by omega))) ?_
     refine wqv (v_lss (n := 5) rfl rfl rfl) ?_
     repeat ((fail_if_success refine sqx ?_); go_step)
     refine wqv (v_field0 (s := 4) rfl rfl Tryz.underlying53 rfl (by kernel_rfl) rfl) ?_
     refine wqv (vqI (j := 4) Tryz.underlying51) ?_
     refine wqv (vqC 1 hE0 Tryz.underlying50) ?_
     rw [Hget.out]
     refine wqv (v_mask (c := 2251799813685247) (s := 51) (d := 2251799813685248) rfl rfl rfl (by decide) (by decide) rfl (by simp only [IntKind.bits]; omega) (by decide)) ?_
     refine wqv (v_field0 (s := 4) rfl rfl Tryz.underlying53 rfl (by kernel_rfl) rfl) ?_
     refine wqv (vqI (j := 4) Tryz.underlying51) ?_
     refine wl_step (st_putN (i := 1) hE0 rfl rfl rfl rfl rfl (by kernel_rfl) (by first | assumption | omega | (simp only [List.length_set, List.length_replicate]; first | assumption | omega)) ?_)
     intro w1 hE1
     clear hE0
     simp only [qpB, qpC] at hE1
     simp only [qZ]
     rw [Hlast.out, Hend.out] at hE1
     repeat ((fail_if_success refine sqx ?_); go_step)
     refine wqv (vqL 1 5 hE1 Tryz.underlying53) ?_
     refine wl_step (sqS 0 5 hE1 ?_)
     intro w2 hE2
     clear hE1
     simp only [qpB, qpC] at hE2
     simp only [qZ]
     repeat ((fail_if_success refine sqx ?_); go_step)
     refine bodyPost_ret (results_cell_row rfl _ _ _ _ _ (0, 0) _ rfl (hE2.get (i := 0) rfl) Tryz.underlying53 rfl (szqA (n := 5))) rfl ⟨rfl, hE2.below⟩
end Go.Proofs.YthddoelflmoedaaGreat
