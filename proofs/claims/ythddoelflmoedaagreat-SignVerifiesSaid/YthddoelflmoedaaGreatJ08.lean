/-
  Layer 4: numbers modulo p of five limbs: sums, differences, carries.
-/
import Derived.Test.YthddoelflmoedaaGreatJ03
import Derived.Test.YthddoelflmoedaaGreatJ07
import Derived.Deep.LoopGhost
set_option linter.unusedVariables false
set_option linter.unusedSimpArgs false
namespace Go.Proofs.YthddoelflmoedaaGreat
open Go.RowKit
set_option maxRecDepth 100000

def pN : Nat := 57896044618658097711785492504343953926634992332820282019728792003956564819949
abbrev fval (l : List Nat) : Nat := val 2251799813685248 l
def Fe (l : List Nat) : Prop := l.length = 5 ∧ ∀ x ∈ l, x < 2251799813685312
abbrev elem (l : List Nat) : Value := .agg (ints .u64 l)

theorem five {l : List Nat} (h : l.length = 5) : ∃ a b c d e, l = [a, b, c, d, e] := by
 match l, h with
 | [a, b, c, d, e], _ => exact ⟨a, b, c, d, e, rfl⟩
theorem Fe.mk {a b c d e : Nat} (ha : a < 2251799813685312) (hb : b < 2251799813685312) (hc : c < 2251799813685312) (hd : d < 2251799813685312) (he : e < 2251799813685312) : Fe [a, b, c, d, e] :=
 ⟨rfl, fun x hx => by
  simp only [List.mem_cons, List.not_mem_nil, or_false] at hx
  rcases hx with rfl | rfl | rfl | rfl | rfl <;> assumption⟩
theorem Fe.open {l : List Nat} (h : Fe l) : ∃ a b c d e, l = [a, b, c, d, e] ∧ a < 2251799813685312 ∧ b < 2251799813685312 ∧ c < 2251799813685312 ∧ d < 2251799813685312 ∧ e < 2251799813685312 := by
 obtain ⟨a, b, c, d, e, rfl⟩ := five h.1
 have h2 := h.2
 simp only [List.mem_cons, List.not_mem_nil, or_false, forall_eq_or_imp, forall_eq] at h2
 exact ⟨a, b, c, d, e, rfl, h2.1, h2.2.1, h2.2.2.1, h2.2.2.2.1, h2.2.2.2.2⟩
theorem fval5 (a b c d e : Nat) : fval [a, b, c, d, e] = a + 2251799813685248 * (b + 2251799813685248 * (c + 2251799813685248 * (d + 2251799813685248 * e))) := by
 simp only [fval, val_cons, val_nil, Nat.mul_zero, Nat.add_zero]

def fillR (F : Nat → Nat) (r : List Nat) (k : Nat) : List Nat := (List.range k).map F ++ r.drop k
theorem fillR_zero (F : Nat → Nat) (r : List Nat) : fillR F r 0 = r := rfl
theorem fillR_len {F : Nat → Nat} {r : List Nat} {k : Nat} (h : k ≤ r.length) : (fillR F r k).length = r.length := by simp [fillR]; omega
theorem fillR_full (F : Nat → Nat) (r : List Nat) : fillR F r r.length = (List.range r.length).map F := by simp [fillR]
theorem fillR_ge {F : Nat → Nat} {r : List Nat} {k j : Nat} (h : k ≤ j) : (fillR F r k).getD j 0 = r.getD j 0 := by
 unfold fillR
 rw [List.getD_eq_getElem?_getD, List.getElem?_append_right (by simpa using h), List.getD_eq_getElem?_getD, List.getElem?_drop]
 simp only [List.length_map, List.length_range]
 congr 2
 omega
theorem fillR_lt {F : Nat → Nat} {r : List Nat} {k j : Nat} (h : j < k) : (fillR F r k).getD j 0 = F j := by
 unfold fillR
 rw [List.getD_eq_getElem?_getD, List.getElem?_append_left (by simpa using h)]
 simp [h]
theorem fillR_set {F : Nat → Nat} {r : List Nat} {k v : Nat} (h : k < r.length) (hv : v = F k) : (fillR F r k).set k v = fillR F r (k + 1) := by
 subst hv
 unfold fillR
 rw [List.set_append_right _ _ (by simp), List.range_succ, List.map_append]
 simp only [List.length_map, List.length_range, Nat.sub_self, List.map_cons, List.map_nil, List.append_assoc]
 congr 1
 rw [← List.getElem_cons_drop h, List.set_cons_zero]
 rfl
theorem set_getD {X : List Nat} {k v : Nat} (h : k < X.length) : (X.set k v).getD k 0 = v := by simp [List.getD, h]

def carryF (l : List Nat) (j : Nat) : Nat := l.getD j 0 % 2251799813685248 + (if j = 0 then 19 * (l.getD 4 0 / 2251799813685248) else l.getD (j - 1) 0 / 2251799813685248)
def carryL (l : List Nat) : List Nat := (List.range 5).map (carryF l)
theorem carryL_eq (a b c d e : Nat) : carryL [a, b, c, d, e] = [a % 2251799813685248 + 19 * (e / 2251799813685248), b % 2251799813685248 + a / 2251799813685248, c % 2251799813685248 + b / 2251799813685248, d % 2251799813685248 + c / 2251799813685248, e % 2251799813685248 + d / 2251799813685248] := rfl

theorem getD_lt {l : List Nat} {B : Nat} (h : ∀ x ∈ l, x < B) (hB : 0 < B) (i : Nat) : l.getD i 0 < B := by
 rw [List.getD_eq_getElem?_getD]
 rcases Nat.lt_or_ge i l.length with h1 | h1
 ·rw [List.getElem?_eq_getElem h1]; exact h _ (List.getElem_mem h1)
 ·rw [List.getElem?_eq_none h1]; exact hB

set_option maxHeartbeats 2000000 in
theorem carry_any (l : List Nat) (hl : l.length = 5) (hd : ∀ x ∈ l, x < 18446744073709551616) (w : World) : Gives 97 #[elem l] w (elem (carryL l)) := by
 have hD := Lib.hid hd
 clear hd
 have hE0 := Env.nil w
 go_enter Tryz.func97, Tryz.ntmps97
 repeat ((fail_if_success refine sqx ?_); go_step)
 refine wl_step (st_boxA hE0 rfl rfl rfl ?_)
 intro g0 w1 hb1 hE1
 clear hE0
 simp only [qZ]
 refine wl_step (sqA (ints .u64 (List.replicate 5 0)) hE1 ?_)
 intro g1 w2 hb2 hE2
 clear hE1
 simp only [qZ]
 repeat ((fail_if_success refine sqx ?_); go_step)
 refine wl_step (sqA (ints .u64 (List.replicate 5 0)) hE2 ?_)
 intro g2 w3 hb3 hE3
 clear hE2
 simp only [qZ]
 repeat ((fail_if_success refine sqx ?_); go_step)
 refine wqv (v_field0 (s := 4) rfl rfl Tryz.underlying53 rfl (by kernel_rfl) rfl) ?_
 refine wqv (vqL 2 5 hE3 Tryz.underlying51) ?_
 refine wqv (v_moveC (.inl rfl)) ?_
 go_wp2
 go_loopw [9] (fun i wr => ∃ k : Nat, k ≤ 5 ∧ i = .int .i64 k ∧ Env w [⟨g2, 51, ints .u64 (fillR (fun j => l.getD j 0 / 2251799813685248) (List.replicate 5 0) k)⟩, ⟨g1, 53, ints .u64 (List.replicate 5 0)⟩, ⟨g0, 53, ints .u64 l⟩] wr) (fun i _ => 5 - (intOf i).toNat)
 case atStart => exact ⟨0, Nat.zero_le _, rfl, hE3⟩
 case round =>
  clear hE3
  obtain ⟨k, hk, rfl, hE0⟩ := hrel
  by_cases hk5 : k < 5
  ·have hX : (fillR (fun j => l.getD j 0 / 2251799813685248) (List.replicate 5 0) k).length = 5 := fillR_len (by simp; omega)
   repeat ((fail_if_success refine sqx ?_); go_step)
   refine wqv (v_lss (n := 5) rfl rfl rfl) ?_
   repeat ((fail_if_success refine sqx ?_); go_step)
   refine mqA ?_
   refine wqv (v_idx rfl rfl rfl Tryz.underlying51 (by kernel_rfl : _ = some Tryz.t50) rfl Tryz.underlying50 (by first | assumption | simp) (by first | assumption | omega)) ?_
   refine mqB ?_
   refine mqB ?_
   repeat ((fail_if_success refine sqx ?_); go_step)
   refine mqA ?_
   refine mqA ?_
   refine wqv (v_shrC (s := 51) (d := 2251799813685248) rfl rfl rfl (by decide) (by decide)) ?_
   refine wqv (vqI Tryz.underlying51) ?_
   refine wl_step (st_putN (i := 0) hE0 rfl rfl rfl rfl rfl (by kernel_rfl) (by first | assumption | omega | (simp only [List.length_set, List.length_replicate]; first | assumption | omega)) ?_)
   intro w1 hE1
   clear hE0
   simp only [qpB, qpC] at hE1
   simp only [qZ]
   repeat ((fail_if_success refine sqx ?_); go_step)
   refine wqv (v_add (n := 1) rfl rfl rfl (w_i64 (by omega))) ?_
   refine mqA ?_
   go_wp2
   go_roundw
   case rel => exact ⟨k + 1, by omega, rfl, by rw [fillR_set (by simp; omega) rfl] at hE1; exact hE1⟩
   case measure => simp [intOf]; omega
  ·have hk' : k = 5 := by omega
   subst hk'
   have hC : (fillR (fun j => l.getD j 0 / 2251799813685248) (List.replicate 5 0) 5).length = 5 := fillR_len (by simp)
   repeat ((fail_if_success refine sqx ?_); go_step)
   refine wqv (v_lss (n := 5) rfl rfl rfl) ?_
   repeat ((fail_if_success refine sqx ?_); go_step)
   refine wqv (v_moveC (.inl rfl)) ?_
   go_wp2
   go_loopw [18] (fun i wr => ∃ k : Nat, k ≤ 5 ∧ i = .int .i64 k ∧ Env w [⟨g2, 51, ints .u64 (fillR (fun j => l.getD j 0 / 2251799813685248) (List.replicate 5 0) 5)⟩, ⟨g1, 53, ints .u64 (List.replicate 5 0)⟩, ⟨g0, 53, ints .u64 (fillR (carryF l) l k)⟩] wr) (fun i _ => 5 - (intOf i).toNat)
   case atStart => exact ⟨0, Nat.zero_le _, rfl, hE0⟩
   case round =>
    clear hE0 hk hk5
    obtain ⟨k, hk, rfl, hE0⟩ := hrel
    have hX : (fillR (carryF l) l k).length = 5 := by rw [fillR_len (by omega), hl]
    by_cases hk5 : k < 5
    ·have hbk := getD_lt hD.out (by decide) k
     have hb4 := getD_lt hD.out (by decide) 4
     have hbp := getD_lt hD.out (by decide) (k - 1)
     have hXk : k < (fillR (carryF l) l k).length := by omega
     by_cases hk0 : k = 0
     ·have hp := hk0
      repeat ((fail_if_success refine sqx ?_); go_step)
      refine wqv (v_lss (n := 5) rfl rfl rfl) ?_
      repeat ((fail_if_success refine sqx ?_); go_step)
      refine mqA ?_
      refine mqB ?_
      repeat ((fail_if_success refine sqx ?_); go_step)
      refine mqA ?_
      refine wqv (v_field0 (s := 4) rfl rfl Tryz.underlying53 rfl (by kernel_rfl) rfl) ?_
      refine wqv (vqI Tryz.underlying51) ?_
      refine wqv (v_cell rfl rfl Tryz.underlying50 rfl (Env.cellv (i := 2) hE0 rfl (ints_get? _ _ _ (by first | assumption | omega | (simp; omega))))) ?_
      rw [fillR_ge (Nat.le_refl k)]
      refine wqv (v_mask (c := 2251799813685247) (s := 51) (d := 2251799813685248) rfl rfl rfl (by decide) (by decide) rfl (by simp only [IntKind.bits]; omega) (by decide)) ?_
      refine wqv (v_field0 (s := 4) rfl rfl Tryz.underlying53 rfl (by kernel_rfl) rfl) ?_
      refine wqv (vqI Tryz.underlying51) ?_
      refine wl_step (st_putN (i := 2) hE0 rfl rfl rfl rfl rfl (by kernel_rfl) (by first | assumption | omega | (simp only [List.length_set, List.length_replicate]; first | assumption | omega)) ?_)
      intro w1 hE1
      clear hE0
      simp only [qpB, qpC] at hE1
      simp only [qZ]
      repeat ((fail_if_success refine sqx ?_); go_step)
      refine mqA ?_
      refine wqv (v_eql (n := 0) rfl rfl rfl) ?_
      repeat ((fail_if_success refine sqy ?_); go_step)
      refine cqT ?_
      skip
      repeat ((fail_if_success refine sqx ?_); go_step)
      refine wp_region_B (n := 11) 10 (by kernel_rfl) rfl hE1 ?_
      intro w2 hb2 hE2
      clear hE1
      refine tqB 0 rfl (v_moveT (.inl rfl) rfl) ?_
      refine tqB 1 rfl (v_field0 (s := 4) rfl rfl Tryz.underlying53 rfl (by kernel_rfl) rfl) ?_
      refine tqB 2 rfl (vqI Tryz.underlying51) ?_
      refine tqB 3 rfl (v_cell rfl rfl Tryz.underlying50 rfl (Env.cellv (i := 2) hE2 rfl (ints_get? _ _ _ (by first | assumption | omega | (simp; omega))))) ?_
      rw [set_getD hXk]
      refine tqB 4 rfl (vqI (j := 4) Tryz.underlying51) ?_
      refine tqB 5 rfl (v_cell rfl rfl Tryz.underlying50 rfl (Env.cellv (i := 0) hE2 rfl (ints_get? _ _ _ (by first | assumption | omega | (simp; omega))))) ?_
      rw [fillR_lt (by decide : 4 < 5)]
      refine tqB 6 rfl (v_mul (m := 19) rfl rfl rfl (by first | exact w_u64 (by omega) | exact w_u64m _)) ?_
      refine tqB 7 rfl (v_add rfl rfl rfl (by first | exact w_u64 (by omega) | exact w_u64m _)) ?_
      refine tqB 8 rfl (v_field0 (s := 4) rfl rfl Tryz.underlying53 rfl (by kernel_rfl) rfl) ?_
      refine tqB 9 rfl (vqI Tryz.underlying51) ?_
      refine sqB 10 rfl (st_putN (i := 2) hE2 rfl rfl rfl rfl rfl (by kernel_rfl) (by first | assumption | omega | (simp only [List.length_set, List.length_replicate]; first | assumption | omega)) ?_)
      intro w3 hE3
      clear hE2
      simp only [qpB, qpC] at hE3
      refine nqB ?_
      simp only [qZ]
      refine wpB_done (by kernel_rfl) ?_ _
      repeat ((fail_if_success refine sqx ?_); go_step)
      refine wqv (v_add (n := 1) rfl rfl rfl (w_i64 (by omega))) ?_
      refine mqA ?_
      go_wp2
      go_roundw
      case rel => exact ⟨k + 1, by omega, rfl, by rw [List.set_set, fillR_set (by omega) (by unfold carryF; rw [if_pos hk0])] at hE3; exact hE3⟩
      case measure => simp [intOf]; omega
     ·have hp := hk0
      repeat ((fail_if_success refine sqx ?_); go_step)
      refine wqv (v_lss (n := 5) rfl rfl rfl) ?_
      repeat ((fail_if_success refine sqx ?_); go_step)
      refine mqA ?_
      refine mqB ?_
      repeat ((fail_if_success refine sqx ?_); go_step)
      refine mqA ?_
      refine wqv (v_field0 (s := 4) rfl rfl Tryz.underlying53 rfl (by kernel_rfl) rfl) ?_
      refine wqv (vqI Tryz.underlying51) ?_
      refine wqv (v_cell rfl rfl Tryz.underlying50 rfl (Env.cellv (i := 2) hE0 rfl (ints_get? _ _ _ (by first | assumption | omega | (simp; omega))))) ?_
      rw [fillR_ge (Nat.le_refl k)]
      refine wqv (v_mask (c := 2251799813685247) (s := 51) (d := 2251799813685248) rfl rfl rfl (by decide) (by decide) rfl (by simp only [IntKind.bits]; omega) (by decide)) ?_
      refine wqv (v_field0 (s := 4) rfl rfl Tryz.underlying53 rfl (by kernel_rfl) rfl) ?_
      refine wqv (vqI Tryz.underlying51) ?_
      refine wl_step (st_putN (i := 2) hE0 rfl rfl rfl rfl rfl (by kernel_rfl) (by first | assumption | omega | (simp only [List.length_set, List.length_replicate]; first | assumption | omega)) ?_)
      intro w1 hE1
      clear hE0
      simp only [qpB, qpC] at hE1
      simp only [qZ]
      repeat ((fail_if_success refine sqx ?_); go_step)
      refine mqA ?_
      refine wqv (v_eql (n := 0) rfl rfl rfl) ?_
      repeat ((fail_if_success refine sqy ?_); go_step)
      refine cqF ?_
      skip
      repeat ((fail_if_success refine sqx ?_); go_step)
      refine wp_region_B (n := 12) 11 (by kernel_rfl) rfl hE1 ?_
      intro w2 hb2 hE2
      clear hE1
      refine tqB 0 rfl (v_moveT (.inl rfl) rfl) ?_
      refine tqB 1 rfl (v_field0 (s := 4) rfl rfl Tryz.underlying53 rfl (by kernel_rfl) rfl) ?_
      refine tqB 2 rfl (vqI Tryz.underlying51) ?_
      refine tqB 3 rfl (v_cell rfl rfl Tryz.underlying50 rfl (Env.cellv (i := 2) hE2 rfl (ints_get? _ _ _ (by first | assumption | omega | (simp; omega))))) ?_
      rw [set_getD hXk]
      refine tqB 4 rfl (v_moveT (.inl rfl) rfl) ?_
      refine tqB 5 rfl (v_sub (n := 1) rfl rfl rfl (by first | exact w_i64s (by omega) (by omega) | exact w_i64I (by omega) (by omega))) ?_
      refine tqB 6 rfl (vqI Tryz.underlying51) ?_
      refine tqB 7 rfl (v_cell rfl rfl Tryz.underlying50 rfl (Env.cellv (i := 0) hE2 rfl (ints_get? _ _ _ (by first | assumption | omega | (simp; omega))))) ?_
      rw [fillR_lt (by omega : k - 1 < 5)]
      refine tqB 8 rfl (v_add rfl rfl rfl (by first | exact w_u64 (by omega) | exact w_u64m _)) ?_
      refine tqB 9 rfl (v_field0 (s := 4) rfl rfl Tryz.underlying53 rfl (by kernel_rfl) rfl) ?_
      refine tqB 10 rfl (vqI Tryz.underlying51) ?_
      refine sqB 11 rfl (st_putN (i := 2) hE2 rfl rfl rfl rfl rfl (by kernel_rfl) (by first | assumption | omega | (simp only [List.length_set, List.length_replicate]; first | assumption | omega)) ?_)
      intro w3 hE3
      clear hE2
      simp only [qpB, qpC] at hE3
      refine nqB ?_
      simp only [qZ]
      refine wpB_done (by kernel_rfl) ?_ _
      repeat ((fail_if_success refine sqx ?_); go_step)
      refine wqv (v_add (n := 1) rfl rfl rfl (w_i64 (by omega))) ?_
      refine mqA ?_
      go_wp2
      go_roundw
      case rel => exact ⟨k + 1, by omega, rfl, by rw [List.set_set, fillR_set (by omega) (by unfold carryF; rw [if_neg hk0])] at hE3; exact hE3⟩
      case measure => simp [intOf]; omega
    ·have hk' : k = 5 := by omega
     subst hk'
     have e : fillR (carryF l) l 5 = carryL l := by
      have h := fillR_full (carryF l) l
      rwa [hl] at h
     rw [e] at hE0
     have hcl : (carryL l).length = 5 := rfl
     repeat ((fail_if_success refine sqx ?_); go_step)
     refine wqv (v_lss (n := 5) rfl rfl rfl) ?_
     repeat ((fail_if_success refine sqx ?_); go_step)
     refine wqv (vqL 2 5 hE0 Tryz.underlying53) ?_
     refine wl_step (sqS 1 5 hE0 ?_)
     intro w1 hE1
     clear hE0
     simp only [qpB, qpC] at hE1
     simp only [qZ]
     repeat ((fail_if_success refine sqx ?_); go_step)
     refine bodyPost_ret (results_cell_row rfl _ _ _ _ _ (0, 0) _ rfl (hE1.get (i := 1) rfl) Tryz.underlying53 rfl (szqA (n := 5))) rfl ⟨rfl, hE1.below⟩
end Go.Proofs.YthddoelflmoedaaGreat
