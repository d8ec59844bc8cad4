/-
  Layer 28: is there more than is asked of.
-/
import Derived.Test.YtnbbehgcnodfbaaDoorNetI
namespace Go.Proofs.YtnbbehgcnodfbaaDoor
open Go.RowKit
set_option maxRecDepth 100000
set_option linter.unusedVariables false
set_option linter.unusedSimpArgs false

section
variable {P : Program} {a : Act} {w : World} {o : Oper} {v : Value}
theorem v_cellR {ty : TypeId} {x : Operand} {b off j : Nat} {cells : List Value} {d : TypeDesc} (hr : ∀ w1, Below w.heap.size w w1 → w1.rangeAt b off cells) (hc : cells[j]? = some v) (ho : o.op = .load ty x) (hx : a.eval x = .pointer (some ⟨b, off + j, none⟩)) (hu : P.underlying ty = some d) (hd : (match d with | .struct _ | .array _ _ => false | _ => true) = true) : Val P o a v w :=
  v_cell ho hx hu hd (fun w1 hb => hr w1 hb j v hc)
end
def okO (o : OV) : Prop := o.L.length ≤ 12 ∧ ∀ m ∈ o.L, m.by'.length ≤ 60
def okAll (O : List OV) : Prop := O.length ≤ 40 ∧ ∀ o ∈ O, okO o

set_option maxHeartbeats 8000000 in
theorem great_any {O : List OV} {v : Value} {w : World} {B : Bool} (hv : RdZ 4 O.length (ocells O) v w) (hO : ∀ o ∈ O, RdOv w o) (hm : O.length ≤ maxLen) (hB : B = false ↔ okAll O) : Gives 5 #[v] w (.bool B) := by
  obtain ⟨p, c, rfl, hc⟩ := hv.len
  have hm63 : O.length < 9223372036854775808 := by unfold maxLen at hm; omega
  have hyes : ¬ okAll O → B = true := fun h => by
    cases B
    · exact absurd (hB.1 rfl) h
    · rfl
  have Hyes := Lib.hid hyes
  have HBB := Lib.hid hB
  have HV := Lib.hid hv
  have HO := Lib.hid hO
  clear hv hO hyes hB
  by_cases h40 : 40 < O.length
  · have d1 := Lib.hid (decide_eq_true h40)
    have e1 := Hyes.out (fun h => by have := h.1; omega)
    subst e1
    have hE0 := Env.nil w
    go_enter Tryd.func5, Tryd.ntmps5
    repeat ((fail_if_success (with_reducible show wpList _ _ _ (List.cons _ _) _ _)); (fail_if_success (with_reducible show Code.wp _ (Code.region _ _ true) _ _ _)); go_step)
    refine wl_step (st_val rfl (v_moveC (.inr rfl)) ?_)
    simp only [Act.put, List.setIfInBounds_toArray, List.set_cons_zero, List.set_cons_succ]
    repeat ((fail_if_success (with_reducible show wpList _ _ _ (List.cons _ _) _ _)); (fail_if_success (with_reducible show Code.wp _ (Code.region _ _ true) _ _ _)); go_step)
    refine wl_step (st_val rfl (v_moveT (.inl rfl) rfl) ?_)
    simp only [Act.put, List.setIfInBounds_toArray, List.set_cons_zero, List.set_cons_succ]
    refine wl_step (st_val rfl (v_len rfl rfl Tryd.underlying22 hm63) ?_)
    simp only [Act.put, List.setIfInBounds_toArray, List.set_cons_zero, List.set_cons_succ]
    refine wl_step (st_val rfl (v_gtr (n := 40) rfl rfl rfl) ?_)
    simp only [Act.put, List.setIfInBounds_toArray, List.set_cons_zero, List.set_cons_succ]
    rw [d1.out]
    repeat ((fail_if_success (with_reducible show wpList _ _ _ (List.cons _ _) _ _)); (fail_if_success (with_reducible show Code.wp _ (Code.region _ _ true) _ _ _)); (fail_if_success (with_reducible show Code.wp _ (Code.cond _ _ _) _ _ _)); go_step)
    refine wp_cond_true (by first | rfl | exact congrArg Value.bool (decide_eq_true (by omega))) ?_
    skip
    repeat ((fail_if_success (with_reducible show wpList _ _ _ (List.cons _ _) _ _)); (fail_if_success (with_reducible show Code.wp _ (Code.region _ _ true) _ _ _)); go_step)
    refine wl_step (st_val rfl (v_moveC (.inr rfl)) ?_)
    simp only [Act.put, List.setIfInBounds_toArray, List.set_cons_zero, List.set_cons_succ]
    repeat ((fail_if_success (with_reducible show wpList _ _ _ (List.cons _ _) _ _)); (fail_if_success (with_reducible show Code.wp _ (Code.region _ _ true) _ _ _)); go_step)
    go_returns
    exact ⟨rfl, hE0.below⟩
  · have d1 := Lib.hid (decide_eq_false h40)
    have hE0 := Env.nil w
    go_enter Tryd.func5, Tryd.ntmps5
    repeat ((fail_if_success (with_reducible show wpList _ _ _ (List.cons _ _) _ _)); (fail_if_success (with_reducible show Code.wp _ (Code.region _ _ true) _ _ _)); go_step)
    refine wl_step (st_val rfl (v_moveC (.inr rfl)) ?_)
    simp only [Act.put, List.setIfInBounds_toArray, List.set_cons_zero, List.set_cons_succ]
    repeat ((fail_if_success (with_reducible show wpList _ _ _ (List.cons _ _) _ _)); (fail_if_success (with_reducible show Code.wp _ (Code.region _ _ true) _ _ _)); go_step)
    refine wl_step (st_val rfl (v_moveT (.inl rfl) rfl) ?_)
    simp only [Act.put, List.setIfInBounds_toArray, List.set_cons_zero, List.set_cons_succ]
    refine wl_step (st_val rfl (v_len rfl rfl Tryd.underlying22 hm63) ?_)
    simp only [Act.put, List.setIfInBounds_toArray, List.set_cons_zero, List.set_cons_succ]
    refine wl_step (st_val rfl (v_gtr (n := 40) rfl rfl rfl) ?_)
    simp only [Act.put, List.setIfInBounds_toArray, List.set_cons_zero, List.set_cons_succ]
    rw [d1.out]
    repeat ((fail_if_success (with_reducible show wpList _ _ _ (List.cons _ _) _ _)); (fail_if_success (with_reducible show Code.wp _ (Code.region _ _ true) _ _ _)); (fail_if_success (with_reducible show Code.wp _ (Code.cond _ _ _) _ _ _)); go_step)
    refine wp_cond_false (by first | rfl | exact congrArg Value.bool (decide_eq_false (by omega))) ?_
    skip
    repeat ((fail_if_success (with_reducible show wpList _ _ _ (List.cons _ _) _ _)); (fail_if_success (with_reducible show Code.wp _ (Code.region _ _ true) _ _ _)); go_step)
    refine wl_step (st_val rfl (v_moveC (.inr rfl)) ?_)
    simp only [Act.put, List.setIfInBounds_toArray, List.set_cons_zero, List.set_cons_succ]
    have hst := hE0
    clear hE0
    go_wp2
    go_loopw [3] (fun i wr => ∃ j : Nat, j ≤ O.length ∧ i = .int .i64 j ∧ (∀ q, q < j → ∀ o, O[q]? = some o → okO o) ∧ Env w [] wr) (fun i _ => O.length - (intOf i).toNat)
    case atStart => exact ⟨0, Nat.zero_le _, rfl, fun q hq => absurd hq (Nat.not_lt_zero _), hst⟩
    case round =>
      clear hst
      obtain ⟨j, hj, rfl, hok, hE0⟩ := hrel
      by_cases hjl : j < O.length
      · have d2 := Lib.hid (decide_eq_true hjl)
        have hg : O[j]? = some O[j] := List.getElem?_eq_getElem hjl
        obtain ⟨o, hoe⟩ : ∃ o, O[j] = o := ⟨_, rfl⟩
        rw [hoe] at hg
        have hmo : o ∈ O := List.mem_of_getElem? hg
        obtain ⟨b, off, rfl, -⟩ := HV.out.elem hjl
        have hran : ∀ w', Below w.heap.size w w' → ∀ w1, Below w'.heap.size w' w1 → w1.rangeAt b (off + j * 4) [.int .u8 (o.kd : Int), .int .i64 o.i, .int .i64 o.k, o.sl] := fun w' hb w1 hb1 => by
          obtain ⟨b', off', he, hr⟩ := (HV.out.below hb).elem hjl
          injection he with he
          injection he with h1 h2 _
          subst h1 h2
          have := hr w1 hb1
          rwa [ocells_at hg] at this
        have Hran := Lib.hid hran
        have hro := HO.out o hmo
        obtain ⟨pL, cL, hsl, hcL⟩ := hro.2.1.len
        have hL63 : o.L.length < 9223372036854775808 := by have := hro.2.2.2; unfold maxLen at this; omega
        have Hro := Lib.hid hro
        have hrl := hro.2.1
        rw [hsl] at Hran hrl
        have HrL := Lib.hid hrl
        have Hg := Lib.hid hg
        have Hok := Lib.hid hok
        clear hran hro hoe hg hok hrl hsl
        repeat ((fail_if_success (with_reducible show wpList _ _ _ (List.cons _ _) _ _)); (fail_if_success (with_reducible show Code.wp _ (Code.region _ _ true) _ _ _)); go_step)
        refine wl_step (st_val rfl (v_moveT (.inl rfl) rfl) ?_)
        simp only [Act.put, List.setIfInBounds_toArray, List.set_cons_zero, List.set_cons_succ]
        refine wl_step (st_val rfl (v_moveT (.inl rfl) rfl) ?_)
        simp only [Act.put, List.setIfInBounds_toArray, List.set_cons_zero, List.set_cons_succ]
        refine wl_step (st_val rfl (v_len rfl rfl Tryd.underlying22 hm63) ?_)
        simp only [Act.put, List.setIfInBounds_toArray, List.set_cons_zero, List.set_cons_succ]
        refine wl_step (st_val rfl (v_lss rfl rfl rfl) ?_)
        simp only [Act.put, List.setIfInBounds_toArray, List.set_cons_zero, List.set_cons_succ]
        rw [d2.out]
        repeat ((fail_if_success (with_reducible show wpList _ _ _ (List.cons _ _) _ _)); (fail_if_success (with_reducible show Code.wp _ (Code.region _ _ true) _ _ _)); (fail_if_success (with_reducible show Code.wp _ (Code.cond _ _ _) _ _ _)); go_step)
        refine wp_cond_true (by first | rfl | exact congrArg Value.bool (decide_eq_true (by omega))) ?_
        skip
        repeat ((fail_if_success (with_reducible show wpList _ _ _ (List.cons _ _) _ _)); (fail_if_success (with_reducible show Code.wp _ (Code.region _ _ true) _ _ _)); go_step)
        refine wl_step (st_val rfl (v_moveT (.inl rfl) rfl) ?_)
        simp only [Act.put, List.setIfInBounds_toArray, List.set_cons_zero, List.set_cons_succ]
        refine wl_step (st_val rfl (v_moveT (.inl rfl) rfl) ?_)
        simp only [Act.put, List.setIfInBounds_toArray, List.set_cons_zero, List.set_cons_succ]
        refine wl_step (st_val rfl (v_indexSs (s := 4) rfl rfl rfl Tryd.underlying22 (by kernel_rfl) hjl) ?_)
        simp only [Act.put, List.setIfInBounds_toArray, List.set_cons_zero, List.set_cons_succ]
        refine wl_step (st_val rfl (v_fieldK (s := 0) rfl rfl Tryd.underlying36 rfl (by kernel_rfl) rfl) ?_)
        simp only [Act.put, List.setIfInBounds_toArray, List.set_cons_zero, List.set_cons_succ]
        refine wl_step (st_val rfl (v_cellR (v := .slice pL o.L.length cL) (j := 3) (Hran.out _ hE0.below) rfl rfl rfl Tryd.underlying31 rfl) ?_)
        simp only [Act.put, List.setIfInBounds_toArray, List.set_cons_zero, List.set_cons_succ]
        refine wl_step (st_val rfl (v_len rfl rfl Tryd.underlying31 hL63) ?_)
        simp only [Act.put, List.setIfInBounds_toArray, List.set_cons_zero, List.set_cons_succ]
        refine wl_step (st_val rfl (v_gtr (n := 12) rfl rfl rfl) ?_)
        simp only [Act.put, List.setIfInBounds_toArray, List.set_cons_zero, List.set_cons_succ]
        by_cases h12 : 12 < o.L.length
        · have d3 := Lib.hid (decide_eq_true h12)
          have e1 := Hyes.out (fun h => by have := (h.2 o hmo).1; omega)
          subst e1
          rw [d3.out]
          repeat ((fail_if_success (with_reducible show wpList _ _ _ (List.cons _ _) _ _)); (fail_if_success (with_reducible show Code.wp _ (Code.region _ _ true) _ _ _)); (fail_if_success (with_reducible show Code.wp _ (Code.cond _ _ _) _ _ _)); go_step)
          refine wp_cond_true (by first | rfl | exact congrArg Value.bool (decide_eq_true (by omega))) ?_
          skip
          repeat ((fail_if_success (with_reducible show wpList _ _ _ (List.cons _ _) _ _)); (fail_if_success (with_reducible show Code.wp _ (Code.region _ _ true) _ _ _)); go_step)
          refine wl_step (st_val rfl (v_moveC (.inr rfl)) ?_)
          simp only [Act.put, List.setIfInBounds_toArray, List.set_cons_zero, List.set_cons_succ]
          repeat ((fail_if_success (with_reducible show wpList _ _ _ (List.cons _ _) _ _)); (fail_if_success (with_reducible show Code.wp _ (Code.region _ _ true) _ _ _)); go_step)
          go_returns
          exact ⟨rfl, hE0.below⟩
        · have d3 := Lib.hid (decide_eq_false h12)
          rw [d3.out]
          repeat ((fail_if_success (with_reducible show wpList _ _ _ (List.cons _ _) _ _)); (fail_if_success (with_reducible show Code.wp _ (Code.region _ _ true) _ _ _)); (fail_if_success (with_reducible show Code.wp _ (Code.cond _ _ _) _ _ _)); go_step)
          refine wp_cond_false (by first | rfl | exact congrArg Value.bool (decide_eq_false (by omega))) ?_
          skip
          repeat ((fail_if_success (with_reducible show wpList _ _ _ (List.cons _ _) _ _)); (fail_if_success (with_reducible show Code.wp _ (Code.region _ _ true) _ _ _)); go_step)
          refine wl_step (st_val rfl (v_moveC (.inr rfl)) ?_)
          simp only [Act.put, List.setIfInBounds_toArray, List.set_cons_zero, List.set_cons_succ]
          have hst := hE0
          clear hE0
          go_wp2
          go_loopw [4] (fun i wr => ∃ k : Nat, k ≤ o.L.length ∧ i = .int .i64 k ∧ (∀ q, q < k → ∀ m, o.L[q]? = some m → m.by'.length ≤ 60) ∧ Env w [] wr) (fun i _ => o.L.length - (intOf i).toNat)
          case atStart => exact ⟨0, Nat.zero_le _, rfl, fun q hq => absurd hq (Nat.not_lt_zero _), hst⟩
          case round =>
            clear hst
            obtain ⟨k, hk, rfl, hok2, hE0⟩ := hrel
            by_cases hkl : k < o.L.length
            · have d4 := Lib.hid (decide_eq_true hkl)
              have hgm : o.L[k]? = some o.L[k] := List.getElem?_eq_getElem hkl
              obtain ⟨m, hme⟩ : ∃ m, o.L[k] = m := ⟨_, rfl⟩
              rw [hme] at hgm
              have hmm : m ∈ o.L := List.mem_of_getElem? hgm
              obtain ⟨b2, off2, hp2, -⟩ := HrL.out.elem hkl
              have hran2 : ∀ w', Below w.heap.size w w' → ∀ w1, Below w'.heap.size w' w1 → w1.rangeAt b2 (off2 + k * 3) [.int .i64 m.fr, .int .i64 m.to, m.sl] := fun w' hb w1 hb1 => by
                obtain ⟨b', off', he, hr⟩ := (HrL.out.below hb).elem hkl
                rw [hp2] at he
                injection he with he
                injection he with h1 h2 _
                subst h1 h2
                have := hr w1 hb1
                rwa [pcells_at hgm] at this
              subst hp2
              have Hran2 := Lib.hid hran2
              have hrm := Hro.out.2.2.1 m hmm
              obtain ⟨pm, cm, hsm, hcm, -⟩ := hrm.1
              have hm633 : m.by'.length < 9223372036854775808 := by have := hrm.2.2; unfold maxLen at this; omega
              rw [hsm] at Hran2
              have Hgm := Lib.hid hgm
              have Hok2 := Lib.hid hok2
              clear hran2 hrm hme hgm hok2
              repeat ((fail_if_success (with_reducible show wpList _ _ _ (List.cons _ _) _ _)); (fail_if_success (with_reducible show Code.wp _ (Code.region _ _ true) _ _ _)); go_step)
              refine wl_step (st_val rfl (v_moveT (.inl rfl) rfl) ?_)
              simp only [Act.put, List.setIfInBounds_toArray, List.set_cons_zero, List.set_cons_succ]
              refine wl_step (st_val rfl (v_moveT (.inl rfl) rfl) ?_)
              simp only [Act.put, List.setIfInBounds_toArray, List.set_cons_zero, List.set_cons_succ]
              refine wl_step (st_val rfl (v_moveT (.inl rfl) rfl) ?_)
              simp only [Act.put, List.setIfInBounds_toArray, List.set_cons_zero, List.set_cons_succ]
              refine wl_step (st_val rfl (v_indexSs (s := 4) rfl rfl rfl Tryd.underlying22 (by kernel_rfl) hjl) ?_)
              simp only [Act.put, List.setIfInBounds_toArray, List.set_cons_zero, List.set_cons_succ]
              refine wl_step (st_val rfl (v_fieldK (s := 0) rfl rfl Tryd.underlying36 rfl (by kernel_rfl) rfl) ?_)
              simp only [Act.put, List.setIfInBounds_toArray, List.set_cons_zero, List.set_cons_succ]
              refine wl_step (st_val rfl (v_cellR (v := .slice (some ⟨b2, off2, none⟩) o.L.length cL) (j := 3) (Hran.out _ hE0.below) rfl rfl rfl Tryd.underlying31 rfl) ?_)
              simp only [Act.put, List.setIfInBounds_toArray, List.set_cons_zero, List.set_cons_succ]
              refine wl_step (st_val rfl (v_len rfl rfl Tryd.underlying31 hL63) ?_)
              simp only [Act.put, List.setIfInBounds_toArray, List.set_cons_zero, List.set_cons_succ]
              refine wl_step (st_val rfl (v_lss rfl rfl rfl) ?_)
              simp only [Act.put, List.setIfInBounds_toArray, List.set_cons_zero, List.set_cons_succ]
              rw [d4.out]
              repeat ((fail_if_success (with_reducible show wpList _ _ _ (List.cons _ _) _ _)); (fail_if_success (with_reducible show Code.wp _ (Code.region _ _ true) _ _ _)); (fail_if_success (with_reducible show Code.wp _ (Code.cond _ _ _) _ _ _)); go_step)
              refine wp_cond_true (by first | rfl | exact congrArg Value.bool (decide_eq_true (by omega))) ?_
              skip
              repeat ((fail_if_success (with_reducible show wpList _ _ _ (List.cons _ _) _ _)); (fail_if_success (with_reducible show Code.wp _ (Code.region _ _ true) _ _ _)); go_step)
              refine wl_step (st_val rfl (v_moveT (.inl rfl) rfl) ?_)
              simp only [Act.put, List.setIfInBounds_toArray, List.set_cons_zero, List.set_cons_succ]
              refine wl_step (st_val rfl (v_moveT (.inl rfl) rfl) ?_)
              simp only [Act.put, List.setIfInBounds_toArray, List.set_cons_zero, List.set_cons_succ]
              refine wl_step (st_val rfl (v_indexSs (s := 4) rfl rfl rfl Tryd.underlying22 (by kernel_rfl) hjl) ?_)
              simp only [Act.put, List.setIfInBounds_toArray, List.set_cons_zero, List.set_cons_succ]
              refine wl_step (st_val rfl (v_fieldK (s := 0) rfl rfl Tryd.underlying36 rfl (by kernel_rfl) rfl) ?_)
              simp only [Act.put, List.setIfInBounds_toArray, List.set_cons_zero, List.set_cons_succ]
              refine wl_step (st_val rfl (v_cellR (v := .slice (some ⟨b2, off2, none⟩) o.L.length cL) (j := 3) (Hran.out _ hE0.below) rfl rfl rfl Tryd.underlying31 rfl) ?_)
              simp only [Act.put, List.setIfInBounds_toArray, List.set_cons_zero, List.set_cons_succ]
              refine wl_step (st_val rfl (v_moveT (.inl rfl) rfl) ?_)
              simp only [Act.put, List.setIfInBounds_toArray, List.set_cons_zero, List.set_cons_succ]
              refine wl_step (st_val rfl (v_indexSs (s := 3) rfl rfl rfl Tryd.underlying31 (by kernel_rfl) hkl) ?_)
              simp only [Act.put, List.setIfInBounds_toArray, List.set_cons_zero, List.set_cons_succ]
              refine wl_step (st_val rfl (v_fieldK (s := 0) rfl rfl Tryd.underlying43 rfl (by kernel_rfl) rfl) ?_)
              simp only [Act.put, List.setIfInBounds_toArray, List.set_cons_zero, List.set_cons_succ]
              refine wl_step (st_val rfl (v_cellR (v := .slice pm m.by'.length cm) (j := 2) (Hran2.out _ hE0.below) rfl rfl rfl Tryd.underlying41 rfl) ?_)
              simp only [Act.put, List.setIfInBounds_toArray, List.set_cons_zero, List.set_cons_succ]
              refine wl_step (st_val rfl (v_len rfl rfl Tryd.underlying41 hm633) ?_)
              simp only [Act.put, List.setIfInBounds_toArray, List.set_cons_zero, List.set_cons_succ]
              refine wl_step (st_val rfl (v_gtr (n := 60) rfl rfl rfl) ?_)
              simp only [Act.put, List.setIfInBounds_toArray, List.set_cons_zero, List.set_cons_succ]
              by_cases h60 : 60 < m.by'.length
              · have d5 := Lib.hid (decide_eq_true h60)
                have e1 := Hyes.out (fun h => by have := (h.2 o hmo).2 m hmm; omega)
                subst e1
                rw [d5.out]
                repeat ((fail_if_success (with_reducible show wpList _ _ _ (List.cons _ _) _ _)); (fail_if_success (with_reducible show Code.wp _ (Code.region _ _ true) _ _ _)); (fail_if_success (with_reducible show Code.wp _ (Code.cond _ _ _) _ _ _)); go_step)
                refine wp_cond_true (by first | rfl | exact congrArg Value.bool (decide_eq_true (by omega))) ?_
                skip
                repeat ((fail_if_success (with_reducible show wpList _ _ _ (List.cons _ _) _ _)); (fail_if_success (with_reducible show Code.wp _ (Code.region _ _ true) _ _ _)); go_step)
                refine wl_step (st_val rfl (v_moveC (.inr rfl)) ?_)
                simp only [Act.put, List.setIfInBounds_toArray, List.set_cons_zero, List.set_cons_succ]
                repeat ((fail_if_success (with_reducible show wpList _ _ _ (List.cons _ _) _ _)); (fail_if_success (with_reducible show Code.wp _ (Code.region _ _ true) _ _ _)); go_step)
                go_returns
                exact ⟨rfl, hE0.below⟩
              · have d5 := Lib.hid (decide_eq_false h60)
                rw [d5.out]
                repeat ((fail_if_success (with_reducible show wpList _ _ _ (List.cons _ _) _ _)); (fail_if_success (with_reducible show Code.wp _ (Code.region _ _ true) _ _ _)); (fail_if_success (with_reducible show Code.wp _ (Code.cond _ _ _) _ _ _)); go_step)
                refine wp_cond_false (by first | rfl | exact congrArg Value.bool (decide_eq_false (by omega))) ?_
                skip
                repeat ((fail_if_success (with_reducible show wpList _ _ _ (List.cons _ _) _ _)); (fail_if_success (with_reducible show Code.wp _ (Code.region _ _ true) _ _ _)); go_step)
                refine wl_step (st_val rfl (v_moveT (.inl rfl) rfl) ?_)
                simp only [Act.put, List.setIfInBounds_toArray, List.set_cons_zero, List.set_cons_succ]
                refine wl_step (st_val rfl (v_add (n := 1) rfl rfl rfl (w_i64 (by omega))) ?_)
                simp only [Act.put, List.setIfInBounds_toArray, List.set_cons_zero, List.set_cons_succ]
                refine wl_step (st_val rfl (v_moveT (.inr rfl) rfl) ?_)
                simp only [Act.put, List.setIfInBounds_toArray, List.set_cons_zero, List.set_cons_succ]
                go_wp2
                go_roundw
                case rel =>
                  refine ⟨k + 1, by omega, rfl, fun q hq m' hm' => ?_, hE0⟩
                  rcases Nat.lt_or_ge q k with h | h
                  · exact Hok2.out q h m' hm'
                  · have : q = k := by omega
                    subst this
                    rw [Hgm.out] at hm'
                    injection hm' with hm'
                    subst hm'
                    omega
                case measure => simp [intOf]; omega
            · have hk' : k = o.L.length := by omega
              subst hk'
              have d4 := Lib.hid (decide_eq_false hkl)
              have Hok2 := Lib.hid hok2
              clear hok2
              repeat ((fail_if_success (with_reducible show wpList _ _ _ (List.cons _ _) _ _)); (fail_if_success (with_reducible show Code.wp _ (Code.region _ _ true) _ _ _)); go_step)
              refine wl_step (st_val rfl (v_moveT (.inl rfl) rfl) ?_)
              simp only [Act.put, List.setIfInBounds_toArray, List.set_cons_zero, List.set_cons_succ]
              refine wl_step (st_val rfl (v_moveT (.inl rfl) rfl) ?_)
              simp only [Act.put, List.setIfInBounds_toArray, List.set_cons_zero, List.set_cons_succ]
              refine wl_step (st_val rfl (v_moveT (.inl rfl) rfl) ?_)
              simp only [Act.put, List.setIfInBounds_toArray, List.set_cons_zero, List.set_cons_succ]
              refine wl_step (st_val rfl (v_indexSs (s := 4) rfl rfl rfl Tryd.underlying22 (by kernel_rfl) hjl) ?_)
              simp only [Act.put, List.setIfInBounds_toArray, List.set_cons_zero, List.set_cons_succ]
              refine wl_step (st_val rfl (v_fieldK (s := 0) rfl rfl Tryd.underlying36 rfl (by kernel_rfl) rfl) ?_)
              simp only [Act.put, List.setIfInBounds_toArray, List.set_cons_zero, List.set_cons_succ]
              refine wl_step (st_val rfl (v_cellR (v := .slice pL o.L.length cL) (j := 3) (Hran.out _ hE0.below) rfl rfl rfl Tryd.underlying31 rfl) ?_)
              simp only [Act.put, List.setIfInBounds_toArray, List.set_cons_zero, List.set_cons_succ]
              refine wl_step (st_val rfl (v_len rfl rfl Tryd.underlying31 hL63) ?_)
              simp only [Act.put, List.setIfInBounds_toArray, List.set_cons_zero, List.set_cons_succ]
              refine wl_step (st_val rfl (v_lss rfl rfl rfl) ?_)
              simp only [Act.put, List.setIfInBounds_toArray, List.set_cons_zero, List.set_cons_succ]
              rw [d4.out]
              repeat ((fail_if_success (with_reducible show wpList _ _ _ (List.cons _ _) _ _)); (fail_if_success (with_reducible show Code.wp _ (Code.region _ _ true) _ _ _)); (fail_if_success (with_reducible show Code.wp _ (Code.cond _ _ _) _ _ _)); go_step)
              refine wp_cond_false (by first | rfl | exact congrArg Value.bool (decide_eq_false (by omega))) ?_
              skip
              repeat ((fail_if_success (with_reducible show wpList _ _ _ (List.cons _ _) _ _)); (fail_if_success (with_reducible show Code.wp _ (Code.region _ _ true) _ _ _)); go_step)
              refine wl_step (st_val rfl (v_moveT (.inl rfl) rfl) ?_)
              simp only [Act.put, List.setIfInBounds_toArray, List.set_cons_zero, List.set_cons_succ]
              refine wl_step (st_val rfl (v_add (n := 1) rfl rfl rfl (w_i64 (by omega))) ?_)
              simp only [Act.put, List.setIfInBounds_toArray, List.set_cons_zero, List.set_cons_succ]
              refine wl_step (st_val rfl (v_moveT (.inr rfl) rfl) ?_)
              simp only [Act.put, List.setIfInBounds_toArray, List.set_cons_zero, List.set_cons_succ]
              go_wp2
              go_roundw
              case rel =>
                refine ⟨j + 1, by omega, rfl, fun q hq o' ho' => ?_, hE0⟩
                rcases Nat.lt_or_ge q j with h | h
                · exact Hok.out q h o' ho'
                · have : q = j := by omega
                  subst this
                  rw [Hg.out] at ho'
                  injection ho' with ho'
                  subst ho'
                  refine ⟨by omega, fun m hm => ?_⟩
                  obtain ⟨q, hq, rfl⟩ := List.getElem_of_mem hm
                  exact Hok2.out q hq _ (List.getElem?_eq_getElem hq)
              case measure => simp [intOf]; omega
      · have hj' : j = O.length := by omega
        subst hj'
        have d2 := Lib.hid (decide_eq_false hjl)
        have hB0 : B = false := HBB.out.2 ⟨by omega, fun o ho => by
          obtain ⟨q, hq, rfl⟩ := List.getElem_of_mem ho
          exact hok q hq _ (List.getElem?_eq_getElem hq)⟩
        subst hB0
        clear hok
        repeat ((fail_if_success (with_reducible show wpList _ _ _ (List.cons _ _) _ _)); (fail_if_success (with_reducible show Code.wp _ (Code.region _ _ true) _ _ _)); go_step)
        refine wl_step (st_val rfl (v_moveT (.inl rfl) rfl) ?_)
        simp only [Act.put, List.setIfInBounds_toArray, List.set_cons_zero, List.set_cons_succ]
        refine wl_step (st_val rfl (v_moveT (.inl rfl) rfl) ?_)
        simp only [Act.put, List.setIfInBounds_toArray, List.set_cons_zero, List.set_cons_succ]
        refine wl_step (st_val rfl (v_len rfl rfl Tryd.underlying22 hm63) ?_)
        simp only [Act.put, List.setIfInBounds_toArray, List.set_cons_zero, List.set_cons_succ]
        refine wl_step (st_val rfl (v_lss rfl rfl rfl) ?_)
        simp only [Act.put, List.setIfInBounds_toArray, List.set_cons_zero, List.set_cons_succ]
        rw [d2.out]
        repeat ((fail_if_success (with_reducible show wpList _ _ _ (List.cons _ _) _ _)); (fail_if_success (with_reducible show Code.wp _ (Code.region _ _ true) _ _ _)); (fail_if_success (with_reducible show Code.wp _ (Code.cond _ _ _) _ _ _)); go_step)
        refine wp_cond_false (by first | rfl | exact congrArg Value.bool (decide_eq_false (by omega))) ?_
        skip
        repeat ((fail_if_success (with_reducible show wpList _ _ _ (List.cons _ _) _ _)); (fail_if_success (with_reducible show Code.wp _ (Code.region _ _ true) _ _ _)); go_step)
        refine wl_step (st_val rfl (v_moveC (.inr rfl)) ?_)
        simp only [Act.put, List.setIfInBounds_toArray, List.set_cons_zero, List.set_cons_succ]
        repeat ((fail_if_success (with_reducible show wpList _ _ _ (List.cons _ _) _ _)); (fail_if_success (with_reducible show Code.wp _ (Code.region _ _ true) _ _ _)); go_step)
        go_returns
        exact ⟨rfl, hE0.below⟩
end Go.Proofs.YtnbbehgcnodfbaaDoor
