/-
  Layer 3: 'DigestHex': what the bytes' digits stand for; a string that is no bytes' digits is told so. Condition: the variable errors.errorType is as the program's text lays it (the card ties it).
-/
import Derived.Test.YtndnmghlgcamfaaDoorDigX
import Derived.Test.YtndnmghlgcamfaaDoorErrC
import Derived.Test.YtndnmghlgcamfaaDoorFrame
import Derived.Test.YtndnmghlgcamfaaDoorOpn
import Derived.Test.YtndnmghlgcamfaaDoorCards
import Derived.Test.YtndnmghlgcamfaaDoorTie
import Derived.SevenTiedAt
import Derived.ChangeMaps5
namespace Go.Proofs.YtndnmghlgcamfaaDoor
open Go.ChangeShapes Go.WideShapes Go.ChangeAt Go.RowKit
set_option maxRecDepth 100000
set_option linter.unusedVariables false
set_option linter.unusedSimpArgs false

section
variable {P : Program} {ops : Array Oper} {Q : Exit → Act → World → Prop} {a : Act} {w : World} {o : Oper} {rest : List Oper} {v : Value}
theorem wl_valS (hw : Region.wanted o (yielded ops a.tmps) = true) (h : Val P o a v w) (k : wpList P ops Q rest (a.put o.dst v) w) : wpList P ops Q (o :: rest) a w := wl_step (st_val hw h k)
theorem wl_skipS (hw : Region.wanted o (yielded ops a.tmps) = false) (k : wpList P ops Q rest (a.put o.dst undef) w) : wpList P ops Q (o :: rest) a w := wl_step (st_skip hw k)
end
theorem bytesOf_all (s : ByteArray) (hs : s.size ≤ maxLen) : ∃ l, s = bytesOf l ∧ Digs 256 l ∧ l.length ≤ maxLen := by
  refine ⟨s.data.toList.map UInt8.toNat, ?_, fun x hx => ?_, ?_⟩
  · apply ByteArray.ext
    simp only [bytesOf, List.map_map]
    have e : (UInt8.ofNat ∘ UInt8.toNat) = (id : UInt8 → UInt8) := by
      funext b
      exact UInt8.ofNat_toNat
    rw [e, List.map_id]
  · obtain ⟨b, -, rfl⟩ := List.mem_map.1 hx
    exact b.toNat_lt
  · rw [List.length_map]
    exact hs
theorem Bytes01_same {l : List Nat} {v u : Value} {w : World} (hv : RdS .u8 l v w) (hu : RdS .u8 l u w) (hl : l.length < 1000000) : Gives 8 #[v, u] w (.bool true) := by
  refine (Bytes01_any hv hu hl hl).mono ?_
  rintro e w' ⟨he, hb⟩
  refine ⟨?_, hb⟩
  rw [he, decide_eq_true rfl]
theorem Parse_yes {l m : List Nat} {w : World} (dl : Digs 256 l) (hl : l.length < 1000000) (hu : unhex l = some m) : Calls Tryd.prog 6 #[.string (bytesOf l)] w fun e w' => ∃ v, e = .returned (.tuple #[v, .nilIface]) ∧ Below w.heap.size w w' ∧ RdS .u8 m v w' := by
  refine (Parse_any dl hl).mono ?_
  rintro e w' ⟨hb, ⟨m', v, h1, he, hr⟩ | ⟨h1, he⟩⟩
  · rw [hu] at h1
    injection h1 with h1
    subst h1
    exact ⟨v, he, hb, hr⟩
  · rw [hu] at h1
    cases h1
theorem Parse_no {l : List Nat} {w : World} (dl : Digs 256 l) (hl : l.length < 1000000) (hu : unhex l = none) : Gives 6 #[.string (bytesOf l)] w (.tuple #[.slice none 0 0, errC 2]) := by
  refine (Parse_any dl hl).mono ?_
  rintro e w' ⟨hb, ⟨m', v, h1, he, hr⟩ | ⟨h1, he⟩⟩
  · rw [hu] at h1
    cases h1
  · exact ⟨he, hb⟩
theorem hexN_mem_len {m x : List Nat} (h : hexN x = m) : 2 * x.length = m.length := by rw [← h, hexN_len]
theorem all_take {l : List Nat} {i c : Nat} {f : Nat → Bool} (h : l[i]? = some c) : (l.take (i + 1)).all f = ((l.take i).all f && f c) := by
  have hi := (List.getElem?_eq_some_iff.1 h).1
  rw [List.take_succ_eq_append_getElem hi, (List.getElem?_eq_some_iff.1 h).2, List.all_append]
  simp

set_option maxHeartbeats 16000000 in
theorem digestHex_walk {l m : List Nat} {v : Value} {w : World} (hh : Handled w) (hv : RdS .u8 l v w) (dl : Digs 256 l) (hlm : l.length ≤ maxLen) (dm : Digs 256 m) (hmm : m.length ≤ maxLen) : Gives 3 #[v, .string (bytesOf m)] w (.bool true) := by
  unfold maxLen at hlm hmm
  obtain ⟨p, c, rfl, hc, -⟩ := id hv
  have Hv := Lib.hid hv
  have hl63 : l.length < 9223372036854775808 := by omega
  have hm63 : m.length < 9223372036854775808 := by omega
  clear hv
  have hE0 := Env.nil w
  have hE0 := Env.nil w
  go_enter Tryd.func3, Tryd.ntmps3
  by_cases h1 : 300 < l.length
  · have d1 := Lib.hid (decide_eq_true h1)
    repeat ((fail_if_success (with_reducible show wpList _ _ _ (List.cons _ _) _ _)); (fail_if_success (with_reducible show Code.wp _ (Code.region _ _ true) _ _ _)); go_step)
    (with_reducible refine' wl_valS ?_ ?_ ?_); rotate_left; exact rfl; exact (v_moveC (.inr rfl))
    simp only [Act.put, List.setIfInBounds_toArray, List.set_cons_zero, List.set_cons_succ]
    repeat ((fail_if_success (with_reducible show wpList _ _ _ (List.cons _ _) _ _)); (fail_if_success (with_reducible show Code.wp _ (Code.region _ _ true) _ _ _)); go_step)
    (with_reducible refine' wl_valS ?_ ?_ ?_); rotate_left; exact rfl; exact (v_moveT (.inl rfl) rfl)
    simp only [Act.put, List.setIfInBounds_toArray, List.set_cons_zero, List.set_cons_succ]
    (with_reducible refine' wl_valS ?_ ?_ ?_); rotate_left; exact rfl; exact (v_len rfl rfl Tryd.underlying22 hl63)
    simp only [Act.put, List.setIfInBounds_toArray, List.set_cons_zero, List.set_cons_succ]
    (with_reducible refine' wl_valS ?_ ?_ ?_); rotate_left; exact rfl; exact (v_gtr (n := 300) rfl rfl rfl)
    simp only [Act.put, List.setIfInBounds_toArray, List.set_cons_zero, List.set_cons_succ]
    rw [d1.out]
    (with_reducible refine' wl_valS ?_ ?_ ?_); rotate_left; exact rfl; exact (v_moveT (.inl rfl) rfl)
    simp only [Act.put, List.setIfInBounds_toArray, List.set_cons_zero, List.set_cons_succ]
    (with_reducible refine wl_skipS ?_ ?_); exact rfl
    simp only [Act.put, List.setIfInBounds_toArray, List.set_cons_zero, List.set_cons_succ]
    (with_reducible refine wl_skipS ?_ ?_); exact rfl
    simp only [Act.put, List.setIfInBounds_toArray, List.set_cons_zero, List.set_cons_succ]
    (with_reducible refine wl_skipS ?_ ?_); exact rfl
    simp only [Act.put, List.setIfInBounds_toArray, List.set_cons_zero, List.set_cons_succ]
    (with_reducible refine' wl_valS ?_ ?_ ?_); rotate_left; exact rfl; exact (v_orT rfl rfl)
    simp only [Act.put, List.setIfInBounds_toArray, List.set_cons_zero, List.set_cons_succ]
    repeat ((fail_if_success (with_reducible show wpList _ _ _ (List.cons _ _) _ _)); (fail_if_success (with_reducible show Code.wp _ (Code.region _ _ true) _ _ _)); (fail_if_success (with_reducible show Code.wp _ (Code.cond _ _ _) _ _ _)); go_step)
    refine wp_cond_true (by first | rfl | exact congrArg Value.bool (decide_eq_true (by omega))) ?_
    skip
    repeat ((fail_if_success (with_reducible show wpList _ _ _ (List.cons _ _) _ _)); (fail_if_success (with_reducible show Code.wp _ (Code.region _ _ true) _ _ _)); go_step)
    refine wl_step (st_gives hE0 rfl (run_call rfl Tryd.call4) (awake_any _) ?_)
    intro w1 hb1 hE1
    clear hE0
    simp only [Act.put, List.setIfInBounds_toArray, List.set_cons_zero, List.set_cons_succ]
    (with_reducible refine' wl_valS ?_ ?_ ?_); rotate_left; exact rfl; exact (v_moveT (.inr rfl) rfl)
    simp only [Act.put, List.setIfInBounds_toArray, List.set_cons_zero, List.set_cons_succ]
    repeat ((fail_if_success (with_reducible show wpList _ _ _ (List.cons _ _) _ _)); (fail_if_success (with_reducible show Code.wp _ (Code.region _ _ true) _ _ _)); go_step)
    go_returns
    exact ⟨rfl, hE1.below⟩
  · have d1 := Lib.hid (decide_eq_false h1)
    by_cases h2 : 300 < m.length
    · have d2 := Lib.hid (decide_eq_true h2)
      repeat ((fail_if_success (with_reducible show wpList _ _ _ (List.cons _ _) _ _)); (fail_if_success (with_reducible show Code.wp _ (Code.region _ _ true) _ _ _)); go_step)
      (with_reducible refine' wl_valS ?_ ?_ ?_); rotate_left; exact rfl; exact (v_moveC (.inr rfl))
      simp only [Act.put, List.setIfInBounds_toArray, List.set_cons_zero, List.set_cons_succ]
      repeat ((fail_if_success (with_reducible show wpList _ _ _ (List.cons _ _) _ _)); (fail_if_success (with_reducible show Code.wp _ (Code.region _ _ true) _ _ _)); go_step)
      (with_reducible refine' wl_valS ?_ ?_ ?_); rotate_left; exact rfl; exact (v_moveT (.inl rfl) rfl)
      simp only [Act.put, List.setIfInBounds_toArray, List.set_cons_zero, List.set_cons_succ]
      (with_reducible refine' wl_valS ?_ ?_ ?_); rotate_left; exact rfl; exact (v_len rfl rfl Tryd.underlying22 hl63)
      simp only [Act.put, List.setIfInBounds_toArray, List.set_cons_zero, List.set_cons_succ]
      (with_reducible refine' wl_valS ?_ ?_ ?_); rotate_left; exact rfl; exact (v_gtr (n := 300) rfl rfl rfl)
      simp only [Act.put, List.setIfInBounds_toArray, List.set_cons_zero, List.set_cons_succ]
      rw [d1.out]
      (with_reducible refine' wl_valS ?_ ?_ ?_); rotate_left; exact rfl; exact (v_moveT (.inl rfl) rfl)
      simp only [Act.put, List.setIfInBounds_toArray, List.set_cons_zero, List.set_cons_succ]
      (with_reducible refine' wl_valS ?_ ?_ ?_); rotate_left; exact rfl; exact (v_moveT (.inl rfl) rfl)
      simp only [Act.put, List.setIfInBounds_toArray, List.set_cons_zero, List.set_cons_succ]
      (with_reducible refine' wl_valS ?_ ?_ ?_); rotate_left; exact rfl; exact (v_lenStr rfl rfl Tryd.underlying9 hm63)
      simp only [Act.put, List.setIfInBounds_toArray, List.set_cons_zero, List.set_cons_succ]
      (with_reducible refine' wl_valS ?_ ?_ ?_); rotate_left; exact rfl; exact (v_gtr (n := 300) rfl rfl rfl)
      simp only [Act.put, List.setIfInBounds_toArray, List.set_cons_zero, List.set_cons_succ]
      rw [d2.out]
      (with_reducible refine' wl_valS ?_ ?_ ?_); rotate_left; exact rfl; exact (v_orF rfl rfl rfl)
      simp only [Act.put, List.setIfInBounds_toArray, List.set_cons_zero, List.set_cons_succ]
      repeat ((fail_if_success (with_reducible show wpList _ _ _ (List.cons _ _) _ _)); (fail_if_success (with_reducible show Code.wp _ (Code.region _ _ true) _ _ _)); (fail_if_success (with_reducible show Code.wp _ (Code.cond _ _ _) _ _ _)); go_step)
      refine wp_cond_true (by first | rfl | exact congrArg Value.bool (decide_eq_true (by omega))) ?_
      skip
      repeat ((fail_if_success (with_reducible show wpList _ _ _ (List.cons _ _) _ _)); (fail_if_success (with_reducible show Code.wp _ (Code.region _ _ true) _ _ _)); go_step)
      refine wl_step (st_gives hE0 rfl (run_call rfl Tryd.call4) (awake_any _) ?_)
      intro w1 hb1 hE1
      clear hE0
      simp only [Act.put, List.setIfInBounds_toArray, List.set_cons_zero, List.set_cons_succ]
      (with_reducible refine' wl_valS ?_ ?_ ?_); rotate_left; exact rfl; exact (v_moveT (.inr rfl) rfl)
      simp only [Act.put, List.setIfInBounds_toArray, List.set_cons_zero, List.set_cons_succ]
      repeat ((fail_if_success (with_reducible show wpList _ _ _ (List.cons _ _) _ _)); (fail_if_success (with_reducible show Code.wp _ (Code.region _ _ true) _ _ _)); go_step)
      go_returns
      exact ⟨rfl, hE1.below⟩
    · have d2 := Lib.hid (decide_eq_false h2)
      have hlM : l.length < 1000000 := by omega
      have hmM : m.length < 1000000 := by omega
      have hlH : l.length < 549755813888 := by omega
      have hhl : (hexN l).length < 1000000 := by rw [hexN_len]; omega
      have Hhd := Lib.hid (hexN_Digs dl)
      have Huh := Lib.hid (unhex_hexN dl)
      have Dl := Lib.hid dl
      have Dm := Lib.hid dm
      clear h1 h2 hlm hmm dl dm
      repeat ((fail_if_success (with_reducible show wpList _ _ _ (List.cons _ _) _ _)); (fail_if_success (with_reducible show Code.wp _ (Code.region _ _ true) _ _ _)); go_step)
      (with_reducible refine' wl_valS ?_ ?_ ?_); rotate_left; exact rfl; exact (v_moveC (.inr rfl))
      simp only [Act.put, List.setIfInBounds_toArray, List.set_cons_zero, List.set_cons_succ]
      repeat ((fail_if_success (with_reducible show wpList _ _ _ (List.cons _ _) _ _)); (fail_if_success (with_reducible show Code.wp _ (Code.region _ _ true) _ _ _)); go_step)
      (with_reducible refine' wl_valS ?_ ?_ ?_); rotate_left; exact rfl; exact (v_moveT (.inl rfl) rfl)
      simp only [Act.put, List.setIfInBounds_toArray, List.set_cons_zero, List.set_cons_succ]
      (with_reducible refine' wl_valS ?_ ?_ ?_); rotate_left; exact rfl; exact (v_len rfl rfl Tryd.underlying22 hl63)
      simp only [Act.put, List.setIfInBounds_toArray, List.set_cons_zero, List.set_cons_succ]
      (with_reducible refine' wl_valS ?_ ?_ ?_); rotate_left; exact rfl; exact (v_gtr (n := 300) rfl rfl rfl)
      simp only [Act.put, List.setIfInBounds_toArray, List.set_cons_zero, List.set_cons_succ]
      rw [d1.out]
      (with_reducible refine' wl_valS ?_ ?_ ?_); rotate_left; exact rfl; exact (v_moveT (.inl rfl) rfl)
      simp only [Act.put, List.setIfInBounds_toArray, List.set_cons_zero, List.set_cons_succ]
      (with_reducible refine' wl_valS ?_ ?_ ?_); rotate_left; exact rfl; exact (v_moveT (.inl rfl) rfl)
      simp only [Act.put, List.setIfInBounds_toArray, List.set_cons_zero, List.set_cons_succ]
      (with_reducible refine' wl_valS ?_ ?_ ?_); rotate_left; exact rfl; exact (v_lenStr rfl rfl Tryd.underlying9 hm63)
      simp only [Act.put, List.setIfInBounds_toArray, List.set_cons_zero, List.set_cons_succ]
      (with_reducible refine' wl_valS ?_ ?_ ?_); rotate_left; exact rfl; exact (v_gtr (n := 300) rfl rfl rfl)
      simp only [Act.put, List.setIfInBounds_toArray, List.set_cons_zero, List.set_cons_succ]
      rw [d2.out]
      (with_reducible refine' wl_valS ?_ ?_ ?_); rotate_left; exact rfl; exact (v_orF rfl rfl rfl)
      simp only [Act.put, List.setIfInBounds_toArray, List.set_cons_zero, List.set_cons_succ]
      repeat ((fail_if_success (with_reducible show wpList _ _ _ (List.cons _ _) _ _)); (fail_if_success (with_reducible show Code.wp _ (Code.region _ _ true) _ _ _)); (fail_if_success (with_reducible show Code.wp _ (Code.cond _ _ _) _ _ _)); go_step)
      refine wp_cond_false (by first | rfl | exact congrArg Value.bool (decide_eq_false (by omega))) ?_
      skip
      repeat ((fail_if_success (with_reducible show wpList _ _ _ (List.cons _ _) _ _)); (fail_if_success (with_reducible show Code.wp _ (Code.region _ _ true) _ _ _)); go_step)
      (with_reducible refine' wl_valS ?_ ?_ ?_); rotate_left; exact rfl; exact (v_moveT (.inl rfl) rfl)
      simp only [Act.put, List.setIfInBounds_toArray, List.set_cons_zero, List.set_cons_succ]
      refine wl_step (st_gives hE0 rfl (run_call rfl Tryd.call5) (Hex_any (Hv.out.below hE0.below) Dl.out hlH) ?_)
      intro w1 hb1 hE1
      clear hE0
      simp only [Act.put, List.setIfInBounds_toArray, List.set_cons_zero, List.set_cons_succ]
      (with_reducible refine' wl_valS ?_ ?_ ?_); rotate_left; exact rfl; exact (v_moveT (.inr rfl) rfl)
      simp only [Act.put, List.setIfInBounds_toArray, List.set_cons_zero, List.set_cons_succ]
      repeat ((fail_if_success (with_reducible show wpList _ _ _ (List.cons _ _) _ _)); (fail_if_success (with_reducible show Code.wp _ (Code.region _ _ true) _ _ _)); go_step)
      (with_reducible refine' wl_valS ?_ ?_ ?_); rotate_left; exact rfl; exact (v_moveT (.inl rfl) rfl)
      simp only [Act.put, List.setIfInBounds_toArray, List.set_cons_zero, List.set_cons_succ]
      refine wl_step (st_calls rfl (run_call rfl Tryd.call6) (Parse_yes Hhd.out hhl Huh.out) ?_)
      rintro _ w2 ⟨vB, rfl, hb2, hrB⟩
      have hE2 := hE1.call hb2
      refine ⟨_, rfl, ?_⟩
      clear hE1
      simp only [Act.put, List.setIfInBounds_toArray, List.set_cons_zero, List.set_cons_succ]
      (with_reducible refine' wl_valS ?_ ?_ ?_); rotate_left; exact rfl; exact (v_moveT (.inl rfl) rfl)
      simp only [Act.put, List.setIfInBounds_toArray, List.set_cons_zero, List.set_cons_succ]
      (with_reducible refine' wl_valS ?_ ?_ ?_); rotate_left; exact rfl; exact (v_extract rfl rfl rfl)
      simp only [Act.put, List.setIfInBounds_toArray, List.set_cons_zero, List.set_cons_succ]
      (with_reducible refine' wl_valS ?_ ?_ ?_); rotate_left; exact rfl; exact (v_extract rfl rfl rfl)
      simp only [Act.put, List.setIfInBounds_toArray, List.set_cons_zero, List.set_cons_succ]
      (with_reducible refine' wl_valS ?_ ?_ ?_); rotate_left; exact rfl; exact (v_moveT (.inr rfl) rfl)
      simp only [Act.put, List.setIfInBounds_toArray, List.set_cons_zero, List.set_cons_succ]
      (with_reducible refine' wl_valS ?_ ?_ ?_); rotate_left; exact rfl; exact (v_moveT (.inr rfl) rfl)
      simp only [Act.put, List.setIfInBounds_toArray, List.set_cons_zero, List.set_cons_succ]
      obtain ⟨pB, cB, rfl, hcB, -⟩ := id hrB
      have HrB : Hid (∀ w', Below (w2).heap.size w2 w' → RdS .u8 l (.slice pB l.length cB) w') := Lib.hid (fun w' hb => hrB.below hb)
      clear hrB
      repeat ((fail_if_success (with_reducible show wpList _ _ _ (List.cons _ _) _ _)); (fail_if_success (with_reducible show Code.wp _ (Code.region _ _ true) _ _ _)); go_step)
      (with_reducible refine' wl_valS ?_ ?_ ?_); rotate_left; exact rfl; exact (v_moveT (.inl rfl) rfl)
      simp only [Act.put, List.setIfInBounds_toArray, List.set_cons_zero, List.set_cons_succ]
      (with_reducible refine' wl_valS ?_ ?_ ?_); rotate_left; exact rfl; exact (v_moveT (.inl rfl) rfl)
      simp only [Act.put, List.setIfInBounds_toArray, List.set_cons_zero, List.set_cons_succ]
      refine wl_step (st_gives hE2 rfl (run_call rfl Tryd.call7) (rHex_any (Hv.out.below hE2.below) Dl.out hlM) ?_)
      intro w3 hb3 hE3
      clear hE2
      simp only [Act.put, List.setIfInBounds_toArray, List.set_cons_zero, List.set_cons_succ]
      (with_reducible refine' wl_valS ?_ ?_ ?_); rotate_left; exact rfl; exact (v_neqStrF rfl rfl rfl rfl)
      simp only [Act.put, List.setIfInBounds_toArray, List.set_cons_zero, List.set_cons_succ]
      (with_reducible refine' wl_valS ?_ ?_ ?_); rotate_left; exact rfl; exact (v_moveT (.inl rfl) rfl)
      simp only [Act.put, List.setIfInBounds_toArray, List.set_cons_zero, List.set_cons_succ]
      (with_reducible refine' wl_valS ?_ ?_ ?_); rotate_left; exact rfl; exact (v_moveT (.inl rfl) rfl)
      simp only [Act.put, List.setIfInBounds_toArray, List.set_cons_zero, List.set_cons_succ]
      (with_reducible refine' wl_valS ?_ ?_ ?_); rotate_left; exact rfl; exact (v_run fun w9 => by go_simp; with_reducible rfl)
      simp only [Act.put, List.setIfInBounds_toArray, List.set_cons_zero, List.set_cons_succ]
      (with_reducible refine' wl_valS ?_ ?_ ?_); rotate_left; exact rfl; exact (v_orF rfl rfl rfl)
      simp only [Act.put, List.setIfInBounds_toArray, List.set_cons_zero, List.set_cons_succ]
      (with_reducible refine' wl_valS ?_ ?_ ?_); rotate_left; exact rfl; exact (v_moveT (.inl rfl) rfl)
      simp only [Act.put, List.setIfInBounds_toArray, List.set_cons_zero, List.set_cons_succ]
      (with_reducible refine' wl_valS ?_ ?_ ?_); rotate_left; exact rfl; exact (v_moveT (.inl rfl) rfl)
      simp only [Act.put, List.setIfInBounds_toArray, List.set_cons_zero, List.set_cons_succ]
      (with_reducible refine' wl_valS ?_ ?_ ?_); rotate_left; exact rfl; exact (v_moveT (.inl rfl) rfl)
      simp only [Act.put, List.setIfInBounds_toArray, List.set_cons_zero, List.set_cons_succ]
      refine wl_step (st_gives hE3 rfl (run_call rfl Tryd.call8) (Bytes01_same (HrB.out _ hb3) (Hv.out.below hE3.below) hlM) ?_)
      intro w4 hb4 hE4
      clear hE3
      simp only [Act.put, List.setIfInBounds_toArray, List.set_cons_zero, List.set_cons_succ]
      (with_reducible refine' wl_valS ?_ ?_ ?_); rotate_left; exact rfl; exact (v_not rfl rfl)
      simp only [Act.put, List.setIfInBounds_toArray, List.set_cons_zero, List.set_cons_succ]
      (with_reducible refine' wl_valS ?_ ?_ ?_); rotate_left; exact rfl; exact (v_orF rfl rfl rfl)
      simp only [Act.put, List.setIfInBounds_toArray, List.set_cons_zero, List.set_cons_succ]
      repeat ((fail_if_success (with_reducible show wpList _ _ _ (List.cons _ _) _ _)); (fail_if_success (with_reducible show Code.wp _ (Code.region _ _ true) _ _ _)); (fail_if_success (with_reducible show Code.wp _ (Code.cond _ _ _) _ _ _)); go_step)
      refine wp_cond_false (by first | rfl | exact congrArg Value.bool (decide_eq_false (by omega))) ?_
      skip
      rcases hu : unhex m with _ | x
      · have HN := Lib.hid (unhex_none m hu)
        repeat ((fail_if_success (with_reducible show wpList _ _ _ (List.cons _ _) _ _)); (fail_if_success (with_reducible show Code.wp _ (Code.region _ _ true) _ _ _)); go_step)
        (with_reducible refine' wl_valS ?_ ?_ ?_); rotate_left; exact rfl; exact (v_moveT (.inl rfl) rfl)
        simp only [Act.put, List.setIfInBounds_toArray, List.set_cons_zero, List.set_cons_succ]
        refine wl_step (st_gives hE4 rfl (run_call rfl Tryd.call6) (Parse_no Dm.out hmM hu) ?_)
        intro w5 hb5 hE5
        clear hE4
        simp only [Act.put, List.setIfInBounds_toArray, List.set_cons_zero, List.set_cons_succ]
        (with_reducible refine' wl_valS ?_ ?_ ?_); rotate_left; exact rfl; exact (v_moveT (.inl rfl) rfl)
        simp only [Act.put, List.setIfInBounds_toArray, List.set_cons_zero, List.set_cons_succ]
        (with_reducible refine' wl_valS ?_ ?_ ?_); rotate_left; exact rfl; exact (v_extract rfl rfl rfl)
        simp only [Act.put, List.setIfInBounds_toArray, List.set_cons_zero, List.set_cons_succ]
        (with_reducible refine' wl_valS ?_ ?_ ?_); rotate_left; exact rfl; exact (v_extract rfl rfl rfl)
        simp only [Act.put, List.setIfInBounds_toArray, List.set_cons_zero, List.set_cons_succ]
        (with_reducible refine' wl_valS ?_ ?_ ?_); rotate_left; exact rfl; exact (v_moveT (.inr rfl) rfl)
        simp only [Act.put, List.setIfInBounds_toArray, List.set_cons_zero, List.set_cons_succ]
        (with_reducible refine' wl_valS ?_ ?_ ?_); rotate_left; exact rfl; exact (v_moveT (.inr rfl) rfl)
        simp only [Act.put, List.setIfInBounds_toArray, List.set_cons_zero, List.set_cons_succ]
        repeat ((fail_if_success (with_reducible show wpList _ _ _ (List.cons _ _) _ _)); (fail_if_success (with_reducible show Code.wp _ (Code.region _ _ true) _ _ _)); go_step)
        (with_reducible refine' wl_valS ?_ ?_ ?_); rotate_left; exact rfl; exact (v_moveT (.inl rfl) rfl)
        simp only [Act.put, List.setIfInBounds_toArray, List.set_cons_zero, List.set_cons_succ]
        (with_reducible refine' wl_valS ?_ ?_ ?_); rotate_left; exact rfl; exact (v_run fun w9 => by go_simp; with_reducible rfl)
        simp only [Act.put, List.setIfInBounds_toArray, List.set_cons_zero, List.set_cons_succ]
        repeat ((fail_if_success (with_reducible show wpList _ _ _ (List.cons _ _) _ _)); (fail_if_success (with_reducible show Code.wp _ (Code.region _ _ true) _ _ _)); (fail_if_success (with_reducible show Code.wp _ (Code.cond _ _ _) _ _ _)); go_step)
        refine wp_cond_true (by first | rfl | exact congrArg Value.bool (decide_eq_true (by omega))) ?_
        skip
        repeat ((fail_if_success (with_reducible show wpList _ _ _ (List.cons _ _) _ _)); (fail_if_success (with_reducible show Code.wp _ (Code.region _ _ true) _ _ _)); go_step)
        (with_reducible refine' wl_valS ?_ ?_ ?_); rotate_left; exact rfl; exact (v_moveT (.inl rfl) rfl)
        simp only [Act.put, List.setIfInBounds_toArray, List.set_cons_zero, List.set_cons_succ]
        (with_reducible refine' wl_valS ?_ ?_ ?_); rotate_left; exact rfl; exact (v_lenStr rfl rfl Tryd.underlying9 hm63)
        simp only [Act.put, List.setIfInBounds_toArray, List.set_cons_zero, List.set_cons_succ]
        (with_reducible refine' wl_valS ?_ ?_ ?_); rotate_left; exact rfl; exact (v_rem (n := 2) rfl rfl rfl (by omega))
        simp only [Act.put, List.setIfInBounds_toArray, List.set_cons_zero, List.set_cons_succ]
        (with_reducible refine' wl_valS ?_ ?_ ?_); rotate_left; exact rfl; exact (v_eql (m := m.length % 2) (n := 0) rfl rfl rfl)
        simp only [Act.put, List.setIfInBounds_toArray, List.set_cons_zero, List.set_cons_succ]
        (with_reducible refine' wl_valS ?_ ?_ ?_); rotate_left; exact rfl; exact (v_moveT (.inr rfl) rfl)
        simp only [Act.put, List.setIfInBounds_toArray, List.set_cons_zero, List.set_cons_succ]
        repeat ((fail_if_success (with_reducible show wpList _ _ _ (List.cons _ _) _ _)); (fail_if_success (with_reducible show Code.wp _ (Code.region _ _ true) _ _ _)); go_step)
        (with_reducible refine' wl_valS ?_ ?_ ?_); rotate_left; exact rfl; exact (v_moveC (.inr rfl))
        simp only [Act.put, List.setIfInBounds_toArray, List.set_cons_zero, List.set_cons_succ]
        have hst := (hE5).sub (List.nil_sublist _)
        clear hE5
        clear hE0
        go_wp2
        go_loopw [10, 11] (fun t i wr => ∃ k : Nat, k ≤ m.length ∧ i = .int .i64 k ∧ t = .bool (decide (m.length % 2 = 0) && (m.take k).all fun c => (dg c).isSome) ∧ Env w [] wr) (fun _ i _ => m.length - (intOf i).toNat)
        case atStart => exact ⟨0, Nat.zero_le _, rfl, by rw [List.take_zero, List.all_nil, Bool.and_true], hst⟩
        case round =>
          clear hst
          obtain ⟨i, hi, rfl, rfl, hE0⟩ := hrel
          by_cases hil : i < m.length
          · have e0 := Lib.hid (decide_eq_true hil)
            obtain ⟨q, hq⟩ : ∃ q, (decide (m.length % 2 = 0) && (m.take i).all fun c => (dg c).isSome) = q := ⟨_, rfl⟩
            rw [hq]
            have g1 : m[i]? = some m[i] := List.getElem?_eq_getElem hil
            obtain ⟨c, hcc⟩ : ∃ c, m[i] = c := ⟨_, rfl⟩
            rw [hcc] at g1
            have hc8 : c < 256 := Dm.out _ (List.mem_of_getElem? g1)
            have hT : (decide (m.length % 2 = 0) && (m.take (i + 1)).all fun c => (dg c).isSome) = ((decide (m.length % 2 = 0) && (m.take i).all fun c => (dg c).isSome) && (dg c).isSome) := by
              rw [all_take g1, Bool.and_assoc]
            have HT := Lib.hid hT
            have Hq := Lib.hid hq
            have G1 := Lib.hid g1
            clear hT hq hcc g1
            repeat ((fail_if_success (with_reducible show wpList _ _ _ (List.cons _ _) _ _)); (fail_if_success (with_reducible show Code.wp _ (Code.region _ _ true) _ _ _)); go_step)
            (with_reducible refine' wl_valS ?_ ?_ ?_); rotate_left; exact rfl; exact (v_moveT (.inl rfl) rfl)
            simp only [Act.put, List.setIfInBounds_toArray, List.set_cons_zero, List.set_cons_succ]
            (with_reducible refine' wl_valS ?_ ?_ ?_); rotate_left; exact rfl; exact (v_moveT (.inl rfl) rfl)
            simp only [Act.put, List.setIfInBounds_toArray, List.set_cons_zero, List.set_cons_succ]
            (with_reducible refine' wl_valS ?_ ?_ ?_); rotate_left; exact rfl; exact (v_lenStr rfl rfl Tryd.underlying9 hm63)
            simp only [Act.put, List.setIfInBounds_toArray, List.set_cons_zero, List.set_cons_succ]
            (with_reducible refine' wl_valS ?_ ?_ ?_); rotate_left; exact rfl; exact (v_lss rfl rfl rfl)
            simp only [Act.put, List.setIfInBounds_toArray, List.set_cons_zero, List.set_cons_succ]
            rw [e0.out]
            repeat ((fail_if_success (with_reducible show wpList _ _ _ (List.cons _ _) _ _)); (fail_if_success (with_reducible show Code.wp _ (Code.region _ _ true) _ _ _)); (fail_if_success (with_reducible show Code.wp _ (Code.cond _ _ _) _ _ _)); go_step)
            refine wp_cond_true (by first | rfl | exact congrArg Value.bool (decide_eq_true (by omega))) ?_
            skip
            rcases q with _ | _
            · have hdc : (dg c).isSome = (dg c).isSome := rfl
              repeat ((fail_if_success (with_reducible show wpList _ _ _ (List.cons _ _) _ _)); (fail_if_success (with_reducible show Code.wp _ (Code.region _ _ true) _ _ _)); go_step)
              (with_reducible refine' wl_valS ?_ ?_ ?_); rotate_left; exact rfl; exact (v_moveT (.inl rfl) rfl)
              simp only [Act.put, List.setIfInBounds_toArray, List.set_cons_zero, List.set_cons_succ]
              (with_reducible refine' wl_valS ?_ ?_ ?_); rotate_left; exact rfl; exact (v_moveT (.inl rfl) rfl)
              simp only [Act.put, List.setIfInBounds_toArray, List.set_cons_zero, List.set_cons_succ]
              (with_reducible refine wl_skipS ?_ ?_); exact rfl
              simp only [Act.put, List.setIfInBounds_toArray, List.set_cons_zero, List.set_cons_succ]
              (with_reducible refine wl_skipS ?_ ?_); exact rfl
              simp only [Act.put, List.setIfInBounds_toArray, List.set_cons_zero, List.set_cons_succ]
              (with_reducible refine wl_skipS ?_ ?_); exact rfl
              simp only [Act.put, List.setIfInBounds_toArray, List.set_cons_zero, List.set_cons_succ]
              (with_reducible refine wl_skipS ?_ ?_); exact rfl
              simp only [Act.put, List.setIfInBounds_toArray, List.set_cons_zero, List.set_cons_succ]
              (with_reducible refine wl_skipS ?_ ?_); exact rfl
              simp only [Act.put, List.setIfInBounds_toArray, List.set_cons_zero, List.set_cons_succ]
              (with_reducible refine wl_skipS ?_ ?_); exact rfl
              simp only [Act.put, List.setIfInBounds_toArray, List.set_cons_zero, List.set_cons_succ]
              (with_reducible refine wl_skipS ?_ ?_); exact rfl
              simp only [Act.put, List.setIfInBounds_toArray, List.set_cons_zero, List.set_cons_succ]
              (with_reducible refine wl_skipS ?_ ?_); exact rfl
              simp only [Act.put, List.setIfInBounds_toArray, List.set_cons_zero, List.set_cons_succ]
              (with_reducible refine wl_skipS ?_ ?_); exact rfl
              simp only [Act.put, List.setIfInBounds_toArray, List.set_cons_zero, List.set_cons_succ]
              (with_reducible refine wl_skipS ?_ ?_); exact rfl
              simp only [Act.put, List.setIfInBounds_toArray, List.set_cons_zero, List.set_cons_succ]
              (with_reducible refine wl_skipS ?_ ?_); exact rfl
              simp only [Act.put, List.setIfInBounds_toArray, List.set_cons_zero, List.set_cons_succ]
              (with_reducible refine wl_skipS ?_ ?_); exact rfl
              simp only [Act.put, List.setIfInBounds_toArray, List.set_cons_zero, List.set_cons_succ]
              (with_reducible refine wl_skipS ?_ ?_); exact rfl
              simp only [Act.put, List.setIfInBounds_toArray, List.set_cons_zero, List.set_cons_succ]
              (with_reducible refine wl_skipS ?_ ?_); exact rfl
              simp only [Act.put, List.setIfInBounds_toArray, List.set_cons_zero, List.set_cons_succ]
              (with_reducible refine wl_skipS ?_ ?_); exact rfl
              simp only [Act.put, List.setIfInBounds_toArray, List.set_cons_zero, List.set_cons_succ]
              (with_reducible refine wl_skipS ?_ ?_); exact rfl
              simp only [Act.put, List.setIfInBounds_toArray, List.set_cons_zero, List.set_cons_succ]
              (with_reducible refine wl_skipS ?_ ?_); exact rfl
              simp only [Act.put, List.setIfInBounds_toArray, List.set_cons_zero, List.set_cons_succ]
              (with_reducible refine wl_skipS ?_ ?_); exact rfl
              simp only [Act.put, List.setIfInBounds_toArray, List.set_cons_zero, List.set_cons_succ]
              (with_reducible refine wl_skipS ?_ ?_); exact rfl
              simp only [Act.put, List.setIfInBounds_toArray, List.set_cons_zero, List.set_cons_succ]
              (with_reducible refine wl_skipS ?_ ?_); exact rfl
              simp only [Act.put, List.setIfInBounds_toArray, List.set_cons_zero, List.set_cons_succ]
              (with_reducible refine wl_skipS ?_ ?_); exact rfl
              simp only [Act.put, List.setIfInBounds_toArray, List.set_cons_zero, List.set_cons_succ]
              (with_reducible refine wl_skipS ?_ ?_); exact rfl
              simp only [Act.put, List.setIfInBounds_toArray, List.set_cons_zero, List.set_cons_succ]
              (with_reducible refine' wl_valS ?_ ?_ ?_); rotate_left; exact rfl; exact (v_andF rfl rfl)
              simp only [Act.put, List.setIfInBounds_toArray, List.set_cons_zero, List.set_cons_succ]
              (with_reducible refine' wl_valS ?_ ?_ ?_); rotate_left; exact rfl; exact (v_moveT (.inr rfl) rfl)
              simp only [Act.put, List.setIfInBounds_toArray, List.set_cons_zero, List.set_cons_succ]
              repeat ((fail_if_success (with_reducible show wpList _ _ _ (List.cons _ _) _ _)); (fail_if_success (with_reducible show Code.wp _ (Code.region _ _ true) _ _ _)); go_step)
              (with_reducible refine' wl_valS ?_ ?_ ?_); rotate_left; exact rfl; exact (v_moveT (.inl rfl) rfl)
              simp only [Act.put, List.setIfInBounds_toArray, List.set_cons_zero, List.set_cons_succ]
              (with_reducible refine' wl_valS ?_ ?_ ?_); rotate_left; exact rfl; exact (v_add (n := 1) rfl rfl rfl (w_i64 (by omega)))
              simp only [Act.put, List.setIfInBounds_toArray, List.set_cons_zero, List.set_cons_succ]
              (with_reducible refine' wl_valS ?_ ?_ ?_); rotate_left; exact rfl; exact (v_moveT (.inr rfl) rfl)
              simp only [Act.put, List.setIfInBounds_toArray, List.set_cons_zero, List.set_cons_succ]
              go_wp2
              go_roundw
              case rel => exact ⟨i + 1, by omega, rfl, by rw [HT.out, Hq.out, Bool.false_and] <;> rfl, hE0⟩
              case measure => simp [intOf]; omega
            · skip
              by_cases k1 : 48 ≤ c
              · have e1 := Lib.hid (decide_eq_true k1)
                by_cases k2 : c ≤ 57
                · have e2 := Lib.hid (decide_eq_true k2)
                  have hdc : (dg c).isSome = true := by unfold dg; rw [if_pos ⟨k1, k2⟩]; rfl
                  repeat ((fail_if_success (with_reducible show wpList _ _ _ (List.cons _ _) _ _)); (fail_if_success (with_reducible show Code.wp _ (Code.region _ _ true) _ _ _)); go_step)
                  (with_reducible refine' wl_valS ?_ ?_ ?_); rotate_left; exact rfl; exact (v_moveT (.inl rfl) rfl)
                  simp only [Act.put, List.setIfInBounds_toArray, List.set_cons_zero, List.set_cons_succ]
                  (with_reducible refine' wl_valS ?_ ?_ ?_); rotate_left; exact rfl; exact (v_moveT (.inl rfl) rfl)
                  simp only [Act.put, List.setIfInBounds_toArray, List.set_cons_zero, List.set_cons_succ]
                  (with_reducible refine' wl_valS ?_ ?_ ?_); rotate_left; exact rfl; exact (v_moveT (.inl rfl) rfl)
                  simp only [Act.put, List.setIfInBounds_toArray, List.set_cons_zero, List.set_cons_succ]
                  (with_reducible refine' wl_valS ?_ ?_ ?_); rotate_left; exact rfl; exact (v_moveT (.inl rfl) rfl)
                  simp only [Act.put, List.setIfInBounds_toArray, List.set_cons_zero, List.set_cons_succ]
                  (with_reducible refine' wl_valS ?_ ?_ ?_); rotate_left; exact rfl; exact (v_idxB rfl rfl rfl Tryd.underlying9 G1.out hc8)
                  simp only [Act.put, List.setIfInBounds_toArray, List.set_cons_zero, List.set_cons_succ]
                  (with_reducible refine' wl_valS ?_ ?_ ?_); rotate_left; exact rfl; exact (v_geq (m := c) (n := 48) rfl rfl rfl)
                  simp only [Act.put, List.setIfInBounds_toArray, List.set_cons_zero, List.set_cons_succ]
                  rw [e1.out]
                  (with_reducible refine' wl_valS ?_ ?_ ?_); rotate_left; exact rfl; exact (v_moveT (.inl rfl) rfl)
                  simp only [Act.put, List.setIfInBounds_toArray, List.set_cons_zero, List.set_cons_succ]
                  (with_reducible refine' wl_valS ?_ ?_ ?_); rotate_left; exact rfl; exact (v_moveT (.inl rfl) rfl)
                  simp only [Act.put, List.setIfInBounds_toArray, List.set_cons_zero, List.set_cons_succ]
                  (with_reducible refine' wl_valS ?_ ?_ ?_); rotate_left; exact rfl; exact (v_moveT (.inl rfl) rfl)
                  simp only [Act.put, List.setIfInBounds_toArray, List.set_cons_zero, List.set_cons_succ]
                  (with_reducible refine' wl_valS ?_ ?_ ?_); rotate_left; exact rfl; exact (v_idxB rfl rfl rfl Tryd.underlying9 G1.out hc8)
                  simp only [Act.put, List.setIfInBounds_toArray, List.set_cons_zero, List.set_cons_succ]
                  (with_reducible refine' wl_valS ?_ ?_ ?_); rotate_left; exact rfl; exact (v_leq (m := c) (n := 57) rfl rfl rfl)
                  simp only [Act.put, List.setIfInBounds_toArray, List.set_cons_zero, List.set_cons_succ]
                  rw [e2.out]
                  (with_reducible refine' wl_valS ?_ ?_ ?_); rotate_left; exact rfl; exact (v_andT rfl rfl rfl)
                  simp only [Act.put, List.setIfInBounds_toArray, List.set_cons_zero, List.set_cons_succ]
                  (with_reducible refine' wl_valS ?_ ?_ ?_); rotate_left; exact rfl; exact (v_moveT (.inl rfl) rfl)
                  simp only [Act.put, List.setIfInBounds_toArray, List.set_cons_zero, List.set_cons_succ]
                  (with_reducible refine wl_skipS ?_ ?_); exact rfl
                  simp only [Act.put, List.setIfInBounds_toArray, List.set_cons_zero, List.set_cons_succ]
                  (with_reducible refine wl_skipS ?_ ?_); exact rfl
                  simp only [Act.put, List.setIfInBounds_toArray, List.set_cons_zero, List.set_cons_succ]
                  (with_reducible refine wl_skipS ?_ ?_); exact rfl
                  simp only [Act.put, List.setIfInBounds_toArray, List.set_cons_zero, List.set_cons_succ]
                  (with_reducible refine wl_skipS ?_ ?_); exact rfl
                  simp only [Act.put, List.setIfInBounds_toArray, List.set_cons_zero, List.set_cons_succ]
                  (with_reducible refine wl_skipS ?_ ?_); exact rfl
                  simp only [Act.put, List.setIfInBounds_toArray, List.set_cons_zero, List.set_cons_succ]
                  (with_reducible refine wl_skipS ?_ ?_); exact rfl
                  simp only [Act.put, List.setIfInBounds_toArray, List.set_cons_zero, List.set_cons_succ]
                  (with_reducible refine wl_skipS ?_ ?_); exact rfl
                  simp only [Act.put, List.setIfInBounds_toArray, List.set_cons_zero, List.set_cons_succ]
                  (with_reducible refine wl_skipS ?_ ?_); exact rfl
                  simp only [Act.put, List.setIfInBounds_toArray, List.set_cons_zero, List.set_cons_succ]
                  (with_reducible refine wl_skipS ?_ ?_); exact rfl
                  simp only [Act.put, List.setIfInBounds_toArray, List.set_cons_zero, List.set_cons_succ]
                  (with_reducible refine wl_skipS ?_ ?_); exact rfl
                  simp only [Act.put, List.setIfInBounds_toArray, List.set_cons_zero, List.set_cons_succ]
                  (with_reducible refine' wl_valS ?_ ?_ ?_); rotate_left; exact rfl; exact (v_orT rfl rfl)
                  simp only [Act.put, List.setIfInBounds_toArray, List.set_cons_zero, List.set_cons_succ]
                  (with_reducible refine' wl_valS ?_ ?_ ?_); rotate_left; exact rfl; exact (v_andT rfl rfl rfl)
                  simp only [Act.put, List.setIfInBounds_toArray, List.set_cons_zero, List.set_cons_succ]
                  (with_reducible refine' wl_valS ?_ ?_ ?_); rotate_left; exact rfl; exact (v_moveT (.inr rfl) rfl)
                  simp only [Act.put, List.setIfInBounds_toArray, List.set_cons_zero, List.set_cons_succ]
                  repeat ((fail_if_success (with_reducible show wpList _ _ _ (List.cons _ _) _ _)); (fail_if_success (with_reducible show Code.wp _ (Code.region _ _ true) _ _ _)); go_step)
                  (with_reducible refine' wl_valS ?_ ?_ ?_); rotate_left; exact rfl; exact (v_moveT (.inl rfl) rfl)
                  simp only [Act.put, List.setIfInBounds_toArray, List.set_cons_zero, List.set_cons_succ]
                  (with_reducible refine' wl_valS ?_ ?_ ?_); rotate_left; exact rfl; exact (v_add (n := 1) rfl rfl rfl (w_i64 (by omega)))
                  simp only [Act.put, List.setIfInBounds_toArray, List.set_cons_zero, List.set_cons_succ]
                  (with_reducible refine' wl_valS ?_ ?_ ?_); rotate_left; exact rfl; exact (v_moveT (.inr rfl) rfl)
                  simp only [Act.put, List.setIfInBounds_toArray, List.set_cons_zero, List.set_cons_succ]
                  go_wp2
                  go_roundw
                  case rel => exact ⟨i + 1, by omega, rfl, by rw [HT.out, Hq.out, hdc] <;> rfl, hE0⟩
                  case measure => simp [intOf]; omega
                · have e2 := Lib.hid (decide_eq_false k2)
                  by_cases k3 : 97 ≤ c
                  · have e3 := Lib.hid (decide_eq_true k3)
                    by_cases k4 : c ≤ 102
                    · have e4 := Lib.hid (decide_eq_true k4)
                      have hdc : (dg c).isSome = true := by unfold dg; rw [if_neg (by omega), if_pos ⟨k3, k4⟩]; rfl
                      repeat ((fail_if_success (with_reducible show wpList _ _ _ (List.cons _ _) _ _)); (fail_if_success (with_reducible show Code.wp _ (Code.region _ _ true) _ _ _)); go_step)
                      (with_reducible refine' wl_valS ?_ ?_ ?_); rotate_left; exact rfl; exact (v_moveT (.inl rfl) rfl)
                      simp only [Act.put, List.setIfInBounds_toArray, List.set_cons_zero, List.set_cons_succ]
                      (with_reducible refine' wl_valS ?_ ?_ ?_); rotate_left; exact rfl; exact (v_moveT (.inl rfl) rfl)
                      simp only [Act.put, List.setIfInBounds_toArray, List.set_cons_zero, List.set_cons_succ]
                      (with_reducible refine' wl_valS ?_ ?_ ?_); rotate_left; exact rfl; exact (v_moveT (.inl rfl) rfl)
                      simp only [Act.put, List.setIfInBounds_toArray, List.set_cons_zero, List.set_cons_succ]
                      (with_reducible refine' wl_valS ?_ ?_ ?_); rotate_left; exact rfl; exact (v_moveT (.inl rfl) rfl)
                      simp only [Act.put, List.setIfInBounds_toArray, List.set_cons_zero, List.set_cons_succ]
                      (with_reducible refine' wl_valS ?_ ?_ ?_); rotate_left; exact rfl; exact (v_idxB rfl rfl rfl Tryd.underlying9 G1.out hc8)
                      simp only [Act.put, List.setIfInBounds_toArray, List.set_cons_zero, List.set_cons_succ]
                      (with_reducible refine' wl_valS ?_ ?_ ?_); rotate_left; exact rfl; exact (v_geq (m := c) (n := 48) rfl rfl rfl)
                      simp only [Act.put, List.setIfInBounds_toArray, List.set_cons_zero, List.set_cons_succ]
                      rw [e1.out]
                      (with_reducible refine' wl_valS ?_ ?_ ?_); rotate_left; exact rfl; exact (v_moveT (.inl rfl) rfl)
                      simp only [Act.put, List.setIfInBounds_toArray, List.set_cons_zero, List.set_cons_succ]
                      (with_reducible refine' wl_valS ?_ ?_ ?_); rotate_left; exact rfl; exact (v_moveT (.inl rfl) rfl)
                      simp only [Act.put, List.setIfInBounds_toArray, List.set_cons_zero, List.set_cons_succ]
                      (with_reducible refine' wl_valS ?_ ?_ ?_); rotate_left; exact rfl; exact (v_moveT (.inl rfl) rfl)
                      simp only [Act.put, List.setIfInBounds_toArray, List.set_cons_zero, List.set_cons_succ]
                      (with_reducible refine' wl_valS ?_ ?_ ?_); rotate_left; exact rfl; exact (v_idxB rfl rfl rfl Tryd.underlying9 G1.out hc8)
                      simp only [Act.put, List.setIfInBounds_toArray, List.set_cons_zero, List.set_cons_succ]
                      (with_reducible refine' wl_valS ?_ ?_ ?_); rotate_left; exact rfl; exact (v_leq (m := c) (n := 57) rfl rfl rfl)
                      simp only [Act.put, List.setIfInBounds_toArray, List.set_cons_zero, List.set_cons_succ]
                      rw [e2.out]
                      (with_reducible refine' wl_valS ?_ ?_ ?_); rotate_left; exact rfl; exact (v_andT rfl rfl rfl)
                      simp only [Act.put, List.setIfInBounds_toArray, List.set_cons_zero, List.set_cons_succ]
                      (with_reducible refine' wl_valS ?_ ?_ ?_); rotate_left; exact rfl; exact (v_moveT (.inl rfl) rfl)
                      simp only [Act.put, List.setIfInBounds_toArray, List.set_cons_zero, List.set_cons_succ]
                      (with_reducible refine' wl_valS ?_ ?_ ?_); rotate_left; exact rfl; exact (v_moveT (.inl rfl) rfl)
                      simp only [Act.put, List.setIfInBounds_toArray, List.set_cons_zero, List.set_cons_succ]
                      (with_reducible refine' wl_valS ?_ ?_ ?_); rotate_left; exact rfl; exact (v_moveT (.inl rfl) rfl)
                      simp only [Act.put, List.setIfInBounds_toArray, List.set_cons_zero, List.set_cons_succ]
                      (with_reducible refine' wl_valS ?_ ?_ ?_); rotate_left; exact rfl; exact (v_idxB rfl rfl rfl Tryd.underlying9 G1.out hc8)
                      simp only [Act.put, List.setIfInBounds_toArray, List.set_cons_zero, List.set_cons_succ]
                      (with_reducible refine' wl_valS ?_ ?_ ?_); rotate_left; exact rfl; exact (v_geq (m := c) (n := 97) rfl rfl rfl)
                      simp only [Act.put, List.setIfInBounds_toArray, List.set_cons_zero, List.set_cons_succ]
                      rw [e3.out]
                      (with_reducible refine' wl_valS ?_ ?_ ?_); rotate_left; exact rfl; exact (v_moveT (.inl rfl) rfl)
                      simp only [Act.put, List.setIfInBounds_toArray, List.set_cons_zero, List.set_cons_succ]
                      (with_reducible refine' wl_valS ?_ ?_ ?_); rotate_left; exact rfl; exact (v_moveT (.inl rfl) rfl)
                      simp only [Act.put, List.setIfInBounds_toArray, List.set_cons_zero, List.set_cons_succ]
                      (with_reducible refine' wl_valS ?_ ?_ ?_); rotate_left; exact rfl; exact (v_moveT (.inl rfl) rfl)
                      simp only [Act.put, List.setIfInBounds_toArray, List.set_cons_zero, List.set_cons_succ]
                      (with_reducible refine' wl_valS ?_ ?_ ?_); rotate_left; exact rfl; exact (v_idxB rfl rfl rfl Tryd.underlying9 G1.out hc8)
                      simp only [Act.put, List.setIfInBounds_toArray, List.set_cons_zero, List.set_cons_succ]
                      (with_reducible refine' wl_valS ?_ ?_ ?_); rotate_left; exact rfl; exact (v_leq (m := c) (n := 102) rfl rfl rfl)
                      simp only [Act.put, List.setIfInBounds_toArray, List.set_cons_zero, List.set_cons_succ]
                      rw [e4.out]
                      (with_reducible refine' wl_valS ?_ ?_ ?_); rotate_left; exact rfl; exact (v_andT rfl rfl rfl)
                      simp only [Act.put, List.setIfInBounds_toArray, List.set_cons_zero, List.set_cons_succ]
                      (with_reducible refine' wl_valS ?_ ?_ ?_); rotate_left; exact rfl; exact (v_orF rfl rfl rfl)
                      simp only [Act.put, List.setIfInBounds_toArray, List.set_cons_zero, List.set_cons_succ]
                      (with_reducible refine' wl_valS ?_ ?_ ?_); rotate_left; exact rfl; exact (v_andT rfl rfl rfl)
                      simp only [Act.put, List.setIfInBounds_toArray, List.set_cons_zero, List.set_cons_succ]
                      (with_reducible refine' wl_valS ?_ ?_ ?_); rotate_left; exact rfl; exact (v_moveT (.inr rfl) rfl)
                      simp only [Act.put, List.setIfInBounds_toArray, List.set_cons_zero, List.set_cons_succ]
                      repeat ((fail_if_success (with_reducible show wpList _ _ _ (List.cons _ _) _ _)); (fail_if_success (with_reducible show Code.wp _ (Code.region _ _ true) _ _ _)); go_step)
                      (with_reducible refine' wl_valS ?_ ?_ ?_); rotate_left; exact rfl; exact (v_moveT (.inl rfl) rfl)
                      simp only [Act.put, List.setIfInBounds_toArray, List.set_cons_zero, List.set_cons_succ]
                      (with_reducible refine' wl_valS ?_ ?_ ?_); rotate_left; exact rfl; exact (v_add (n := 1) rfl rfl rfl (w_i64 (by omega)))
                      simp only [Act.put, List.setIfInBounds_toArray, List.set_cons_zero, List.set_cons_succ]
                      (with_reducible refine' wl_valS ?_ ?_ ?_); rotate_left; exact rfl; exact (v_moveT (.inr rfl) rfl)
                      simp only [Act.put, List.setIfInBounds_toArray, List.set_cons_zero, List.set_cons_succ]
                      go_wp2
                      go_roundw
                      case rel => exact ⟨i + 1, by omega, rfl, by rw [HT.out, Hq.out, hdc] <;> rfl, hE0⟩
                      case measure => simp [intOf]; omega
                    · have e4 := Lib.hid (decide_eq_false k4)
                      have hdc : (dg c).isSome = false := by unfold dg; rw [if_neg (by omega), if_neg (by omega)]; rfl
                      repeat ((fail_if_success (with_reducible show wpList _ _ _ (List.cons _ _) _ _)); (fail_if_success (with_reducible show Code.wp _ (Code.region _ _ true) _ _ _)); go_step)
                      (with_reducible refine' wl_valS ?_ ?_ ?_); rotate_left; exact rfl; exact (v_moveT (.inl rfl) rfl)
                      simp only [Act.put, List.setIfInBounds_toArray, List.set_cons_zero, List.set_cons_succ]
                      (with_reducible refine' wl_valS ?_ ?_ ?_); rotate_left; exact rfl; exact (v_moveT (.inl rfl) rfl)
                      simp only [Act.put, List.setIfInBounds_toArray, List.set_cons_zero, List.set_cons_succ]
                      (with_reducible refine' wl_valS ?_ ?_ ?_); rotate_left; exact rfl; exact (v_moveT (.inl rfl) rfl)
                      simp only [Act.put, List.setIfInBounds_toArray, List.set_cons_zero, List.set_cons_succ]
                      (with_reducible refine' wl_valS ?_ ?_ ?_); rotate_left; exact rfl; exact (v_moveT (.inl rfl) rfl)
                      simp only [Act.put, List.setIfInBounds_toArray, List.set_cons_zero, List.set_cons_succ]
                      (with_reducible refine' wl_valS ?_ ?_ ?_); rotate_left; exact rfl; exact (v_idxB rfl rfl rfl Tryd.underlying9 G1.out hc8)
                      simp only [Act.put, List.setIfInBounds_toArray, List.set_cons_zero, List.set_cons_succ]
                      (with_reducible refine' wl_valS ?_ ?_ ?_); rotate_left; exact rfl; exact (v_geq (m := c) (n := 48) rfl rfl rfl)
                      simp only [Act.put, List.setIfInBounds_toArray, List.set_cons_zero, List.set_cons_succ]
                      rw [e1.out]
                      (with_reducible refine' wl_valS ?_ ?_ ?_); rotate_left; exact rfl; exact (v_moveT (.inl rfl) rfl)
                      simp only [Act.put, List.setIfInBounds_toArray, List.set_cons_zero, List.set_cons_succ]
                      (with_reducible refine' wl_valS ?_ ?_ ?_); rotate_left; exact rfl; exact (v_moveT (.inl rfl) rfl)
                      simp only [Act.put, List.setIfInBounds_toArray, List.set_cons_zero, List.set_cons_succ]
                      (with_reducible refine' wl_valS ?_ ?_ ?_); rotate_left; exact rfl; exact (v_moveT (.inl rfl) rfl)
                      simp only [Act.put, List.setIfInBounds_toArray, List.set_cons_zero, List.set_cons_succ]
                      (with_reducible refine' wl_valS ?_ ?_ ?_); rotate_left; exact rfl; exact (v_idxB rfl rfl rfl Tryd.underlying9 G1.out hc8)
                      simp only [Act.put, List.setIfInBounds_toArray, List.set_cons_zero, List.set_cons_succ]
                      (with_reducible refine' wl_valS ?_ ?_ ?_); rotate_left; exact rfl; exact (v_leq (m := c) (n := 57) rfl rfl rfl)
                      simp only [Act.put, List.setIfInBounds_toArray, List.set_cons_zero, List.set_cons_succ]
                      rw [e2.out]
                      (with_reducible refine' wl_valS ?_ ?_ ?_); rotate_left; exact rfl; exact (v_andT rfl rfl rfl)
                      simp only [Act.put, List.setIfInBounds_toArray, List.set_cons_zero, List.set_cons_succ]
                      (with_reducible refine' wl_valS ?_ ?_ ?_); rotate_left; exact rfl; exact (v_moveT (.inl rfl) rfl)
                      simp only [Act.put, List.setIfInBounds_toArray, List.set_cons_zero, List.set_cons_succ]
                      (with_reducible refine' wl_valS ?_ ?_ ?_); rotate_left; exact rfl; exact (v_moveT (.inl rfl) rfl)
                      simp only [Act.put, List.setIfInBounds_toArray, List.set_cons_zero, List.set_cons_succ]
                      (with_reducible refine' wl_valS ?_ ?_ ?_); rotate_left; exact rfl; exact (v_moveT (.inl rfl) rfl)
                      simp only [Act.put, List.setIfInBounds_toArray, List.set_cons_zero, List.set_cons_succ]
                      (with_reducible refine' wl_valS ?_ ?_ ?_); rotate_left; exact rfl; exact (v_idxB rfl rfl rfl Tryd.underlying9 G1.out hc8)
                      simp only [Act.put, List.setIfInBounds_toArray, List.set_cons_zero, List.set_cons_succ]
                      (with_reducible refine' wl_valS ?_ ?_ ?_); rotate_left; exact rfl; exact (v_geq (m := c) (n := 97) rfl rfl rfl)
                      simp only [Act.put, List.setIfInBounds_toArray, List.set_cons_zero, List.set_cons_succ]
                      rw [e3.out]
                      (with_reducible refine' wl_valS ?_ ?_ ?_); rotate_left; exact rfl; exact (v_moveT (.inl rfl) rfl)
                      simp only [Act.put, List.setIfInBounds_toArray, List.set_cons_zero, List.set_cons_succ]
                      (with_reducible refine' wl_valS ?_ ?_ ?_); rotate_left; exact rfl; exact (v_moveT (.inl rfl) rfl)
                      simp only [Act.put, List.setIfInBounds_toArray, List.set_cons_zero, List.set_cons_succ]
                      (with_reducible refine' wl_valS ?_ ?_ ?_); rotate_left; exact rfl; exact (v_moveT (.inl rfl) rfl)
                      simp only [Act.put, List.setIfInBounds_toArray, List.set_cons_zero, List.set_cons_succ]
                      (with_reducible refine' wl_valS ?_ ?_ ?_); rotate_left; exact rfl; exact (v_idxB rfl rfl rfl Tryd.underlying9 G1.out hc8)
                      simp only [Act.put, List.setIfInBounds_toArray, List.set_cons_zero, List.set_cons_succ]
                      (with_reducible refine' wl_valS ?_ ?_ ?_); rotate_left; exact rfl; exact (v_leq (m := c) (n := 102) rfl rfl rfl)
                      simp only [Act.put, List.setIfInBounds_toArray, List.set_cons_zero, List.set_cons_succ]
                      rw [e4.out]
                      (with_reducible refine' wl_valS ?_ ?_ ?_); rotate_left; exact rfl; exact (v_andT rfl rfl rfl)
                      simp only [Act.put, List.setIfInBounds_toArray, List.set_cons_zero, List.set_cons_succ]
                      (with_reducible refine' wl_valS ?_ ?_ ?_); rotate_left; exact rfl; exact (v_orF rfl rfl rfl)
                      simp only [Act.put, List.setIfInBounds_toArray, List.set_cons_zero, List.set_cons_succ]
                      (with_reducible refine' wl_valS ?_ ?_ ?_); rotate_left; exact rfl; exact (v_andT rfl rfl rfl)
                      simp only [Act.put, List.setIfInBounds_toArray, List.set_cons_zero, List.set_cons_succ]
                      (with_reducible refine' wl_valS ?_ ?_ ?_); rotate_left; exact rfl; exact (v_moveT (.inr rfl) rfl)
                      simp only [Act.put, List.setIfInBounds_toArray, List.set_cons_zero, List.set_cons_succ]
                      repeat ((fail_if_success (with_reducible show wpList _ _ _ (List.cons _ _) _ _)); (fail_if_success (with_reducible show Code.wp _ (Code.region _ _ true) _ _ _)); go_step)
                      (with_reducible refine' wl_valS ?_ ?_ ?_); rotate_left; exact rfl; exact (v_moveT (.inl rfl) rfl)
                      simp only [Act.put, List.setIfInBounds_toArray, List.set_cons_zero, List.set_cons_succ]
                      (with_reducible refine' wl_valS ?_ ?_ ?_); rotate_left; exact rfl; exact (v_add (n := 1) rfl rfl rfl (w_i64 (by omega)))
                      simp only [Act.put, List.setIfInBounds_toArray, List.set_cons_zero, List.set_cons_succ]
                      (with_reducible refine' wl_valS ?_ ?_ ?_); rotate_left; exact rfl; exact (v_moveT (.inr rfl) rfl)
                      simp only [Act.put, List.setIfInBounds_toArray, List.set_cons_zero, List.set_cons_succ]
                      go_wp2
                      go_roundw
                      case rel => exact ⟨i + 1, by omega, rfl, by rw [HT.out, Hq.out, hdc] <;> rfl, hE0⟩
                      case measure => simp [intOf]; omega
                  · have e3 := Lib.hid (decide_eq_false k3)
                    have hdc : (dg c).isSome = false := by unfold dg; rw [if_neg (by omega), if_neg (by omega)]; rfl
                    repeat ((fail_if_success (with_reducible show wpList _ _ _ (List.cons _ _) _ _)); (fail_if_success (with_reducible show Code.wp _ (Code.region _ _ true) _ _ _)); go_step)
                    (with_reducible refine' wl_valS ?_ ?_ ?_); rotate_left; exact rfl; exact (v_moveT (.inl rfl) rfl)
                    simp only [Act.put, List.setIfInBounds_toArray, List.set_cons_zero, List.set_cons_succ]
                    (with_reducible refine' wl_valS ?_ ?_ ?_); rotate_left; exact rfl; exact (v_moveT (.inl rfl) rfl)
                    simp only [Act.put, List.setIfInBounds_toArray, List.set_cons_zero, List.set_cons_succ]
                    (with_reducible refine' wl_valS ?_ ?_ ?_); rotate_left; exact rfl; exact (v_moveT (.inl rfl) rfl)
                    simp only [Act.put, List.setIfInBounds_toArray, List.set_cons_zero, List.set_cons_succ]
                    (with_reducible refine' wl_valS ?_ ?_ ?_); rotate_left; exact rfl; exact (v_moveT (.inl rfl) rfl)
                    simp only [Act.put, List.setIfInBounds_toArray, List.set_cons_zero, List.set_cons_succ]
                    (with_reducible refine' wl_valS ?_ ?_ ?_); rotate_left; exact rfl; exact (v_idxB rfl rfl rfl Tryd.underlying9 G1.out hc8)
                    simp only [Act.put, List.setIfInBounds_toArray, List.set_cons_zero, List.set_cons_succ]
                    (with_reducible refine' wl_valS ?_ ?_ ?_); rotate_left; exact rfl; exact (v_geq (m := c) (n := 48) rfl rfl rfl)
                    simp only [Act.put, List.setIfInBounds_toArray, List.set_cons_zero, List.set_cons_succ]
                    rw [e1.out]
                    (with_reducible refine' wl_valS ?_ ?_ ?_); rotate_left; exact rfl; exact (v_moveT (.inl rfl) rfl)
                    simp only [Act.put, List.setIfInBounds_toArray, List.set_cons_zero, List.set_cons_succ]
                    (with_reducible refine' wl_valS ?_ ?_ ?_); rotate_left; exact rfl; exact (v_moveT (.inl rfl) rfl)
                    simp only [Act.put, List.setIfInBounds_toArray, List.set_cons_zero, List.set_cons_succ]
                    (with_reducible refine' wl_valS ?_ ?_ ?_); rotate_left; exact rfl; exact (v_moveT (.inl rfl) rfl)
                    simp only [Act.put, List.setIfInBounds_toArray, List.set_cons_zero, List.set_cons_succ]
                    (with_reducible refine' wl_valS ?_ ?_ ?_); rotate_left; exact rfl; exact (v_idxB rfl rfl rfl Tryd.underlying9 G1.out hc8)
                    simp only [Act.put, List.setIfInBounds_toArray, List.set_cons_zero, List.set_cons_succ]
                    (with_reducible refine' wl_valS ?_ ?_ ?_); rotate_left; exact rfl; exact (v_leq (m := c) (n := 57) rfl rfl rfl)
                    simp only [Act.put, List.setIfInBounds_toArray, List.set_cons_zero, List.set_cons_succ]
                    rw [e2.out]
                    (with_reducible refine' wl_valS ?_ ?_ ?_); rotate_left; exact rfl; exact (v_andT rfl rfl rfl)
                    simp only [Act.put, List.setIfInBounds_toArray, List.set_cons_zero, List.set_cons_succ]
                    (with_reducible refine' wl_valS ?_ ?_ ?_); rotate_left; exact rfl; exact (v_moveT (.inl rfl) rfl)
                    simp only [Act.put, List.setIfInBounds_toArray, List.set_cons_zero, List.set_cons_succ]
                    (with_reducible refine' wl_valS ?_ ?_ ?_); rotate_left; exact rfl; exact (v_moveT (.inl rfl) rfl)
                    simp only [Act.put, List.setIfInBounds_toArray, List.set_cons_zero, List.set_cons_succ]
                    (with_reducible refine' wl_valS ?_ ?_ ?_); rotate_left; exact rfl; exact (v_moveT (.inl rfl) rfl)
                    simp only [Act.put, List.setIfInBounds_toArray, List.set_cons_zero, List.set_cons_succ]
                    (with_reducible refine' wl_valS ?_ ?_ ?_); rotate_left; exact rfl; exact (v_idxB rfl rfl rfl Tryd.underlying9 G1.out hc8)
                    simp only [Act.put, List.setIfInBounds_toArray, List.set_cons_zero, List.set_cons_succ]
                    (with_reducible refine' wl_valS ?_ ?_ ?_); rotate_left; exact rfl; exact (v_geq (m := c) (n := 97) rfl rfl rfl)
                    simp only [Act.put, List.setIfInBounds_toArray, List.set_cons_zero, List.set_cons_succ]
                    rw [e3.out]
                    (with_reducible refine' wl_valS ?_ ?_ ?_); rotate_left; exact rfl; exact (v_moveT (.inl rfl) rfl)
                    simp only [Act.put, List.setIfInBounds_toArray, List.set_cons_zero, List.set_cons_succ]
                    (with_reducible refine wl_skipS ?_ ?_); exact rfl
                    simp only [Act.put, List.setIfInBounds_toArray, List.set_cons_zero, List.set_cons_succ]
                    (with_reducible refine wl_skipS ?_ ?_); exact rfl
                    simp only [Act.put, List.setIfInBounds_toArray, List.set_cons_zero, List.set_cons_succ]
                    (with_reducible refine wl_skipS ?_ ?_); exact rfl
                    simp only [Act.put, List.setIfInBounds_toArray, List.set_cons_zero, List.set_cons_succ]
                    (with_reducible refine wl_skipS ?_ ?_); exact rfl
                    simp only [Act.put, List.setIfInBounds_toArray, List.set_cons_zero, List.set_cons_succ]
                    (with_reducible refine' wl_valS ?_ ?_ ?_); rotate_left; exact rfl; exact (v_andF rfl rfl)
                    simp only [Act.put, List.setIfInBounds_toArray, List.set_cons_zero, List.set_cons_succ]
                    (with_reducible refine' wl_valS ?_ ?_ ?_); rotate_left; exact rfl; exact (v_orF rfl rfl rfl)
                    simp only [Act.put, List.setIfInBounds_toArray, List.set_cons_zero, List.set_cons_succ]
                    (with_reducible refine' wl_valS ?_ ?_ ?_); rotate_left; exact rfl; exact (v_andT rfl rfl rfl)
                    simp only [Act.put, List.setIfInBounds_toArray, List.set_cons_zero, List.set_cons_succ]
                    (with_reducible refine' wl_valS ?_ ?_ ?_); rotate_left; exact rfl; exact (v_moveT (.inr rfl) rfl)
                    simp only [Act.put, List.setIfInBounds_toArray, List.set_cons_zero, List.set_cons_succ]
                    repeat ((fail_if_success (with_reducible show wpList _ _ _ (List.cons _ _) _ _)); (fail_if_success (with_reducible show Code.wp _ (Code.region _ _ true) _ _ _)); go_step)
                    (with_reducible refine' wl_valS ?_ ?_ ?_); rotate_left; exact rfl; exact (v_moveT (.inl rfl) rfl)
                    simp only [Act.put, List.setIfInBounds_toArray, List.set_cons_zero, List.set_cons_succ]
                    (with_reducible refine' wl_valS ?_ ?_ ?_); rotate_left; exact rfl; exact (v_add (n := 1) rfl rfl rfl (w_i64 (by omega)))
                    simp only [Act.put, List.setIfInBounds_toArray, List.set_cons_zero, List.set_cons_succ]
                    (with_reducible refine' wl_valS ?_ ?_ ?_); rotate_left; exact rfl; exact (v_moveT (.inr rfl) rfl)
                    simp only [Act.put, List.setIfInBounds_toArray, List.set_cons_zero, List.set_cons_succ]
                    go_wp2
                    go_roundw
                    case rel => exact ⟨i + 1, by omega, rfl, by rw [HT.out, Hq.out, hdc] <;> rfl, hE0⟩
                    case measure => simp [intOf]; omega
              · have e1 := Lib.hid (decide_eq_false k1)
                have e3 := Lib.hid (decide_eq_false (show ¬ 97 ≤ c by omega))
                have hdc : (dg c).isSome = false := by unfold dg; rw [if_neg (by omega), if_neg (by omega)]; rfl
                repeat ((fail_if_success (with_reducible show wpList _ _ _ (List.cons _ _) _ _)); (fail_if_success (with_reducible show Code.wp _ (Code.region _ _ true) _ _ _)); go_step)
                (with_reducible refine' wl_valS ?_ ?_ ?_); rotate_left; exact rfl; exact (v_moveT (.inl rfl) rfl)
                simp only [Act.put, List.setIfInBounds_toArray, List.set_cons_zero, List.set_cons_succ]
                (with_reducible refine' wl_valS ?_ ?_ ?_); rotate_left; exact rfl; exact (v_moveT (.inl rfl) rfl)
                simp only [Act.put, List.setIfInBounds_toArray, List.set_cons_zero, List.set_cons_succ]
                (with_reducible refine' wl_valS ?_ ?_ ?_); rotate_left; exact rfl; exact (v_moveT (.inl rfl) rfl)
                simp only [Act.put, List.setIfInBounds_toArray, List.set_cons_zero, List.set_cons_succ]
                (with_reducible refine' wl_valS ?_ ?_ ?_); rotate_left; exact rfl; exact (v_moveT (.inl rfl) rfl)
                simp only [Act.put, List.setIfInBounds_toArray, List.set_cons_zero, List.set_cons_succ]
                (with_reducible refine' wl_valS ?_ ?_ ?_); rotate_left; exact rfl; exact (v_idxB rfl rfl rfl Tryd.underlying9 G1.out hc8)
                simp only [Act.put, List.setIfInBounds_toArray, List.set_cons_zero, List.set_cons_succ]
                (with_reducible refine' wl_valS ?_ ?_ ?_); rotate_left; exact rfl; exact (v_geq (m := c) (n := 48) rfl rfl rfl)
                simp only [Act.put, List.setIfInBounds_toArray, List.set_cons_zero, List.set_cons_succ]
                rw [e1.out]
                (with_reducible refine' wl_valS ?_ ?_ ?_); rotate_left; exact rfl; exact (v_moveT (.inl rfl) rfl)
                simp only [Act.put, List.setIfInBounds_toArray, List.set_cons_zero, List.set_cons_succ]
                (with_reducible refine wl_skipS ?_ ?_); exact rfl
                simp only [Act.put, List.setIfInBounds_toArray, List.set_cons_zero, List.set_cons_succ]
                (with_reducible refine wl_skipS ?_ ?_); exact rfl
                simp only [Act.put, List.setIfInBounds_toArray, List.set_cons_zero, List.set_cons_succ]
                (with_reducible refine wl_skipS ?_ ?_); exact rfl
                simp only [Act.put, List.setIfInBounds_toArray, List.set_cons_zero, List.set_cons_succ]
                (with_reducible refine wl_skipS ?_ ?_); exact rfl
                simp only [Act.put, List.setIfInBounds_toArray, List.set_cons_zero, List.set_cons_succ]
                (with_reducible refine' wl_valS ?_ ?_ ?_); rotate_left; exact rfl; exact (v_andF rfl rfl)
                simp only [Act.put, List.setIfInBounds_toArray, List.set_cons_zero, List.set_cons_succ]
                (with_reducible refine' wl_valS ?_ ?_ ?_); rotate_left; exact rfl; exact (v_moveT (.inl rfl) rfl)
                simp only [Act.put, List.setIfInBounds_toArray, List.set_cons_zero, List.set_cons_succ]
                (with_reducible refine' wl_valS ?_ ?_ ?_); rotate_left; exact rfl; exact (v_moveT (.inl rfl) rfl)
                simp only [Act.put, List.setIfInBounds_toArray, List.set_cons_zero, List.set_cons_succ]
                (with_reducible refine' wl_valS ?_ ?_ ?_); rotate_left; exact rfl; exact (v_moveT (.inl rfl) rfl)
                simp only [Act.put, List.setIfInBounds_toArray, List.set_cons_zero, List.set_cons_succ]
                (with_reducible refine' wl_valS ?_ ?_ ?_); rotate_left; exact rfl; exact (v_idxB rfl rfl rfl Tryd.underlying9 G1.out hc8)
                simp only [Act.put, List.setIfInBounds_toArray, List.set_cons_zero, List.set_cons_succ]
                (with_reducible refine' wl_valS ?_ ?_ ?_); rotate_left; exact rfl; exact (v_geq (m := c) (n := 97) rfl rfl rfl)
                simp only [Act.put, List.setIfInBounds_toArray, List.set_cons_zero, List.set_cons_succ]
                rw [e3.out]
                (with_reducible refine' wl_valS ?_ ?_ ?_); rotate_left; exact rfl; exact (v_moveT (.inl rfl) rfl)
                simp only [Act.put, List.setIfInBounds_toArray, List.set_cons_zero, List.set_cons_succ]
                (with_reducible refine wl_skipS ?_ ?_); exact rfl
                simp only [Act.put, List.setIfInBounds_toArray, List.set_cons_zero, List.set_cons_succ]
                (with_reducible refine wl_skipS ?_ ?_); exact rfl
                simp only [Act.put, List.setIfInBounds_toArray, List.set_cons_zero, List.set_cons_succ]
                (with_reducible refine wl_skipS ?_ ?_); exact rfl
                simp only [Act.put, List.setIfInBounds_toArray, List.set_cons_zero, List.set_cons_succ]
                (with_reducible refine wl_skipS ?_ ?_); exact rfl
                simp only [Act.put, List.setIfInBounds_toArray, List.set_cons_zero, List.set_cons_succ]
                (with_reducible refine' wl_valS ?_ ?_ ?_); rotate_left; exact rfl; exact (v_andF rfl rfl)
                simp only [Act.put, List.setIfInBounds_toArray, List.set_cons_zero, List.set_cons_succ]
                (with_reducible refine' wl_valS ?_ ?_ ?_); rotate_left; exact rfl; exact (v_orF rfl rfl rfl)
                simp only [Act.put, List.setIfInBounds_toArray, List.set_cons_zero, List.set_cons_succ]
                (with_reducible refine' wl_valS ?_ ?_ ?_); rotate_left; exact rfl; exact (v_andT rfl rfl rfl)
                simp only [Act.put, List.setIfInBounds_toArray, List.set_cons_zero, List.set_cons_succ]
                (with_reducible refine' wl_valS ?_ ?_ ?_); rotate_left; exact rfl; exact (v_moveT (.inr rfl) rfl)
                simp only [Act.put, List.setIfInBounds_toArray, List.set_cons_zero, List.set_cons_succ]
                repeat ((fail_if_success (with_reducible show wpList _ _ _ (List.cons _ _) _ _)); (fail_if_success (with_reducible show Code.wp _ (Code.region _ _ true) _ _ _)); go_step)
                (with_reducible refine' wl_valS ?_ ?_ ?_); rotate_left; exact rfl; exact (v_moveT (.inl rfl) rfl)
                simp only [Act.put, List.setIfInBounds_toArray, List.set_cons_zero, List.set_cons_succ]
                (with_reducible refine' wl_valS ?_ ?_ ?_); rotate_left; exact rfl; exact (v_add (n := 1) rfl rfl rfl (w_i64 (by omega)))
                simp only [Act.put, List.setIfInBounds_toArray, List.set_cons_zero, List.set_cons_succ]
                (with_reducible refine' wl_valS ?_ ?_ ?_); rotate_left; exact rfl; exact (v_moveT (.inr rfl) rfl)
                simp only [Act.put, List.setIfInBounds_toArray, List.set_cons_zero, List.set_cons_succ]
                go_wp2
                go_roundw
                case rel => exact ⟨i + 1, by omega, rfl, by rw [HT.out, Hq.out, hdc] <;> rfl, hE0⟩
                case measure => simp [intOf]; omega
          · have hi' : i = m.length := by omega
            have e0 := Lib.hid (decide_eq_false hil)
            have hq : (decide (m.length % 2 = 0) && (m.take i).all fun c => (dg c).isSome) = false := by
              rw [hi', List.take_length]
              exact HN.out
            rw [hq]
            repeat ((fail_if_success (with_reducible show wpList _ _ _ (List.cons _ _) _ _)); (fail_if_success (with_reducible show Code.wp _ (Code.region _ _ true) _ _ _)); go_step)
            (with_reducible refine' wl_valS ?_ ?_ ?_); rotate_left; exact rfl; exact (v_moveT (.inl rfl) rfl)
            simp only [Act.put, List.setIfInBounds_toArray, List.set_cons_zero, List.set_cons_succ]
            (with_reducible refine' wl_valS ?_ ?_ ?_); rotate_left; exact rfl; exact (v_moveT (.inl rfl) rfl)
            simp only [Act.put, List.setIfInBounds_toArray, List.set_cons_zero, List.set_cons_succ]
            (with_reducible refine' wl_valS ?_ ?_ ?_); rotate_left; exact rfl; exact (v_lenStr rfl rfl Tryd.underlying9 hm63)
            simp only [Act.put, List.setIfInBounds_toArray, List.set_cons_zero, List.set_cons_succ]
            (with_reducible refine' wl_valS ?_ ?_ ?_); rotate_left; exact rfl; exact (v_lss rfl rfl rfl)
            simp only [Act.put, List.setIfInBounds_toArray, List.set_cons_zero, List.set_cons_succ]
            rw [e0.out]
            repeat ((fail_if_success (with_reducible show wpList _ _ _ (List.cons _ _) _ _)); (fail_if_success (with_reducible show Code.wp _ (Code.region _ _ true) _ _ _)); (fail_if_success (with_reducible show Code.wp _ (Code.cond _ _ _) _ _ _)); go_step)
            refine wp_cond_false (by first | rfl | exact congrArg Value.bool (decide_eq_false (by omega))) ?_
            skip
            repeat ((fail_if_success (with_reducible show wpList _ _ _ (List.cons _ _) _ _)); (fail_if_success (with_reducible show Code.wp _ (Code.region _ _ true) _ _ _)); go_step)
            (with_reducible refine' wl_valS ?_ ?_ ?_); rotate_left; exact rfl; exact (v_moveT (.inl rfl) rfl)
            simp only [Act.put, List.setIfInBounds_toArray, List.set_cons_zero, List.set_cons_succ]
            (with_reducible refine' wl_valS ?_ ?_ ?_); rotate_left; exact rfl; exact (v_not rfl rfl)
            simp only [Act.put, List.setIfInBounds_toArray, List.set_cons_zero, List.set_cons_succ]
            (with_reducible refine' wl_valS ?_ ?_ ?_); rotate_left; exact rfl; exact (v_moveT (.inl rfl) rfl)
            simp only [Act.put, List.setIfInBounds_toArray, List.set_cons_zero, List.set_cons_succ]
            (with_reducible refine' wl_valS ?_ ?_ ?_); rotate_left; exact rfl; exact (v_moveT (.inl rfl) rfl)
            simp only [Act.put, List.setIfInBounds_toArray, List.set_cons_zero, List.set_cons_succ]
            refine wl_step (st_gives hE0 rfl (run_call rfl Tryd.call9) (Code_err (handled_below hh hE0.below)) ?_)
            intro w1 hb1 hE1
            clear hE0
            simp only [Act.put, List.setIfInBounds_toArray, List.set_cons_zero, List.set_cons_succ]
            (with_reducible refine' wl_valS ?_ ?_ ?_); rotate_left; exact rfl; exact (v_run fun w9 => by go_simp; with_reducible rfl)
            simp only [Act.put, List.setIfInBounds_toArray, List.set_cons_zero, List.set_cons_succ]
            (with_reducible refine' wl_valS ?_ ?_ ?_); rotate_left; exact rfl; exact (v_andT rfl rfl rfl)
            simp only [Act.put, List.setIfInBounds_toArray, List.set_cons_zero, List.set_cons_succ]
            (with_reducible refine' wl_valS ?_ ?_ ?_); rotate_left; exact rfl; exact (v_moveT (.inl rfl) rfl)
            simp only [Act.put, List.setIfInBounds_toArray, List.set_cons_zero, List.set_cons_succ]
            (with_reducible refine' wl_valS ?_ ?_ ?_); rotate_left; exact rfl; exact (v_moveT (.inl rfl) rfl)
            simp only [Act.put, List.setIfInBounds_toArray, List.set_cons_zero, List.set_cons_succ]
            (with_reducible refine' wl_valS ?_ ?_ ?_); rotate_left; exact rfl; exact (v_len rfl rfl Tryd.underlying22 (by decide))
            simp only [Act.put, List.setIfInBounds_toArray, List.set_cons_zero, List.set_cons_succ]
            (with_reducible refine' wl_valS ?_ ?_ ?_); rotate_left; exact rfl; exact (v_run fun w9 => by go_simp; with_reducible rfl)
            simp only [Act.put, List.setIfInBounds_toArray, List.set_cons_zero, List.set_cons_succ]
            (with_reducible refine' wl_valS ?_ ?_ ?_); rotate_left; exact rfl; exact (v_andT rfl rfl rfl)
            simp only [Act.put, List.setIfInBounds_toArray, List.set_cons_zero, List.set_cons_succ]
            (with_reducible refine' wl_valS ?_ ?_ ?_); rotate_left; exact rfl; exact (v_moveT (.inl rfl) rfl)
            simp only [Act.put, List.setIfInBounds_toArray, List.set_cons_zero, List.set_cons_succ]
            refine wl_step (st_gives hE1 rfl (run_call rfl Tryd.call4) (awake_any _) ?_)
            intro w2 hb2 hE2
            clear hE1
            simp only [Act.put, List.setIfInBounds_toArray, List.set_cons_zero, List.set_cons_succ]
            (with_reducible refine' wl_valS ?_ ?_ ?_); rotate_left; exact rfl; exact (v_andT rfl rfl rfl)
            simp only [Act.put, List.setIfInBounds_toArray, List.set_cons_zero, List.set_cons_succ]
            (with_reducible refine' wl_valS ?_ ?_ ?_); rotate_left; exact rfl; exact (v_moveT (.inr rfl) rfl)
            simp only [Act.put, List.setIfInBounds_toArray, List.set_cons_zero, List.set_cons_succ]
            repeat ((fail_if_success (with_reducible show wpList _ _ _ (List.cons _ _) _ _)); (fail_if_success (with_reducible show Code.wp _ (Code.region _ _ true) _ _ _)); go_step)
            go_returns
            exact ⟨rfl, hE2.below⟩
      · obtain ⟨hxm, dx⟩ := hexN_unhex m x hu
        have hxl := hexN_mem_len hxm
        have hxM : x.length < 1000000 := by omega
        have Dx := Lib.hid dx
        have Hxm := Lib.hid hxm
        clear dx hxm
        repeat ((fail_if_success (with_reducible show wpList _ _ _ (List.cons _ _) _ _)); (fail_if_success (with_reducible show Code.wp _ (Code.region _ _ true) _ _ _)); go_step)
        (with_reducible refine' wl_valS ?_ ?_ ?_); rotate_left; exact rfl; exact (v_moveT (.inl rfl) rfl)
        simp only [Act.put, List.setIfInBounds_toArray, List.set_cons_zero, List.set_cons_succ]
        refine wl_step (st_calls rfl (run_call rfl Tryd.call6) (Parse_yes Dm.out hmM hu) ?_)
        rintro _ w5 ⟨vX, rfl, hb5, hrX⟩
        have hE5 := hE4.call hb5
        refine ⟨_, rfl, ?_⟩
        clear hE4
        simp only [Act.put, List.setIfInBounds_toArray, List.set_cons_zero, List.set_cons_succ]
        (with_reducible refine' wl_valS ?_ ?_ ?_); rotate_left; exact rfl; exact (v_moveT (.inl rfl) rfl)
        simp only [Act.put, List.setIfInBounds_toArray, List.set_cons_zero, List.set_cons_succ]
        (with_reducible refine' wl_valS ?_ ?_ ?_); rotate_left; exact rfl; exact (v_extract rfl rfl rfl)
        simp only [Act.put, List.setIfInBounds_toArray, List.set_cons_zero, List.set_cons_succ]
        (with_reducible refine' wl_valS ?_ ?_ ?_); rotate_left; exact rfl; exact (v_extract rfl rfl rfl)
        simp only [Act.put, List.setIfInBounds_toArray, List.set_cons_zero, List.set_cons_succ]
        (with_reducible refine' wl_valS ?_ ?_ ?_); rotate_left; exact rfl; exact (v_moveT (.inr rfl) rfl)
        simp only [Act.put, List.setIfInBounds_toArray, List.set_cons_zero, List.set_cons_succ]
        (with_reducible refine' wl_valS ?_ ?_ ?_); rotate_left; exact rfl; exact (v_moveT (.inr rfl) rfl)
        simp only [Act.put, List.setIfInBounds_toArray, List.set_cons_zero, List.set_cons_succ]
        repeat ((fail_if_success (with_reducible show wpList _ _ _ (List.cons _ _) _ _)); (fail_if_success (with_reducible show Code.wp _ (Code.region _ _ true) _ _ _)); go_step)
        (with_reducible refine' wl_valS ?_ ?_ ?_); rotate_left; exact rfl; exact (v_moveT (.inl rfl) rfl)
        simp only [Act.put, List.setIfInBounds_toArray, List.set_cons_zero, List.set_cons_succ]
        (with_reducible refine' wl_valS ?_ ?_ ?_); rotate_left; exact rfl; exact (v_run fun w9 => by go_simp; with_reducible rfl)
        simp only [Act.put, List.setIfInBounds_toArray, List.set_cons_zero, List.set_cons_succ]
        repeat ((fail_if_success (with_reducible show wpList _ _ _ (List.cons _ _) _ _)); (fail_if_success (with_reducible show Code.wp _ (Code.region _ _ true) _ _ _)); (fail_if_success (with_reducible show Code.wp _ (Code.cond _ _ _) _ _ _)); go_step)
        refine wp_cond_false (by first | rfl | exact congrArg Value.bool (decide_eq_false (by omega))) ?_
        skip
        repeat ((fail_if_success (with_reducible show wpList _ _ _ (List.cons _ _) _ _)); (fail_if_success (with_reducible show Code.wp _ (Code.region _ _ true) _ _ _)); go_step)
        (with_reducible refine' wl_valS ?_ ?_ ?_); rotate_left; exact rfl; exact (v_moveT (.inl rfl) rfl)
        simp only [Act.put, List.setIfInBounds_toArray, List.set_cons_zero, List.set_cons_succ]
        refine wl_step (st_gives hE5 rfl (run_call rfl Tryd.call7) (rHex_any hrX Dx.out hxM) ?_)
        intro w6 hb6 hE6
        clear hE5
        simp only [Act.put, List.setIfInBounds_toArray, List.set_cons_zero, List.set_cons_succ]
        rw [Hxm.out]
        (with_reducible refine' wl_valS ?_ ?_ ?_); rotate_left; exact rfl; exact (v_moveT (.inl rfl) rfl)
        simp only [Act.put, List.setIfInBounds_toArray, List.set_cons_zero, List.set_cons_succ]
        (with_reducible refine' wl_valS ?_ ?_ ?_); rotate_left; exact rfl; exact (v_eqStrT rfl rfl rfl rfl)
        simp only [Act.put, List.setIfInBounds_toArray, List.set_cons_zero, List.set_cons_succ]
        (with_reducible refine' wl_valS ?_ ?_ ?_); rotate_left; exact rfl; exact (v_moveT (.inl rfl) rfl)
        simp only [Act.put, List.setIfInBounds_toArray, List.set_cons_zero, List.set_cons_succ]
        refine wl_step (st_gives hE6 rfl (run_call rfl Tryd.call4) (awake_any _) ?_)
        intro w7 hb7 hE7
        clear hE6
        simp only [Act.put, List.setIfInBounds_toArray, List.set_cons_zero, List.set_cons_succ]
        (with_reducible refine' wl_valS ?_ ?_ ?_); rotate_left; exact rfl; exact (v_andT rfl rfl rfl)
        simp only [Act.put, List.setIfInBounds_toArray, List.set_cons_zero, List.set_cons_succ]
        (with_reducible refine' wl_valS ?_ ?_ ?_); rotate_left; exact rfl; exact (v_moveT (.inr rfl) rfl)
        simp only [Act.put, List.setIfInBounds_toArray, List.set_cons_zero, List.set_cons_succ]
        repeat ((fail_if_success (with_reducible show wpList _ _ _ (List.cons _ _) _ _)); (fail_if_success (with_reducible show Code.wp _ (Code.region _ _ true) _ _ _)); go_step)
        go_returns
        exact ⟨rfl, hE7.below⟩
set_option maxRecDepth 100000 in
theorem digestHex_lifted (os : Os) (started : os.Started) (H : Type) (enc : TypeId × Value → H) :
    ReturnsInHanded {} Tryd.checked os 3 .any (fun w args => (Rows.digestHexSpec.pre enc Tryd.prog Tryd.f3 [] false w args ∧ laidMetH Tryd.prog laidL w) ∧ sizedMet enc Tryd.prog Tryd.f3 (OpenSpec.ofChange Rows.digestHexSpec) false w args) (Rows.digestHexSpec.post enc Tryd.prog Tryd.f3 false true false false) := by
  refine returnsInHanded_of_change_and (C := Tryd.checked) (X := fun w _ => laidMetH Tryd.prog laidL w) (fun _ _ _ hh h => h.of_heap hh) own started (by kernel_rfl) Tryd.func3
    (ChangeSpec.witness_at (enc := enc) (C := Tryd.checked) (os := os) (X := fun w _ => laidMetH Tryd.prog laidL w) false (laidWorld os) #[.slice none 0 0, .string ⟨#[]⟩] 8 rfl (by kernel_rfl) (by kernel_rfl) (by kernel_rfl) (by kernel_rfl) (by kernel_rfl) (laidWorld_met os _)) ?_
  intro W base args ds gs before hval0 hW hcnd _ hL _
  have hg := handle_of_laid hL
  have hval : ∀ (j : Nat) t v, Tryd.f3.params[j]? = some t → args[j]? = some v → Value.okWide Tryd.prog W .any base t v := hval0
  have hW' := hW
  obtain ⟨p, q, hA0, hV, rfl, hfz, hnd⟩ := hW
  have hA : DataW.TrodAll enc Tryd.prog W 0 (fun _ => true) true Tryd.f3.params.toList args.toList ds p := hA0
  rw [Tryd.params3] at hA hval
  obtain ⟨v0, vs0, d0, ds0, p0, q0, hargs, rfl, rfl, h0, r0⟩ := trodAll_cons hA
  obtain ⟨v1, vs1, d1, ds1, p1, q1, rfl, rfl, rfl, h1, r1⟩ := trodAll_cons r0
  obtain ⟨rfl, rfl, rfl⟩ := trodAll_nil r1
  obtain rfl : args = #[v0, v1] := by cases args; simp_all
  obtain ⟨rfl, rfl⟩ := trodVars_none hV
  have k0 := h0
  have lt0 : ∀ x ∈ p0, x.block < W.heap.size := by obtain ⟨m, hm⟩ := k0; exact DataW.trod_lt m _ _ _ hm
  have k1 := h1
  have lt1 : ∀ x ∈ p1, x.block < W.heap.size := by obtain ⟨m, hm⟩ := k1; exact DataW.trod_lt m _ _ _ hm
  obtain ⟨l0, hu0, hd0, hm0⟩ := open_bytes Tryd.underlying22 Tryd.underlying5 (by kernel_rfl) (hval 0 22 v0 rfl rfl) h0
  obtain ⟨s1, rfl, rfl, rfl, hs1⟩ := Go.ChangeMaps.open_string Tryd.underlying9 (hval 1 9 v1 rfl rfl) h1
  obtain ⟨l1, rfl, hd1, hm1⟩ := bytesOf_all s1 hs1
  clear hA0 hval0
  refine (digestHex_walk hg hu0 hd0 hm0 hd1 hm1).mono fun e W' ⟨he, bel⟩ => ?_
  subst he
  exact ⟨_, rfl, _, _, _, [], _, [], hW', trodAll_mk1 (shut_bool Tryd.underlying4 _), (trodAll_cons_mk (Below.trod laidOut (by kernel_rfl) (of_decide_eq_true (by kernel_rfl)) k0 bel lt0) (trodAll_cons_mk (Below.trod laidOut (by kernel_rfl) (of_decide_eq_true (by kernel_rfl)) k1 bel lt1) trodAll_mk0)), rfl, bel.frame _, fun h => by cases h⟩

theorem digestHex_over : Rows.digestHexRow.holds Tryd.pinned (OpenSpec.ofChange Rows.digestHexSpec) :=
  OpenClaim.holds_of_wide 3 Tryd.f3 rfl rfl rfl rfl rfl rfl rfl ⟨rfl, rfl, rfl, rfl, rfl⟩ rfl rfl rfl rfl rfl (by kernel_rfl) Tryd.func3 (by kernel_rfl)
    (of_decide_eq_true (by kernel_rfl)) (by unfold Func.isWrapper; first | (rw [if_pos (by decide +kernel)]; kernel_rfl) | (rw [if_neg (by decide +kernel)]; exact ⟨rfl, rfl⟩))
    (fun os started H enc _ => digestHex_lifted os started H enc)

theorem digestHex_holds : Rows.DigestHexCardSaid :=
  Claim7.holds_tied_plain_at .later [] [.handle] true Rows.digestHexCard.stood.harness true
    digestHex_over (fun _ h => by cases h) (by kernel_rfl) (fun _ h => by cases h) digestHex_row_tie rfl ⟨rfl, rfl⟩ (by kernel_rfl) rfl
    (fun f fn hf hfn => by
      obtain rfl : f = 3 := Option.some.inj ((show Tryd.prog.funcNamed "dioptre/dioptrelaw03.DigestHex" = some 3 by kernel_rfl).symm.trans hf) |>.symm
      obtain rfl : fn = Tryd.f3 := (Option.some.inj (Tryd.func3.symm.trans hfn)).symm
      exact ⟨by kernel_rfl, fun j t ht => by
        rw [Tryd.params3] at ht
        have hm := List.mem_of_getElem? (show [22, 9][j]? = some t by simpa using ht)
        have key : ∀ t ∈ [22, 9], Tryd.prog.wantsStandIn t = false := by
          intro t h
          simp only [List.mem_cons, List.not_mem_nil, or_false] at h
          rcases h with rfl | rfl <;> kernel_rfl
        exact key t hm⟩)
    (by kernel_rfl)

#print axioms digestHex_holds
end Go.Proofs.YtndnmghlgcamfaaDoor
