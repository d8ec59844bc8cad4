/-
  Layer 28: the packets to one; two lists of packets, and of numbers, that are the same. Conditions: the packets' bytes are read.
-/
import Derived.Test.YtnbbehgcnodfbaaDoorNetM
namespace Go.Proofs.YtnbbehgcnodfbaaDoor
open Go.RowKit
set_option maxRecDepth 100000
set_option linter.unusedVariables false
set_option linter.unusedSimpArgs false

theorem info_int : ∃ i, Tryd.prog.info? 3 = some i ∧ i.zero = some (.int .i64 0) ∧ i.size = 1 ∧ i.bytes = 8 := info_parts (P := Tryd.prog) (by kernel_rfl)
theorem key_at {A B : List PV} (h : A.map PV.key = B.map PV.key) {j : Nat} {m n : PV} (h1 : A[j]? = some m) (h2 : B[j]? = some n) : m.key = n.key := by
  have e1 : (A.map PV.key)[j]? = some m.key := by rw [List.getElem?_map, h1]; rfl
  rw [h, List.getElem?_map, h2] at e1
  injection e1 with e1
  exact e1.symm
theorem keys_lenN {N M : List PV} (h : N.map PV.key = M.map PV.key) : N.length = M.length := by
  have := congrArg List.length h
  simpa using this
set_option maxHeartbeats 4000000 in
theorem rAll_same {A B : List PV} {v u : Value} {w : World} (hv : RdZ 3 A.length (pcells A) v w) (hu : RdZ 3 B.length (pcells B) u w) (hA : ∀ m ∈ A, RdS .u8 m.by' m.sl w ∧ Digs 256 m.by') (hB : ∀ m ∈ B, RdS .u8 m.by' m.sl w ∧ Digs 256 m.by') (hk : A.map PV.key = B.map PV.key) (hl : A.length < 1000000) : Gives 9 #[v, u] w (.bool true) := by
  have hlen := keys_lenN hk
  obtain ⟨p, c, rfl, hc⟩ := hv.len
  obtain ⟨p2, c2, rfl, hc2⟩ := hu.len
  rw [hlen] at hc
  have hb63 : B.length < 9223372036854775808 := by omega
  have hne := Lib.hid (decide_eq_false (show ¬ B.length ≠ B.length from fun h => h rfl))
  rw [hlen] at hv hl ⊢
  have Hv := Lib.hid hv
  have Hu := Lib.hid hu
  have HA := Lib.hid hA
  have HB := Lib.hid hB
  have Hk := Lib.hid hk
  clear hv hu hA hB hk
  have hE0 := Env.nil w
  have hE0 := Env.nil w
  go_enter Tryd.func9, Tryd.ntmps9
  repeat ((fail_if_success (with_reducible show wpList _ _ _ (List.cons _ _) _ _)); (fail_if_success (with_reducible show Code.wp _ (Code.region _ _ true) _ _ _)); go_step)
  (with_reducible refine' wl_valS ?_ ?_ ?_); rotate_left; exact rfl; exact (v_moveC (.inr rfl))
  simp only [Act.put, List.setIfInBounds_toArray, List.set_cons_zero, List.set_cons_succ]
  repeat ((fail_if_success (with_reducible show wpList _ _ _ (List.cons _ _) _ _)); (fail_if_success (with_reducible show Code.wp _ (Code.region _ _ true) _ _ _)); go_step)
  (with_reducible refine' wl_valS ?_ ?_ ?_); rotate_left; exact rfl; exact (v_moveT (.inl rfl) rfl)
  simp only [Act.put, List.setIfInBounds_toArray, List.set_cons_zero, List.set_cons_succ]
  (with_reducible refine' wl_valS ?_ ?_ ?_); rotate_left; exact rfl; exact (v_len rfl rfl Tryd.underlying31 hb63)
  simp only [Act.put, List.setIfInBounds_toArray, List.set_cons_zero, List.set_cons_succ]
  (with_reducible refine' wl_valS ?_ ?_ ?_); rotate_left; exact rfl; exact (v_moveT (.inl rfl) rfl)
  simp only [Act.put, List.setIfInBounds_toArray, List.set_cons_zero, List.set_cons_succ]
  (with_reducible refine' wl_valS ?_ ?_ ?_); rotate_left; exact rfl; exact (v_len rfl rfl Tryd.underlying31 hb63)
  simp only [Act.put, List.setIfInBounds_toArray, List.set_cons_zero, List.set_cons_succ]
  (with_reducible refine' wl_valS ?_ ?_ ?_); rotate_left; exact rfl; exact (v_neq (m := B.length) (n := B.length) rfl rfl rfl)
  simp only [Act.put, List.setIfInBounds_toArray, List.set_cons_zero, List.set_cons_succ]
  rw [hne.out]
  repeat ((fail_if_success (with_reducible show wpList _ _ _ (List.cons _ _) _ _)); (fail_if_success (with_reducible show Code.wp _ (Code.region _ _ true) _ _ _)); (fail_if_success (with_reducible show Code.wp _ (Code.cond _ _ _) _ _ _)); go_step)
  refine wp_cond_false (by first | rfl | exact congrArg Value.bool (decide_eq_false (by omega))) ?_
  skip
  repeat ((fail_if_success (with_reducible show wpList _ _ _ (List.cons _ _) _ _)); (fail_if_success (with_reducible show Code.wp _ (Code.region _ _ true) _ _ _)); go_step)
  (with_reducible refine' wl_valS ?_ ?_ ?_); rotate_left; exact rfl; exact (v_moveC (.inr rfl))
  simp only [Act.put, List.setIfInBounds_toArray, List.set_cons_zero, List.set_cons_succ]
  have hst : Env w [] w := hE0
  clear hE0
  go_wp2
  go_loopw [5] (fun i wr => ∃ j : Nat, j ≤ B.length ∧ i = .int .i64 j ∧ Env w [] wr) (fun i _ => B.length - (intOf i).toNat)
  case atStart => exact ⟨0, Nat.zero_le _, rfl, hst⟩
  case round =>
    clear hst
    obtain ⟨j, hj, rfl, hE0⟩ := hrel
    by_cases hjl : j < B.length
    · have d1 := Lib.hid (decide_eq_true hjl)
      have hja : j < A.length := by omega
      have g1 : A[j]? = some A[j] := List.getElem?_eq_getElem hja
      have g2 : B[j]? = some B[j] := List.getElem?_eq_getElem hjl
      obtain ⟨m, hme⟩ : ∃ m, A[j] = m := ⟨_, rfl⟩
      obtain ⟨n, hne2⟩ : ∃ m, B[j] = m := ⟨_, rfl⟩
      rw [hme] at g1
      rw [hne2] at g2
      have hmk := key_at Hk.out g1 g2
      have hm := HA.out m (List.mem_of_getElem? g1)
      have hn := HB.out n (List.mem_of_getElem? g2)
      obtain ⟨b, off, rfl, hr1⟩ := Hv.out.elem hjl
      obtain ⟨b2, off2, rfl, hr2⟩ := Hu.out.elem hjl
      rw [pcells_at g1] at hr1
      rw [pcells_at g2] at hr2
      have HS : Hid (∀ w', Below w.heap.size w w' → Gives 21 #[.agg #[.int .i64 m.fr, .int .i64 m.to, m.sl], .agg #[.int .i64 n.fr, .int .i64 n.to, n.sl]] w' (.bool true)) := Lib.hid (fun w' hb => by
        have h := Same_any (f1 := m.fr) (t1 := m.to) (f2 := n.fr) (t2 := n.to) (hm.1.below hb) (hn.1.below hb) hm.2 hn.2
        unfold PV.key at hmk
        simp only [Prod.mk.injEq] at hmk
        rw [decide_eq_true hmk.1, decide_eq_true hmk.2.1, decide_eq_true hmk.2.2] at h
        exact h)
      have Hr1 := Lib.hid hr1
      have Hr2 := Lib.hid hr2
      clear hr1 hr2 hm hn g1 g2 hme hne2
      repeat ((fail_if_success (with_reducible show wpList _ _ _ (List.cons _ _) _ _)); (fail_if_success (with_reducible show Code.wp _ (Code.region _ _ true) _ _ _)); go_step)
      (with_reducible refine' wl_valS ?_ ?_ ?_); rotate_left; exact rfl; exact (v_moveT (.inl rfl) rfl)
      simp only [Act.put, List.setIfInBounds_toArray, List.set_cons_zero, List.set_cons_succ]
      (with_reducible refine' wl_valS ?_ ?_ ?_); rotate_left; exact rfl; exact (v_moveT (.inl rfl) rfl)
      simp only [Act.put, List.setIfInBounds_toArray, List.set_cons_zero, List.set_cons_succ]
      (with_reducible refine' wl_valS ?_ ?_ ?_); rotate_left; exact rfl; exact (v_len rfl rfl Tryd.underlying31 hb63)
      simp only [Act.put, List.setIfInBounds_toArray, List.set_cons_zero, List.set_cons_succ]
      (with_reducible refine' wl_valS ?_ ?_ ?_); rotate_left; exact rfl; exact (v_lss rfl rfl rfl)
      simp only [Act.put, List.setIfInBounds_toArray, List.set_cons_zero, List.set_cons_succ]
      rw [d1.out]
      repeat ((fail_if_success (with_reducible show wpList _ _ _ (List.cons _ _) _ _)); (fail_if_success (with_reducible show Code.wp _ (Code.region _ _ true) _ _ _)); (fail_if_success (with_reducible show Code.wp _ (Code.cond _ _ _) _ _ _)); go_step)
      refine wp_cond_true (by first | rfl | exact congrArg Value.bool (decide_eq_true (by omega))) ?_
      skip
      repeat ((fail_if_success (with_reducible show wpList _ _ _ (List.cons _ _) _ _)); (fail_if_success (with_reducible show Code.wp _ (Code.region _ _ true) _ _ _)); go_step)
      refine wp_region_B (n := 10) 10 (by kernel_rfl) rfl hE0 ?_
      intro w1 hb1 hE1
      clear hE0
      refine wpB_take (i := 0) (by kernel_rfl) rfl (by kernel_rfl) (fun _ _ _ h => h) rfl (v_moveT (.inl rfl) rfl) ?_
      simp only [Act.put, List.setIfInBounds_toArray, List.set_cons_zero, List.set_cons_succ]
      refine wpB_take (i := 1) (by kernel_rfl) rfl (by kernel_rfl) (fun _ _ _ h => h) rfl (v_moveT (.inl rfl) rfl) ?_
      simp only [Act.put, List.setIfInBounds_toArray, List.set_cons_zero, List.set_cons_succ]
      refine wpB_take (i := 2) (by kernel_rfl) rfl (by kernel_rfl) (fun _ _ _ h => h) rfl (v_indexSs (s := 3) rfl rfl rfl Tryd.underlying31 (by kernel_rfl) hjl) ?_
      simp only [Act.put, List.setIfInBounds_toArray, List.set_cons_zero, List.set_cons_succ]
      refine wpB_take (i := 3) (by kernel_rfl) rfl (by kernel_rfl) (fun _ _ _ h => h) rfl (v_loadMid (cs := #[.int .i64 m.fr, .int .i64 m.to, m.sl]) rfl rfl (fun w1 hb => Hr1.out w1 (hE1.below.trans (hb.mono hE1.below.size))) Tryd.underlying43 rfl (by kernel_rfl)) ?_
      simp only [Act.put, List.setIfInBounds_toArray, List.set_cons_zero, List.set_cons_succ]
      refine wpB_take (i := 4) (by kernel_rfl) rfl (by kernel_rfl) (fun _ _ _ h => h) rfl (v_moveT (.inl rfl) rfl) ?_
      simp only [Act.put, List.setIfInBounds_toArray, List.set_cons_zero, List.set_cons_succ]
      refine wpB_take (i := 5) (by kernel_rfl) rfl (by kernel_rfl) (fun _ _ _ h => h) rfl (v_moveT (.inl rfl) rfl) ?_
      simp only [Act.put, List.setIfInBounds_toArray, List.set_cons_zero, List.set_cons_succ]
      refine wpB_take (i := 6) (by kernel_rfl) rfl (by kernel_rfl) (fun _ _ _ h => h) rfl (v_indexSs (s := 3) rfl rfl rfl Tryd.underlying31 (by kernel_rfl) hjl) ?_
      simp only [Act.put, List.setIfInBounds_toArray, List.set_cons_zero, List.set_cons_succ]
      refine wpB_take (i := 7) (by kernel_rfl) rfl (by kernel_rfl) (fun _ _ _ h => h) rfl (v_loadMid (cs := #[.int .i64 n.fr, .int .i64 n.to, n.sl]) rfl rfl (fun w1 hb => Hr2.out w1 (hE1.below.trans (hb.mono hE1.below.size))) Tryd.underlying43 rfl (by kernel_rfl)) ?_
      simp only [Act.put, List.setIfInBounds_toArray, List.set_cons_zero, List.set_cons_succ]
      refine wpB_step (i := 8) (by kernel_rfl) rfl (st_gives hE1 rfl (run_call rfl Tryd.call21) (HS.out _ hE1.below) ?_)
      intro w2 hb2 hE2
      clear hE1
      refine ⟨fun _ => hb2, ?_⟩
      simp only [Act.put, List.setIfInBounds_toArray, List.set_cons_zero, List.set_cons_succ]
      refine wpB_take (i := 9) (by kernel_rfl) rfl (by kernel_rfl) (fun _ _ _ h => h) rfl (v_not rfl rfl) ?_
      simp only [Act.put, List.setIfInBounds_toArray, List.set_cons_zero, List.set_cons_succ]
      refine wpB_done (by kernel_rfl) ?_ _
      repeat ((fail_if_success (with_reducible show wpList _ _ _ (List.cons _ _) _ _)); (fail_if_success (with_reducible show Code.wp _ (Code.region _ _ true) _ _ _)); (fail_if_success (with_reducible show Code.wp _ (Code.cond _ _ _) _ _ _)); go_step)
      refine wp_cond_false (by first | rfl | exact congrArg Value.bool (decide_eq_false (by omega))) ?_
      skip
      repeat ((fail_if_success (with_reducible show wpList _ _ _ (List.cons _ _) _ _)); (fail_if_success (with_reducible show Code.wp _ (Code.region _ _ true) _ _ _)); go_step)
      (with_reducible refine' wl_valS ?_ ?_ ?_); rotate_left; exact rfl; exact (v_moveT (.inl rfl) rfl)
      simp only [Act.put, List.setIfInBounds_toArray, List.set_cons_zero, List.set_cons_succ]
      (with_reducible refine' wl_valS ?_ ?_ ?_); rotate_left; exact rfl; exact (v_add (n := 1) rfl rfl rfl (w_i64 (by omega)))
      simp only [Act.put, List.setIfInBounds_toArray, List.set_cons_zero, List.set_cons_succ]
      (with_reducible refine' wl_valS ?_ ?_ ?_); rotate_left; exact rfl; exact (v_moveT (.inr rfl) rfl)
      simp only [Act.put, List.setIfInBounds_toArray, List.set_cons_zero, List.set_cons_succ]
      go_wp2
      go_roundw
      case rel => exact ⟨j + 1, by omega, rfl, hE2⟩
      case measure => simp [intOf]; omega
    · have hj' : j = B.length := by omega
      have d1 := Lib.hid (decide_eq_false hjl)
      repeat ((fail_if_success (with_reducible show wpList _ _ _ (List.cons _ _) _ _)); (fail_if_success (with_reducible show Code.wp _ (Code.region _ _ true) _ _ _)); go_step)
      (with_reducible refine' wl_valS ?_ ?_ ?_); rotate_left; exact rfl; exact (v_moveT (.inl rfl) rfl)
      simp only [Act.put, List.setIfInBounds_toArray, List.set_cons_zero, List.set_cons_succ]
      (with_reducible refine' wl_valS ?_ ?_ ?_); rotate_left; exact rfl; exact (v_moveT (.inl rfl) rfl)
      simp only [Act.put, List.setIfInBounds_toArray, List.set_cons_zero, List.set_cons_succ]
      (with_reducible refine' wl_valS ?_ ?_ ?_); rotate_left; exact rfl; exact (v_len rfl rfl Tryd.underlying31 hb63)
      simp only [Act.put, List.setIfInBounds_toArray, List.set_cons_zero, List.set_cons_succ]
      (with_reducible refine' wl_valS ?_ ?_ ?_); rotate_left; exact rfl; exact (v_lss rfl rfl rfl)
      simp only [Act.put, List.setIfInBounds_toArray, List.set_cons_zero, List.set_cons_succ]
      rw [d1.out]
      repeat ((fail_if_success (with_reducible show wpList _ _ _ (List.cons _ _) _ _)); (fail_if_success (with_reducible show Code.wp _ (Code.region _ _ true) _ _ _)); (fail_if_success (with_reducible show Code.wp _ (Code.cond _ _ _) _ _ _)); go_step)
      refine wp_cond_false (by first | rfl | exact congrArg Value.bool (decide_eq_false (by omega))) ?_
      skip
      repeat ((fail_if_success (with_reducible show wpList _ _ _ (List.cons _ _) _ _)); (fail_if_success (with_reducible show Code.wp _ (Code.region _ _ true) _ _ _)); go_step)
      (with_reducible refine' wl_valS ?_ ?_ ?_); rotate_left; exact rfl; exact (v_moveC (.inr rfl))
      simp only [Act.put, List.setIfInBounds_toArray, List.set_cons_zero, List.set_cons_succ]
      repeat ((fail_if_success (with_reducible show wpList _ _ _ (List.cons _ _) _ _)); (fail_if_success (with_reducible show Code.wp _ (Code.region _ _ true) _ _ _)); go_step)
      go_returns
      exact ⟨rfl, hE0.below⟩
set_option maxHeartbeats 4000000 in
theorem Ints_same {l : List Nat} {v u : Value} {w : World} (hv : RdS .i64 l v w) (hu : RdS .i64 l u w) (hl : l.length < 1000000) : Gives 13 #[v, u] w (.bool true) := by
  obtain ⟨p, c, rfl, hc, -⟩ := id hv
  obtain ⟨p2, c2, rfl, hc2, -⟩ := id hu
  have Hv := Lib.hid hv
  have Hu := Lib.hid hu
  have hl63 : l.length < 9223372036854775808 := by omega
  have hne := Lib.hid (decide_eq_false (show ¬ l.length ≠ l.length from fun h => h rfl))
  clear hv hu
  have hE0 := Env.nil w
  have hE0 := Env.nil w
  go_enter Tryd.func13, Tryd.ntmps13
  repeat ((fail_if_success (with_reducible show wpList _ _ _ (List.cons _ _) _ _)); (fail_if_success (with_reducible show Code.wp _ (Code.region _ _ true) _ _ _)); go_step)
  (with_reducible refine' wl_valS ?_ ?_ ?_); rotate_left; exact rfl; exact (v_moveC (.inr rfl))
  simp only [Act.put, List.setIfInBounds_toArray, List.set_cons_zero, List.set_cons_succ]
  repeat ((fail_if_success (with_reducible show wpList _ _ _ (List.cons _ _) _ _)); (fail_if_success (with_reducible show Code.wp _ (Code.region _ _ true) _ _ _)); go_step)
  (with_reducible refine' wl_valS ?_ ?_ ?_); rotate_left; exact rfl; exact (v_moveT (.inl rfl) rfl)
  simp only [Act.put, List.setIfInBounds_toArray, List.set_cons_zero, List.set_cons_succ]
  (with_reducible refine' wl_valS ?_ ?_ ?_); rotate_left; exact rfl; exact (v_len rfl rfl Tryd.underlying40 hl63)
  simp only [Act.put, List.setIfInBounds_toArray, List.set_cons_zero, List.set_cons_succ]
  (with_reducible refine' wl_valS ?_ ?_ ?_); rotate_left; exact rfl; exact (v_moveT (.inl rfl) rfl)
  simp only [Act.put, List.setIfInBounds_toArray, List.set_cons_zero, List.set_cons_succ]
  (with_reducible refine' wl_valS ?_ ?_ ?_); rotate_left; exact rfl; exact (v_len rfl rfl Tryd.underlying40 hl63)
  simp only [Act.put, List.setIfInBounds_toArray, List.set_cons_zero, List.set_cons_succ]
  (with_reducible refine' wl_valS ?_ ?_ ?_); rotate_left; exact rfl; exact (v_neq (m := l.length) (n := l.length) rfl rfl rfl)
  simp only [Act.put, List.setIfInBounds_toArray, List.set_cons_zero, List.set_cons_succ]
  rw [hne.out]
  repeat ((fail_if_success (with_reducible show wpList _ _ _ (List.cons _ _) _ _)); (fail_if_success (with_reducible show Code.wp _ (Code.region _ _ true) _ _ _)); (fail_if_success (with_reducible show Code.wp _ (Code.cond _ _ _) _ _ _)); go_step)
  refine wp_cond_false (by first | rfl | exact congrArg Value.bool (decide_eq_false (by omega))) ?_
  skip
  repeat ((fail_if_success (with_reducible show wpList _ _ _ (List.cons _ _) _ _)); (fail_if_success (with_reducible show Code.wp _ (Code.region _ _ true) _ _ _)); go_step)
  (with_reducible refine' wl_valS ?_ ?_ ?_); rotate_left; exact rfl; exact (v_moveC (.inr rfl))
  simp only [Act.put, List.setIfInBounds_toArray, List.set_cons_zero, List.set_cons_succ]
  have hst : Env w [] w := hE0
  clear hE0
  go_wp2
  go_loopw [5] (fun i wr => ∃ j : Nat, j ≤ l.length ∧ i = .int .i64 j ∧ Env w [] wr) (fun i _ => l.length - (intOf i).toNat)
  case atStart => exact ⟨0, Nat.zero_le _, rfl, hst⟩
  case round =>
    clear hst
    obtain ⟨j, hj, rfl, hE0⟩ := hrel
    by_cases hjl : j < l.length
    · have d1 := Lib.hid (decide_eq_true hjl)
      obtain ⟨b, off, hp, hcell⟩ := Hv.out.at hjl
      subst hp
      obtain ⟨b2, off2, hp2, hcell2⟩ := Hu.out.at hjl
      subst hp2
      obtain ⟨x, hxx⟩ : ∃ x, l.getD j 0 = x := ⟨_, rfl⟩
      rw [hxx] at hcell hcell2
      have HC := Lib.hid hcell
      have HC2 := Lib.hid hcell2
      have d2 := Lib.hid (decide_eq_false (show ¬ x ≠ x from fun h => h rfl))
      clear hcell hcell2 hxx
      repeat ((fail_if_success (with_reducible show wpList _ _ _ (List.cons _ _) _ _)); (fail_if_success (with_reducible show Code.wp _ (Code.region _ _ true) _ _ _)); go_step)
      (with_reducible refine' wl_valS ?_ ?_ ?_); rotate_left; exact rfl; exact (v_moveT (.inl rfl) rfl)
      simp only [Act.put, List.setIfInBounds_toArray, List.set_cons_zero, List.set_cons_succ]
      (with_reducible refine' wl_valS ?_ ?_ ?_); rotate_left; exact rfl; exact (v_moveT (.inl rfl) rfl)
      simp only [Act.put, List.setIfInBounds_toArray, List.set_cons_zero, List.set_cons_succ]
      (with_reducible refine' wl_valS ?_ ?_ ?_); rotate_left; exact rfl; exact (v_len rfl rfl Tryd.underlying40 hl63)
      simp only [Act.put, List.setIfInBounds_toArray, List.set_cons_zero, List.set_cons_succ]
      (with_reducible refine' wl_valS ?_ ?_ ?_); rotate_left; exact rfl; exact (v_lss rfl rfl rfl)
      simp only [Act.put, List.setIfInBounds_toArray, List.set_cons_zero, List.set_cons_succ]
      rw [d1.out]
      repeat ((fail_if_success (with_reducible show wpList _ _ _ (List.cons _ _) _ _)); (fail_if_success (with_reducible show Code.wp _ (Code.region _ _ true) _ _ _)); (fail_if_success (with_reducible show Code.wp _ (Code.cond _ _ _) _ _ _)); go_step)
      refine wp_cond_true (by first | rfl | exact congrArg Value.bool (decide_eq_true (by omega))) ?_
      skip
      repeat ((fail_if_success (with_reducible show wpList _ _ _ (List.cons _ _) _ _)); (fail_if_success (with_reducible show Code.wp _ (Code.region _ _ true) _ _ _)); go_step)
      refine wp_region_B (n := 9) 9 (by kernel_rfl) rfl hE0 ?_
      intro w1 hb1 hE1
      clear hE0
      refine wpB_take (i := 0) (by kernel_rfl) rfl (by kernel_rfl) (fun _ _ _ h => h) rfl (v_moveT (.inl rfl) rfl) ?_
      simp only [Act.put, List.setIfInBounds_toArray, List.set_cons_zero, List.set_cons_succ]
      refine wpB_take (i := 1) (by kernel_rfl) rfl (by kernel_rfl) (fun _ _ _ h => h) rfl (v_moveT (.inl rfl) rfl) ?_
      simp only [Act.put, List.setIfInBounds_toArray, List.set_cons_zero, List.set_cons_succ]
      refine wpB_take (i := 2) (by kernel_rfl) rfl (by kernel_rfl) (fun _ _ _ h => h) rfl (v_indexS rfl rfl rfl Tryd.underlying40 (by kernel_rfl) hjl) ?_
      simp only [Act.put, List.setIfInBounds_toArray, List.set_cons_zero, List.set_cons_succ]
      refine wpB_take (i := 3) (by kernel_rfl) rfl (by kernel_rfl) (fun _ _ _ h => h) rfl (v_cell rfl rfl Tryd.underlying3 rfl (fun w1 hb => HC.out w1 (hE1.below.trans (hb.mono hE1.below.size)))) ?_
      simp only [Act.put, List.setIfInBounds_toArray, List.set_cons_zero, List.set_cons_succ]
      refine wpB_take (i := 4) (by kernel_rfl) rfl (by kernel_rfl) (fun _ _ _ h => h) rfl (v_moveT (.inl rfl) rfl) ?_
      simp only [Act.put, List.setIfInBounds_toArray, List.set_cons_zero, List.set_cons_succ]
      refine wpB_take (i := 5) (by kernel_rfl) rfl (by kernel_rfl) (fun _ _ _ h => h) rfl (v_moveT (.inl rfl) rfl) ?_
      simp only [Act.put, List.setIfInBounds_toArray, List.set_cons_zero, List.set_cons_succ]
      refine wpB_take (i := 6) (by kernel_rfl) rfl (by kernel_rfl) (fun _ _ _ h => h) rfl (v_indexS rfl rfl rfl Tryd.underlying40 (by kernel_rfl) hjl) ?_
      simp only [Act.put, List.setIfInBounds_toArray, List.set_cons_zero, List.set_cons_succ]
      refine wpB_take (i := 7) (by kernel_rfl) rfl (by kernel_rfl) (fun _ _ _ h => h) rfl (v_cell rfl rfl Tryd.underlying3 rfl (fun w1 hb => HC2.out w1 (hE1.below.trans (hb.mono hE1.below.size)))) ?_
      simp only [Act.put, List.setIfInBounds_toArray, List.set_cons_zero, List.set_cons_succ]
      refine wpB_take (i := 8) (by kernel_rfl) rfl (by kernel_rfl) (fun _ _ _ h => h) rfl (v_neq (m := x) (n := x) rfl rfl rfl) ?_
      simp only [Act.put, List.setIfInBounds_toArray, List.set_cons_zero, List.set_cons_succ]
      rw [d2.out]
      refine wpB_done (by kernel_rfl) ?_ _
      repeat ((fail_if_success (with_reducible show wpList _ _ _ (List.cons _ _) _ _)); (fail_if_success (with_reducible show Code.wp _ (Code.region _ _ true) _ _ _)); (fail_if_success (with_reducible show Code.wp _ (Code.cond _ _ _) _ _ _)); go_step)
      refine wp_cond_false (by first | rfl | exact congrArg Value.bool (decide_eq_false (by omega))) ?_
      skip
      repeat ((fail_if_success (with_reducible show wpList _ _ _ (List.cons _ _) _ _)); (fail_if_success (with_reducible show Code.wp _ (Code.region _ _ true) _ _ _)); go_step)
      (with_reducible refine' wl_valS ?_ ?_ ?_); rotate_left; exact rfl; exact (v_moveT (.inl rfl) rfl)
      simp only [Act.put, List.setIfInBounds_toArray, List.set_cons_zero, List.set_cons_succ]
      (with_reducible refine' wl_valS ?_ ?_ ?_); rotate_left; exact rfl; exact (v_add (n := 1) rfl rfl rfl (w_i64 (by omega)))
      simp only [Act.put, List.setIfInBounds_toArray, List.set_cons_zero, List.set_cons_succ]
      (with_reducible refine' wl_valS ?_ ?_ ?_); rotate_left; exact rfl; exact (v_moveT (.inr rfl) rfl)
      simp only [Act.put, List.setIfInBounds_toArray, List.set_cons_zero, List.set_cons_succ]
      go_wp2
      go_roundw
      case rel => exact ⟨j + 1, by omega, rfl, hE1⟩
      case measure => simp [intOf]; omega
    · have hj' : j = l.length := by omega
      have d1 := Lib.hid (decide_eq_false hjl)
      repeat ((fail_if_success (with_reducible show wpList _ _ _ (List.cons _ _) _ _)); (fail_if_success (with_reducible show Code.wp _ (Code.region _ _ true) _ _ _)); go_step)
      (with_reducible refine' wl_valS ?_ ?_ ?_); rotate_left; exact rfl; exact (v_moveT (.inl rfl) rfl)
      simp only [Act.put, List.setIfInBounds_toArray, List.set_cons_zero, List.set_cons_succ]
      (with_reducible refine' wl_valS ?_ ?_ ?_); rotate_left; exact rfl; exact (v_moveT (.inl rfl) rfl)
      simp only [Act.put, List.setIfInBounds_toArray, List.set_cons_zero, List.set_cons_succ]
      (with_reducible refine' wl_valS ?_ ?_ ?_); rotate_left; exact rfl; exact (v_len rfl rfl Tryd.underlying40 hl63)
      simp only [Act.put, List.setIfInBounds_toArray, List.set_cons_zero, List.set_cons_succ]
      (with_reducible refine' wl_valS ?_ ?_ ?_); rotate_left; exact rfl; exact (v_lss rfl rfl rfl)
      simp only [Act.put, List.setIfInBounds_toArray, List.set_cons_zero, List.set_cons_succ]
      rw [d1.out]
      repeat ((fail_if_success (with_reducible show wpList _ _ _ (List.cons _ _) _ _)); (fail_if_success (with_reducible show Code.wp _ (Code.region _ _ true) _ _ _)); (fail_if_success (with_reducible show Code.wp _ (Code.cond _ _ _) _ _ _)); go_step)
      refine wp_cond_false (by first | rfl | exact congrArg Value.bool (decide_eq_false (by omega))) ?_
      skip
      repeat ((fail_if_success (with_reducible show wpList _ _ _ (List.cons _ _) _ _)); (fail_if_success (with_reducible show Code.wp _ (Code.region _ _ true) _ _ _)); go_step)
      (with_reducible refine' wl_valS ?_ ?_ ?_); rotate_left; exact rfl; exact (v_moveC (.inr rfl))
      simp only [Act.put, List.setIfInBounds_toArray, List.set_cons_zero, List.set_cons_succ]
      repeat ((fail_if_success (with_reducible show wpList _ _ _ (List.cons _ _) _ _)); (fail_if_success (with_reducible show Code.wp _ (Code.region _ _ true) _ _ _)); go_step)
      go_returns
      exact ⟨rfl, hE0.below⟩
/-- At which places among the first k one of these numbers is this. -/
def ixs (T : List Int) (q : Int) (k : Nat) : List Nat := (List.range k).filter fun i => decide (T[i]? = some q)
theorem ixs_zero (T : List Int) (q : Int) : ixs T q 0 = [] := rfl
theorem ixs_yes {T : List Int} {q : Int} {k : Nat} (h : T[k]? = some q) : ixs T q (k + 1) = ixs T q k ++ [k] := by
  unfold ixs
  rw [List.range_succ, List.filter_append]
  simp [h]
theorem ixs_no {T : List Int} {q t : Int} {k : Nat} (h : T[k]? = some t) (hn : t ≠ q) : ixs T q (k + 1) = ixs T q k := by
  unfold ixs
  rw [List.range_succ, List.filter_append]
  simp [h, hn]
theorem ixs_len (T : List Int) (q : Int) (k : Nat) : (ixs T q k).length ≤ k := by
  unfold ixs
  have := List.length_filter_le (fun i => decide (T[i]? = some q)) (List.range k)
  rwa [List.length_range] at this
theorem keys_tos {N M : List PV} (h : N.map PV.key = M.map PV.key) : N.map (·.to) = M.map (·.to) := by
  have := congrArg (List.map fun z : Int × Int × List Nat => z.2.1) h
  simpa [List.map_map, Function.comp_def, PV.key] using this
theorem pmI2 (a b : Blk) (x y : List Blk) : (a :: (b :: (x ++ y))).Perm (x ++ (a :: (b :: y))) := by
  classical
  exact List.perm_iff_count.2 fun c => by simp only [List.count_append, List.count_cons]; omega
set_option maxHeartbeats 8000000 in
theorem To_any {w0 w : World} {g most : Nat} {M : List PV} {R bs : List Blk} {v : Value} {q : Int} (hO : Oz 3 43 M.length (pcells M) v bs) (hS : ∀ m ∈ M, Sees w0 R m) (hE : Env w0 (⟨g, 56, #[v, .int .i64 (most : Int)]⟩ :: (bs ++ R)) w)
    (hM : M.length < 1000000) (hb : ∀ m ∈ M, m.by'.length < 1000000) :
    Calls Tryd.prog 14 #[.pointer (some ⟨g, 0, none⟩), .int .i64 q] w fun e w' => ∃ v' bI, e = .returned v' ∧ Ow 3 (nats .i64 (ixs (M.map (·.to)) q M.length)) v' bI ∧ Env w0 (bI ++ (⟨g, 56, #[v, .int .i64 (most : Int)]⟩ :: (bs ++ R))) w' := by
  obtain ⟨i0, hi0, hz0, hs0, hb0⟩ := info_int
  have Hi := Lib.hid hi0
  have Hz := Lib.hid hz0
  have Hs := Lib.hid hs0
  have Hb := Lib.hid hb0
  have HO := Lib.hid hO
  have HS := Lib.hid hS
  have HB := Lib.hid hb
  have hE0 := hE
  clear hi0 hz0 hs0 hb0 hO hS hb hE
  go_enter Tryd.func14, Tryd.ntmps14
  repeat ((fail_if_success (with_reducible show wpList _ _ _ (List.cons _ _) _ _)); (fail_if_success (with_reducible show Code.wp _ (Code.region _ _ true) _ _ _)); go_step)
  (with_reducible refine' wl_valS ?_ ?_ ?_); rotate_left; exact rfl; exact (v_moveC (.inr rfl))
  simp only [Act.put, List.setIfInBounds_toArray, List.set_cons_zero, List.set_cons_succ]
  repeat ((fail_if_success (with_reducible show wpList _ _ _ (List.cons _ _) _ _)); (fail_if_success (with_reducible show Code.wp _ (Code.region _ _ true) _ _ _)); go_step)
  (with_reducible refine' wl_valS ?_ ?_ ?_); rotate_left; exact rfl; exact (v_moveC (.inr rfl))
  simp only [Act.put, List.setIfInBounds_toArray, List.set_cons_zero, List.set_cons_succ]
  repeat ((fail_if_success (with_reducible show wpList _ _ _ (List.cons _ _) _ _)); (fail_if_success (with_reducible show Code.wp _ (Code.region _ _ true) _ _ _)); go_step)
  (with_reducible refine' wl_valS ?_ ?_ ?_); rotate_left; exact rfl; exact (v_moveT (.inl rfl) rfl)
  simp only [Act.put, List.setIfInBounds_toArray, List.set_cons_zero, List.set_cons_succ]
  refine wl_step (st_calls rfl (run_call rfl Tryd.call10) (List_any HO.out HS.out hE0 hM HB.out) ?_)
  rintro _ w1 ⟨vL, boL, N, rfl, hkL, hownL, hOL, hE1⟩
  obtain ⟨pL, cL, rfl, -⟩ := hOL.len
  have hNM : N.length = M.length := by { have := keys_lenN hkL; rwa [List.length_map] at this }
  rw [hNM] at hOL ⊢
  have hn63 : M.length < 9223372036854775808 := by omega
  refine ⟨_, rfl, ?_⟩
  clear hE0
  simp only [Act.put, List.setIfInBounds_toArray, List.set_cons_zero, List.set_cons_succ]
  (with_reducible refine' wl_valS ?_ ?_ ?_); rotate_left; exact rfl; exact (v_len rfl rfl Tryd.underlying31 hn63)
  simp only [Act.put, List.setIfInBounds_toArray, List.set_cons_zero, List.set_cons_succ]
  (with_reducible refine' wl_valS ?_ ?_ ?_); rotate_left; exact rfl; exact (v_moveC (.inl rfl))
  simp only [Act.put, List.setIfInBounds_toArray, List.set_cons_zero, List.set_cons_succ]
  have HT := Lib.hid (keys_tos hkL)
  have Hown := Lib.hid hownL
  have HOL := Lib.hid hOL
  have hfin : ∀ bI w', Env w0 (bI ++ (⟨g, 56, #[v, .int .i64 (most : Int)]⟩ :: (boL ++ (blks N ++ (bs ++ R))))) w' → Env w0 (bI ++ (⟨g, 56, #[v, .int .i64 (most : Int)]⟩ :: (bs ++ R))) w' := fun bI w' h => h.sub (List.Sublist.append_left (List.Sublist.cons_cons _ ((List.sublist_append_right _ _).trans (List.sublist_append_right _ _))) _)
  have HF := Lib.hid hfin
  have hrdL : ∀ bI w', Env w0 (bI ++ (⟨g, 56, #[v, .int .i64 (most : Int)]⟩ :: (boL ++ (blks N ++ (bs ++ R))))) w' → RdZ 3 M.length (pcells (fsts N)) (.slice pL M.length cL) w' := fun bI w' h => HOL.out.rd (l := blks N ++ (bs ++ R)) (h.sub ((List.sublist_cons_self _ _).trans (List.sublist_append_right _ _)))
  have HR := Lib.hid hrdL
  obtain ⟨L0, hL0⟩ : ∃ L, (⟨g, 56, #[v, .int .i64 (most : Int)]⟩ :: (boL ++ (blks N ++ (bs ++ R))) : List Blk) = L := ⟨_, rfl⟩
  have hst : Env w0 ([] ++ L0) w1 := by rw [← hL0]; exact hE1
  rw [hL0] at HF HR
  clear hE1 hfin hrdL hL0 hkL hOL hownL
  go_wp2
  go_loopw [5, 11] (fun s i wr => ∃ (j : Nat) (bI : List Blk), j ≤ M.length ∧ i = .int .i64 j ∧ Hid (Ow 3 (nats .i64 (ixs (M.map (·.to)) q j)) s bI) ∧ Env w0 (bI ++ L0) wr) (fun _ i _ => M.length - (intOf i).toNat)
  case atStart => exact ⟨0, [], Nat.zero_le _, rfl, Lib.hid (Ow.nil _), hst⟩
  case round =>
    clear hst
    obtain ⟨j, bI, hj, rfl, hO, hE0⟩ := hrel
    by_cases hjl : j < M.length
    · have d1 := Lib.hid (decide_eq_true hjl)
      have hjn : j < (fsts N).length := by rw [List.length_map]; omega
      have g1 : (fsts N)[j]? = some (fsts N)[j] := List.getElem?_eq_getElem hjn
      obtain ⟨m, hme⟩ : ∃ m, (fsts N)[j] = m := ⟨_, rfl⟩
      rw [hme] at g1
      have hto : (M.map (·.to))[j]? = some m.to := by rw [← HT.out, List.getElem?_map, g1]; rfl
      obtain ⟨b, off, rfl, hr1⟩ := (HR.out _ _ hE0).elem hjl
      rw [pcells_at g1] at hr1
      have Hr1 := Lib.hid hr1
      have hone : (#[Value.int .i64 m.fr, .int .i64 m.to, m.sl]).all (·.oneCell') = true := by
        have h1 : m.sl ∈ pcells (fsts N) := by
          unfold pcells
          rw [List.mem_flatMap]
          exact ⟨m, List.mem_of_getElem? g1, by simp [PV.cells]⟩
        obtain ⟨x, hx, hxm⟩ := List.mem_map.1 (List.mem_of_getElem? g1)
        have hsl : m.sl.oneCell' = true := by
          have := Hown.out x hx
          rw [← hxm]
          obtain ⟨pA, cA, h, -⟩ := Ow.lenN this
          rw [h]
          rfl
        simp [hsl]
        exact ⟨rfl, rfl⟩
      have hixl := ixs_len (M.map (·.to)) q j
      have hyes := fun h => ixs_yes (T := M.map (·.to)) (q := q) (k := j) h
      have hno := fun h => ixs_no (T := M.map (·.to)) (q := q) (k := j) hto h
      obtain ⟨X, hX⟩ : ∃ X, ixs (M.map (·.to)) q j = X := ⟨_, rfl⟩
      rw [hX] at hixl hyes hno hO
      have h63 : (nats .i64 X).length + ([0] : List Nat).length ≤ maxLen := by rw [nats_len]; simp only [List.length_cons, List.length_nil, maxLen]; omega
      have hft : ((nats .i64 X).length + ([0] : List Nat).length) * 8 ≤ 140737488355328 := by rw [nats_len]; simp only [List.length_cons, List.length_nil]; omega
      have He : Hid (nats .i64 X ++ nats .i64 [j] = nats .i64 (X ++ [j])) := Lib.hid (nats_append ..)
      have Hto := Lib.hid hto
      have Hyes := Lib.hid hyes
      have Hno := Lib.hid hno
      clear hr1 g1 hme hto hyes hno hX
      repeat ((fail_if_success (with_reducible show wpList _ _ _ (List.cons _ _) _ _)); (fail_if_success (with_reducible show Code.wp _ (Code.region _ _ true) _ _ _)); go_step)
      (with_reducible refine' wl_valS ?_ ?_ ?_); rotate_left; exact rfl; exact (v_lss rfl rfl rfl)
      simp only [Act.put, List.setIfInBounds_toArray, List.set_cons_zero, List.set_cons_succ]
      rw [d1.out]
      repeat ((fail_if_success (with_reducible show wpList _ _ _ (List.cons _ _) _ _)); (fail_if_success (with_reducible show Code.wp _ (Code.region _ _ true) _ _ _)); (fail_if_success (with_reducible show Code.wp _ (Code.cond _ _ _) _ _ _)); go_step)
      refine wp_cond_true (by first | rfl | exact congrArg Value.bool (decide_eq_true (by omega))) ?_
      skip
      repeat ((fail_if_success (with_reducible show wpList _ _ _ (List.cons _ _) _ _)); (fail_if_success (with_reducible show Code.wp _ (Code.region _ _ true) _ _ _)); go_step)
      (with_reducible refine' wl_valS ?_ ?_ ?_); rotate_left; exact rfl; exact (v_moveT (.inl rfl) rfl)
      simp only [Act.put, List.setIfInBounds_toArray, List.set_cons_zero, List.set_cons_succ]
      (with_reducible refine' wl_valS ?_ ?_ ?_); rotate_left; exact rfl; exact (v_indexSs (s := 3) rfl rfl rfl Tryd.underlying31 (by kernel_rfl) hjl)
      simp only [Act.put, List.setIfInBounds_toArray, List.set_cons_zero, List.set_cons_succ]
      (with_reducible refine' wl_valS ?_ ?_ ?_); rotate_left; exact rfl; exact (v_loadMid (cs := #[.int .i64 m.fr, .int .i64 m.to, m.sl]) rfl rfl Hr1.out Tryd.underlying43 rfl (by kernel_rfl))
      simp only [Act.put, List.setIfInBounds_toArray, List.set_cons_zero, List.set_cons_succ]
      refine wl_step (st_alloc (zs := #[Value.int .i64 0, Value.int .i64 0, Value.slice none 0 0]) hE0 rfl rfl (fun w => by kernel_rfl) ?_)
      intro g1 w1 hb1 hE1
      clear hE0
      simp only [Act.put, List.setIfInBounds_toArray, List.set_cons_zero, List.set_cons_succ]
      (with_reducible refine' wl_valS ?_ ?_ ?_); rotate_left; exact rfl; exact (v_moveT (.inr rfl) rfl)
      simp only [Act.put, List.setIfInBounds_toArray, List.set_cons_zero, List.set_cons_succ]
      refine wl_step (st_store (i := 0) hE1 rfl rfl rfl rfl rfl (sz_of (n := 3) (by kernel_rfl) rfl) rfl hone ?_)
      intro w2 hE2
      clear hE1
      simp only [List.set_cons_zero] at hE2
      simp only [Act.put, List.setIfInBounds_toArray, List.set_cons_zero, List.set_cons_succ]
      by_cases hq : m.to = q
      · have d2 := Lib.hid (decide_eq_true hq)
        repeat ((fail_if_success (with_reducible show wpList _ _ _ (List.cons _ _) _ _)); (fail_if_success (with_reducible show Code.wp _ (Code.region _ _ true) _ _ _)); go_step)
        (with_reducible refine' wl_valS ?_ ?_ ?_); rotate_left; exact rfl; exact (v_fieldB (s := 0) rfl rfl Tryd.underlying43 rfl (by kernel_rfl) rfl)
        simp only [Act.put, List.setIfInBounds_toArray, List.set_cons_zero, List.set_cons_succ]
        (with_reducible refine' wl_valS ?_ ?_ ?_); rotate_left; exact rfl; exact (v_cellB (v := .int .i64 m.to) (i := 0) hE2 rfl rfl rfl Tryd.underlying3 rfl rfl)
        simp only [Act.put, List.setIfInBounds_toArray, List.set_cons_zero, List.set_cons_succ]
        (with_reducible refine' wl_valS ?_ ?_ ?_); rotate_left; exact rfl; exact (v_moveT (.inl rfl) rfl)
        simp only [Act.put, List.setIfInBounds_toArray, List.set_cons_zero, List.set_cons_succ]
        (with_reducible refine' wl_valS ?_ ?_ ?_); rotate_left; exact rfl; exact (v_eqlI rfl rfl rfl)
        simp only [Act.put, List.setIfInBounds_toArray, List.set_cons_zero, List.set_cons_succ]
        rw [d2.out]
        repeat ((fail_if_success (with_reducible show wpList _ _ _ (List.cons _ _) _ _)); (fail_if_success (with_reducible show Code.wp _ (Code.region _ _ true) _ _ _)); (fail_if_success (with_reducible show Code.wp _ (Code.cond _ _ _) _ _ _)); go_step)
        refine wp_cond_true (by first | rfl | exact congrArg Value.bool (decide_eq_true (by omega))) ?_
        skip
        repeat ((fail_if_success (with_reducible show wpList _ _ _ (List.cons _ _) _ _)); (fail_if_success (with_reducible show Code.wp _ (Code.region _ _ true) _ _ _)); go_step)
        (with_reducible refine' wl_valS ?_ ?_ ?_); rotate_left; exact rfl; exact (v_moveT (.inl rfl) rfl)
        simp only [Act.put, List.setIfInBounds_toArray, List.set_cons_zero, List.set_cons_succ]
        (with_reducible refine' wl_valS ?_ ?_ ?_); rotate_left; exact rfl; exact (v_moveT (.inl rfl) rfl)
        simp only [Act.put, List.setIfInBounds_toArray, List.set_cons_zero, List.set_cons_succ]
        refine wl_step (st_buildNums (k := .i64) [j] hE2 rfl rfl (by first | (kernel_rfl; done) | (simp only [List.map_cons, List.map_nil, List.zipIdx_cons, List.zipIdx_nil]; rfl)) rfl (by decide) (by decide) Tryd.underlying40 (by kernel_rfl) Tryd.zeroValue3 ?_)
        intro g2 w3 hb3 hE3
        clear hE2
        simp only [Act.put, List.setIfInBounds_toArray, List.set_cons_zero, List.set_cons_succ]
        refine wl_step (st_append (hO.out.sl (hE3.perm (pmI2 ..))) rfl rfl Tryd.underlying40 Hi.out Hz.out Hs.out rfl Hb.out rfl rfl (RdS.of_block (hE3.get (i := 0) rfl)) h63 hft ?_)
        intro v4 w4 hS4
        have hE4 := hS4.env
        clear hE3
        simp only [Act.put, List.setIfInBounds_toArray, List.set_cons_zero, List.set_cons_succ]
        obtain ⟨bs2, ho2, hEE⟩ := hS4.ow
        rw [He.out] at ho2
        (with_reducible refine' wl_valS ?_ ?_ ?_); rotate_left; exact rfl; exact (v_moveT (.inr rfl) rfl)
        simp only [Act.put, List.setIfInBounds_toArray, List.set_cons_zero, List.set_cons_succ]
        repeat ((fail_if_success (with_reducible show wpList _ _ _ (List.cons _ _) _ _)); (fail_if_success (with_reducible show Code.wp _ (Code.region _ _ true) _ _ _)); go_step)
        (with_reducible refine' wl_valS ?_ ?_ ?_); rotate_left; exact rfl; exact (v_add (n := 1) rfl rfl rfl (w_i64 (by omega)))
        simp only [Act.put, List.setIfInBounds_toArray, List.set_cons_zero, List.set_cons_succ]
        (with_reducible refine' wl_valS ?_ ?_ ?_); rotate_left; exact rfl; exact (v_moveT (.inl rfl) rfl)
        simp only [Act.put, List.setIfInBounds_toArray, List.set_cons_zero, List.set_cons_succ]
        go_wp2
        go_roundw
        case rel => exact ⟨j + 1, bs2, by omega, rfl, Lib.hid (by rw [Hyes.out (by rw [Hto.out, hq])]; exact ho2), hEE.sub (List.Sublist.append_left (List.Sublist.cons _ (List.Sublist.cons _ (List.Sublist.refl _))) _)⟩
        case measure => simp [intOf]; omega
      · have d2 := Lib.hid (decide_eq_false hq)
        repeat ((fail_if_success (with_reducible show wpList _ _ _ (List.cons _ _) _ _)); (fail_if_success (with_reducible show Code.wp _ (Code.region _ _ true) _ _ _)); go_step)
        (with_reducible refine' wl_valS ?_ ?_ ?_); rotate_left; exact rfl; exact (v_fieldB (s := 0) rfl rfl Tryd.underlying43 rfl (by kernel_rfl) rfl)
        simp only [Act.put, List.setIfInBounds_toArray, List.set_cons_zero, List.set_cons_succ]
        (with_reducible refine' wl_valS ?_ ?_ ?_); rotate_left; exact rfl; exact (v_cellB (v := .int .i64 m.to) (i := 0) hE2 rfl rfl rfl Tryd.underlying3 rfl rfl)
        simp only [Act.put, List.setIfInBounds_toArray, List.set_cons_zero, List.set_cons_succ]
        (with_reducible refine' wl_valS ?_ ?_ ?_); rotate_left; exact rfl; exact (v_moveT (.inl rfl) rfl)
        simp only [Act.put, List.setIfInBounds_toArray, List.set_cons_zero, List.set_cons_succ]
        (with_reducible refine' wl_valS ?_ ?_ ?_); rotate_left; exact rfl; exact (v_eqlI rfl rfl rfl)
        simp only [Act.put, List.setIfInBounds_toArray, List.set_cons_zero, List.set_cons_succ]
        rw [d2.out]
        repeat ((fail_if_success (with_reducible show wpList _ _ _ (List.cons _ _) _ _)); (fail_if_success (with_reducible show Code.wp _ (Code.region _ _ true) _ _ _)); (fail_if_success (with_reducible show Code.wp _ (Code.cond _ _ _) _ _ _)); go_step)
        refine wp_cond_false (by first | rfl | exact congrArg Value.bool (decide_eq_false (by omega))) ?_
        skip
        repeat ((fail_if_success (with_reducible show wpList _ _ _ (List.cons _ _) _ _)); (fail_if_success (with_reducible show Code.wp _ (Code.region _ _ true) _ _ _)); go_step)
        (with_reducible refine' wl_valS ?_ ?_ ?_); rotate_left; exact rfl; exact (v_add (n := 1) rfl rfl rfl (w_i64 (by omega)))
        simp only [Act.put, List.setIfInBounds_toArray, List.set_cons_zero, List.set_cons_succ]
        (with_reducible refine' wl_valS ?_ ?_ ?_); rotate_left; exact rfl; exact (v_moveT (.inl rfl) rfl)
        simp only [Act.put, List.setIfInBounds_toArray, List.set_cons_zero, List.set_cons_succ]
        go_wp2
        go_roundw
        case rel => exact ⟨j + 1, bI, by omega, rfl, Lib.hid (by rw [Hno.out hq]; exact hO.out), (hE2).sub (List.sublist_cons_self _ _)⟩
        case measure => simp [intOf]; omega
    · have hj' : j = M.length := by omega
      subst hj'
      have d1 := Lib.hid (decide_eq_false hjl)
      repeat ((fail_if_success (with_reducible show wpList _ _ _ (List.cons _ _) _ _)); (fail_if_success (with_reducible show Code.wp _ (Code.region _ _ true) _ _ _)); go_step)
      (with_reducible refine' wl_valS ?_ ?_ ?_); rotate_left; exact rfl; exact (v_lss rfl rfl rfl)
      simp only [Act.put, List.setIfInBounds_toArray, List.set_cons_zero, List.set_cons_succ]
      rw [d1.out]
      repeat ((fail_if_success (with_reducible show wpList _ _ _ (List.cons _ _) _ _)); (fail_if_success (with_reducible show Code.wp _ (Code.region _ _ true) _ _ _)); (fail_if_success (with_reducible show Code.wp _ (Code.cond _ _ _) _ _ _)); go_step)
      refine wp_cond_false (by first | rfl | exact congrArg Value.bool (decide_eq_false (by omega))) ?_
      skip
      repeat ((fail_if_success (with_reducible show wpList _ _ _ (List.cons _ _) _ _)); (fail_if_success (with_reducible show Code.wp _ (Code.region _ _ true) _ _ _)); go_step)
      (with_reducible refine' wl_valS ?_ ?_ ?_); rotate_left; exact rfl; exact (v_moveT (.inl rfl) rfl)
      simp only [Act.put, List.setIfInBounds_toArray, List.set_cons_zero, List.set_cons_succ]
      (with_reducible refine' wl_valS ?_ ?_ ?_); rotate_left; exact rfl; exact (v_moveT (.inr rfl) rfl)
      simp only [Act.put, List.setIfInBounds_toArray, List.set_cons_zero, List.set_cons_succ]
      repeat ((fail_if_success (with_reducible show wpList _ _ _ (List.cons _ _) _ _)); (fail_if_success (with_reducible show Code.wp _ (Code.region _ _ true) _ _ _)); (fail_if_success (with_reducible show Code.wp _ (Code.cond _ _ _) _ _ _)); go_step)
      go_returns
      exact ⟨_, bI, rfl, hO.out, HF.out _ _ hE0⟩
end Go.Proofs.YtnbbehgcnodfbaaDoor
