/-
  Layer 6: points: the first multiples, any multiple.
-/
import Derived.Test.YtmebjoehmheknaaCrvC
import Derived.Test.YtmebjoehmheknaaTab
namespace Go.Proofs.Ytmebjoehmheknaa
open Go.RowKit
set_option linter.unusedVariables false
set_option linter.unusedSimpArgs false

theorem PRep_unique {l : List Nat} {P Q : Pt} (h : PRep l P) (h' : PRep l Q) : P = Q :=
  Pt.same (K_cancel h.nz (h.ex.symm.trans h'.ex)) (K_cancel h.nz (h.ey.symm.trans h'.ey))
noncomputable def addP (l m : List Nat) : List Nat := Classical.epsilon fun c => (∀ P Q, PRep l P → PRep m Q → PRep c (padd P Q)) ∧ ∀ w, Gives 10 #[pt l, pt m] w (pt c)
noncomputable def dblP (l : List Nat) : List Nat := Classical.epsilon fun c => (∀ P, PRep l P → PRep c (padd P P)) ∧ ∀ w, Gives 14 #[pt l] w (pt c)
theorem addP_ok {l m : List Nat} {P Q : Pt} (h : PRep l P) (h' : PRep m Q) : PRep (addP l m) (padd P Q) ∧ ∀ w, Gives 10 #[pt l, pt m] w (pt (addP l m)) := by
  obtain ⟨c, h1, h2⟩ := PAdd_any h h'
  have := Classical.epsilon_spec (p := fun c => (∀ P Q, PRep l P → PRep m Q → PRep c (padd P Q)) ∧ ∀ w, Gives 10 #[pt l, pt m] w (pt c)) ⟨c, fun P' Q' a b => by rw [PRep_unique a h, PRep_unique b h']; exact h1, h2⟩
  exact ⟨this.1 P Q h h', this.2⟩
theorem dblP_ok {l : List Nat} {P : Pt} (h : PRep l P) : PRep (dblP l) (padd P P) ∧ ∀ w, Gives 14 #[pt l] w (pt (dblP l)) := by
  obtain ⟨c, h1, h2⟩ := PDouble_any h
  have := Classical.epsilon_spec (p := fun c => (∀ P, PRep l P → PRep c (padd P P)) ∧ ∀ w, Gives 14 #[pt l] w (pt c)) ⟨c, fun P' a => by rw [PRep_unique a h]; exact h1, h2⟩
  exact ⟨this.1 P h, this.2⟩

/-- The multiples, one by one. -/
noncomputable def mulsL (l : List Nat) : Nat → List Nat
  | 0 => zeroL
  | j + 1 => addP (mulsL l j) l
theorem mulsL_ok {l : List Nat} {P : Pt} (h : PRep l P) : ∀ j, PRep (mulsL l j) (smul j P)
  | 0 => PRep_zero
  | j + 1 => (addP_ok (mulsL_ok h j) h).1
/-- The table, of which the first J rows are written. -/
noncomputable def tabAt (l : List Nat) (J : Nat) : List (List Nat) := (List.range 16).map fun i => if i < J then mulsL l i else List.replicate 20 0
theorem tabAt_len (l : List Nat) (J : Nat) : (tabAt l J).length = 16 := by unfold tabAt; simp
theorem tabAt_at (l : List Nat) (J i : Nat) (h : i < (tabAt l J).length) : (tabAt l J)[i] = if i < J then mulsL l i else List.replicate 20 0 := by
  unfold tabAt
  simp
theorem tabAt_rows {l : List Nat} {P : Pt} (h : PRep l P) (J : Nat) : ∀ r ∈ tabAt l J, r.length = 20 := fun r hr => by
  unfold tabAt at hr
  obtain ⟨i, _, rfl⟩ := List.mem_map.1 hr
  split
  · exact (mulsL_ok h i).len
  · simp
theorem tabAt_get {l : List Nat} {P : Pt} (h : PRep l P) {J i : Nat} (hi : i < J) (hJ : J ≤ 16) : ((tabAt l J).flatten.drop (i * 20)).take 20 = mulsL l i := by
  rw [rows_get 20 _ (tabAt_rows h J) i (by rw [tabAt_len]; omega)]
  rw [tabAt_at, if_pos hi]
theorem tabAt_set {l : List Nat} {P : Pt} (h : PRep l P) {J : Nat} (hJ : J < 16) : (tabAt l J).flatten.take (J * 20) ++ mulsL l J ++ (tabAt l J).flatten.drop (J * 20 + 20) = (tabAt l (J + 1)).flatten := by
  rw [rows_set 20 _ _ (tabAt_rows h J) J (by rw [tabAt_len]; exact hJ)]
  congr 1
  apply List.ext_getElem
  · simp [tabAt]
  · intro i h1 h2
    rw [List.getElem_set, tabAt_at l (J + 1)]
    split
    · rename_i e
      subst e
      rw [if_pos (by omega)]
    · rw [tabAt_at]
      by_cases hlt : i < J
      · rw [if_pos hlt, if_pos (by omega)]
      · rw [if_neg hlt, if_neg (by omega)]
theorem tabAt_zero (l : List Nat) : (tabAt l 0).flatten = List.replicate 320 0 := by
  have hr : ∀ r ∈ tabAt l 0, r = List.replicate 20 0 := fun r hr => by
    unfold tabAt at hr
    obtain ⟨i, _, rfl⟩ := List.mem_map.1 hr
    exact if_neg (Nat.not_lt_zero _)
  refine List.eq_replicate_iff.2 ⟨?_, fun b hb => ?_⟩
  · rw [rows_length 20 _ (fun r h => by rw [hr r h, List.length_replicate]), tabAt_len]
  · obtain ⟨r, h1, h2⟩ := List.mem_flatten.1 hb
    rw [hr r h1] at h2
    exact (List.mem_replicate.1 h2).2
/-- The table. -/
noncomputable def tabL (l : List Nat) : List Nat := (tabAt l 16).flatten
theorem tabAt_flen {l : List Nat} {P : Pt} (h : PRep l P) (J : Nat) : (tabAt l J).flatten.length = 320 := by
  rw [rows_length 20 _ (tabAt_rows h J), tabAt_len]

set_option maxRecDepth 100000 in
set_option maxHeartbeats 4000000 in
theorem multiples_any {l : List Nat} {P : Pt} (h : PRep l P) (w : World) : Gives 32 #[pt l] w (pt (tabL l)) := by
  have len := h.len
  have h0 := tabAt_set h (J := 0) (by decide)
  rw [tabAt_zero] at h0
  have H0 := Lib.hid (show (List.replicate 320 0).take (0 * 20) ++ zeroL ++ (List.replicate 320 0).drop (0 * 20 + 20) = (tabAt l (0 + 1)).flatten from h0)
  have hb0 : 0 * 20 + 20 ≤ (List.replicate 320 0).length := by rw [List.length_replicate]; decide
  have Hg := Lib.hid (fun J i hi hJ => tabAt_get h (J := J) (i := i) hi hJ)
  have Hs := Lib.hid (fun J hJ => tabAt_set h (J := J) hJ)
  have Hl := Lib.hid (fun J => tabAt_flen h J)
  have Hm := Lib.hid (fun j => mulsL_ok h j)
  have HP := Lib.hid h
  have HZ := Lib.hid PZero_any
  have lz : zeroL.length = 20 := rfl
  clear h h0
  have hE0 := Env.nil w
  go_enter Try.func32, Try.ntmps32
  repeat ((fail_if_success (with_reducible show wpList _ _ _ (List.cons _ _) _ _)); (fail_if_success (with_reducible show Code.wp _ (Code.region _ _ true) _ _ _)); go_step)
  refine wl_step (st_boxA hE0 rfl rfl rfl ?_)
  intro g0 w1 hb1 hE1
  clear hE0
  simp only [Act.put, List.setIfInBounds_toArray, List.set_cons_zero, List.set_cons_succ]
  refine wl_step (st_alloc (zs := ints .u64 (List.replicate 320 0)) hE1 rfl rfl (fun w => by kernel_rfl) ?_)
  intro g1 w2 hb2 hE2
  clear hE1
  simp only [Act.put, List.setIfInBounds_toArray, List.set_cons_zero, List.set_cons_succ]
  repeat ((fail_if_success (with_reducible show wpList _ _ _ (List.cons _ _) _ _)); (fail_if_success (with_reducible show Code.wp _ (Code.region _ _ true) _ _ _)); go_step)
  refine wl_step (st_alloc (zs := ints .u64 (List.replicate 320 0)) hE2 rfl rfl (fun w => by kernel_rfl) ?_)
  intro g2 w3 hb3 hE3
  clear hE2
  simp only [Act.put, List.setIfInBounds_toArray, List.set_cons_zero, List.set_cons_succ]
  repeat ((fail_if_success (with_reducible show wpList _ _ _ (List.cons _ _) _ _)); (fail_if_success (with_reducible show Code.wp _ (Code.region _ _ true) _ _ _)); go_step)
  refine wl_step (st_gives hE3 rfl (run_call rfl Try.call12) (HZ.out _) ?_)
  intro w4 hb4 hE4
  clear hE3
  simp only [Act.put, List.setIfInBounds_toArray, List.set_cons_zero, List.set_cons_succ]
  refine wl_step (st_val rfl (v_indexAs (j := 0) (s := 20) rfl rfl rfl Try.underlying61 (by kernel_rfl) (by first | assumption | omega)) ?_)
  simp only [Act.put, List.setIfInBounds_toArray, List.set_cons_zero, List.set_cons_succ]
  refine wl_step (st_putPart (i := 0) (n := 20) hE4 rfl rfl rfl rfl rfl (by kernel_rfl) (by first | rfl | assumption) (by first | assumption | (simp only [List.length_append, *]; try omega)) ?_)
  intro w5 hE5
  clear hE4
  simp only [List.set_cons_zero, List.set_cons_succ] at hE5
  simp only [Act.put, List.setIfInBounds_toArray, List.set_cons_zero, List.set_cons_succ]
  rw [H0.out] at hE5
  repeat ((fail_if_success (with_reducible show wpList _ _ _ (List.cons _ _) _ _)); (fail_if_success (with_reducible show Code.wp _ (Code.region _ _ true) _ _ _)); go_step)
  refine wl_step (st_val rfl (v_moveC (.inr rfl)) ?_)
  simp only [Act.put, List.setIfInBounds_toArray, List.set_cons_zero, List.set_cons_succ]
  go_wp2
  go_loopw [4] (fun i wr => ∃ J : Nat, J + 1 ≤ 16 ∧ i = .int .i64 (J + 1 : Nat) ∧ Env w [⟨g2, 61, ints .u64 (tabAt l (J + 1)).flatten⟩, ⟨g1, 61, ints .u64 (List.replicate 320 0)⟩, ⟨g0, 28, ints .u64 l⟩] wr) (fun i _ => 16 - (intOf i).toNat)
  case atStart => exact ⟨0, by omega, rfl, hE5⟩
  case round =>
    clear hE5
    obtain ⟨J, hJ, rfl, hE0⟩ := hrel
    have hM := Hl.out (J + 1)
    by_cases hlt : J + 1 < 16
    · have hget := Hg.out (J + 1) J (by omega) hJ
      have hset := Hs.out (J + 1) hlt
      have hmj := Hm.out J
      have ha := addP_ok hmj HP.out
      have e : addP (mulsL l J) l = mulsL l (J + 1) := rfl
      rw [e] at ha
      have lm := (Hm.out J).len
      have lm' := (Hm.out (J + 1)).len
      obtain ⟨X, hX⟩ : ∃ X, mulsL l J = X := ⟨_, rfl⟩
      obtain ⟨Y, hY⟩ : ∃ Y, mulsL l (J + 1) = Y := ⟨_, rfl⟩
      obtain ⟨M, hMe⟩ : ∃ M, (tabAt l (J + 1)).flatten = M := ⟨_, rfl⟩
      rw [hX] at hget ha lm
      rw [hY] at hset ha lm'
      rw [hMe] at hget hset hM hE0
      have HA := Lib.hid ha.2
      have HG := Lib.hid hget
      have HS := Lib.hid hset
      have hb1 : J * 20 + 20 ≤ M.length := by omega
      have hb2 : (J + 1) * 20 + 20 ≤ M.length := by omega
      clear hget hset hmj ha e hX hY hMe
      repeat ((fail_if_success (with_reducible show wpList _ _ _ (List.cons _ _) _ _)); (fail_if_success (with_reducible show Code.wp _ (Code.region _ _ true) _ _ _)); go_step)
      refine wl_step (st_val rfl (v_moveT (.inl rfl) rfl) ?_)
      simp only [Act.put, List.setIfInBounds_toArray, List.set_cons_zero, List.set_cons_succ]
      refine wl_step (st_val rfl (v_lss (n := 16) rfl rfl rfl) ?_)
      simp only [Act.put, List.setIfInBounds_toArray, List.set_cons_zero, List.set_cons_succ]
      repeat ((fail_if_success (with_reducible show wpList _ _ _ (List.cons _ _) _ _)); (fail_if_success (with_reducible show Code.wp _ (Code.region _ _ true) _ _ _)); go_step)
      refine wp_region_B (n := 9) 8 (by kernel_rfl) rfl hE0 ?_
      intro w1 hb1 hE1
      clear hE0
      refine wpB_take (i := 0) (by kernel_rfl) rfl (by kernel_rfl) (fun _ _ _ h => h) rfl (v_moveT (.inl rfl) rfl) ?_
      simp only [Act.put, List.setIfInBounds_toArray, List.set_cons_zero, List.set_cons_succ]
      refine wpB_take (i := 1) (by kernel_rfl) rfl (by kernel_rfl) (fun _ _ _ h => h) rfl (v_moveT (.inl rfl) rfl) ?_
      simp only [Act.put, List.setIfInBounds_toArray, List.set_cons_zero, List.set_cons_succ]
      refine wpB_take (i := 2) (by kernel_rfl) rfl (by kernel_rfl) (fun _ _ _ h => h) rfl (v_sub (m := J + 1) (n := 1) (r := (J : Int)) rfl rfl rfl (by rw [w_i64s (by omega) (by omega)]; rfl)) ?_
      simp only [Act.put, List.setIfInBounds_toArray, List.set_cons_zero, List.set_cons_succ]
      refine wpB_take (i := 3) (by kernel_rfl) rfl (by kernel_rfl) (fun _ _ _ h => h) rfl (v_indexAs (s := 20) rfl rfl rfl Try.underlying61 (by kernel_rfl) (by first | assumption | omega)) ?_
      simp only [Act.put, List.setIfInBounds_toArray, List.set_cons_zero, List.set_cons_succ]
      refine wpB_take (i := 4) (by kernel_rfl) rfl (by kernel_rfl) (fun _ _ _ h => h) rfl (v_loadPart (i := 0) (n := 20) hE1 rfl rfl rfl Try.underlying28 rfl (by kernel_rfl) (by first | assumption | (simp only [List.length_append, *]; try omega))) ?_
      simp only [Act.put, List.setIfInBounds_toArray, List.set_cons_zero, List.set_cons_succ]
      rw [HG.out]
      refine wpB_take (i := 5) (by kernel_rfl) rfl (by kernel_rfl) (fun _ _ _ h => h) rfl (v_load (i := 2) hE1 rfl rfl rfl Try.underlying28 rfl (sz_of (n := 20) (by kernel_rfl) (by first | (simp only [ints_size, digs_length, List.length_replicate, List.length_cons, List.length_nil]; done) | (simp only [ints_size, digs_length, List.length_replicate, List.length_cons, List.length_nil, List.length_set, List.length_append]; omega) | rfl))) ?_
      simp only [Act.put, List.setIfInBounds_toArray, List.set_cons_zero, List.set_cons_succ]
      refine wpB_step (i := 6) (by kernel_rfl) rfl (st_gives hE1 rfl (run_call rfl Try.call10) (HA.out _) ?_)
      intro w2 hb2 hE2
      clear hE1
      refine ⟨fun _ => hb2, ?_⟩
      simp only [Act.put, List.setIfInBounds_toArray, List.set_cons_zero, List.set_cons_succ]
      refine wpB_take (i := 7) (by kernel_rfl) rfl (by kernel_rfl) (fun _ _ _ h => h) rfl (v_indexAs (s := 20) rfl rfl rfl Try.underlying61 (by kernel_rfl) (by first | assumption | omega)) ?_
      simp only [Act.put, List.setIfInBounds_toArray, List.set_cons_zero, List.set_cons_succ]
      refine wpB_step (i := 8) (by kernel_rfl) rfl (st_putPart (i := 0) (n := 20) hE2 rfl rfl rfl rfl rfl (by kernel_rfl) (by first | rfl | assumption) (by first | assumption | (simp only [List.length_append, *]; try omega)) ?_)
      intro w3 hE3
      clear hE2
      simp only [List.set_cons_zero, List.set_cons_succ] at hE3
      refine ⟨fun h => absurd h (by decide), ?_⟩
      simp only [Act.put, List.setIfInBounds_toArray, List.set_cons_zero, List.set_cons_succ]
      refine wpB_done (by kernel_rfl) ?_ _
      rw [HS.out] at hE3
      repeat ((fail_if_success (with_reducible show wpList _ _ _ (List.cons _ _) _ _)); (fail_if_success (with_reducible show Code.wp _ (Code.region _ _ true) _ _ _)); go_step)
      refine wl_step (st_val rfl (v_moveT (.inl rfl) rfl) ?_)
      simp only [Act.put, List.setIfInBounds_toArray, List.set_cons_zero, List.set_cons_succ]
      refine wl_step (st_val rfl (v_add (n := 1) rfl rfl rfl (w_i64 (by omega))) ?_)
      simp only [Act.put, List.setIfInBounds_toArray, List.set_cons_zero, List.set_cons_succ]
      refine wl_step (st_val rfl (v_moveT (.inr rfl) rfl) ?_)
      simp only [Act.put, List.setIfInBounds_toArray, List.set_cons_zero, List.set_cons_succ]
      go_wp2
      go_roundw
      case rel => exact ⟨J + 1, by omega, rfl, hE3⟩
      case measure => simp [intOf]; omega
    · have hJ' : J = 15 := by omega
      subst hJ'
      have hM' : (tabL l).length = 320 := hM
      have hT : (tabAt l (15 + 1)).flatten = tabL l := rfl
      rw [hT] at hE0
      clear hT hM
      repeat ((fail_if_success (with_reducible show wpList _ _ _ (List.cons _ _) _ _)); (fail_if_success (with_reducible show Code.wp _ (Code.region _ _ true) _ _ _)); go_step)
      refine wl_step (st_val rfl (v_moveT (.inl rfl) rfl) ?_)
      simp only [Act.put, List.setIfInBounds_toArray, List.set_cons_zero, List.set_cons_succ]
      refine wl_step (st_val rfl (v_lss (n := 16) rfl rfl rfl) ?_)
      simp only [Act.put, List.setIfInBounds_toArray, List.set_cons_zero, List.set_cons_succ]
      repeat ((fail_if_success (with_reducible show wpList _ _ _ (List.cons _ _) _ _)); (fail_if_success (with_reducible show Code.wp _ (Code.region _ _ true) _ _ _)); go_step)
      refine wl_step (st_val rfl (v_load (i := 0) hE0 rfl rfl rfl Try.underlying61 rfl (sz_of (n := 320) (by kernel_rfl) (by first | (simp only [ints_size, digs_length, List.length_replicate, List.length_cons, List.length_nil]; done) | (simp only [ints_size, digs_length, List.length_replicate, List.length_cons, List.length_nil, List.length_set, List.length_append]; omega) | rfl))) ?_)
      simp only [Act.put, List.setIfInBounds_toArray, List.set_cons_zero, List.set_cons_succ]
      refine wl_step (st_store (i := 1) hE0 rfl rfl rfl rfl rfl (sz_of (n := 320) (by kernel_rfl) (by first | (simp only [ints_size, digs_length, List.length_replicate, List.length_cons, List.length_nil]; done) | (simp only [ints_size, digs_length, List.length_replicate, List.length_cons, List.length_nil, List.length_set, List.length_append]; omega) | rfl)) (by first | (simp only [ints_size, digs_length, List.length_replicate, List.length_cons, List.length_nil]; done) | (simp only [ints_size, digs_length, List.length_replicate, List.length_cons, List.length_nil, List.length_set, List.length_append]; omega) | rfl) (by first | exact ints_one _ _ | decide | simp [*]) ?_)
      intro w1 hE1
      clear hE0
      simp only [List.set_cons_zero, List.set_cons_succ] at hE1
      simp only [Act.put, List.setIfInBounds_toArray, List.set_cons_zero, List.set_cons_succ]
      repeat ((fail_if_success (with_reducible show wpList _ _ _ (List.cons _ _) _ _)); (fail_if_success (with_reducible show Code.wp _ (Code.region _ _ true) _ _ _)); go_step)
      refine bodyPost_ret (results_cell_row rfl _ _ _ _ _ (0, 0) _ rfl (hE1.get (i := 1) rfl) Try.underlying61 rfl (sz_of (n := 320) (by kernel_rfl) (by first | (simp only [ints_size, digs_length, List.length_replicate, List.length_cons, List.length_nil]; done) | (simp only [ints_size, digs_length, List.length_replicate, List.length_cons, List.length_nil, List.length_set, List.length_append]; omega) | rfl))) rfl ⟨rfl, hE1.below⟩
end Go.Proofs.Ytmebjoehmheknaa
