/-
  Layer 6: points: the first multiples, any multiple.
  Layer 6: points: any multiple; a multiple and one of the base; the sum of points.
  Layer 5, the document's answer: the order's digits, and their bytes.
  Layer 6: the law's own example; 'CurveGroup'. No condition.
-/
import Derived.Test.YtmebjoehmheknaaJ19
import Derived.Test.YtmebjoehmheknaaJ23
namespace Go.Proofs.Ytmebjoehmheknaa
open Go.RowKit
set_option linter.unusedVariables false
set_option linter.unusedSimpArgs false

theorem PRep_unique {l : List Nat} {P Q : Pt} (h : PRep l P) (h' : PRep l Q) : P = Q :=
  Pt.same (K_cancel h.nz (h.ex.symm.trans h'.ex)) (K_cancel h.nz (h.ey.symm.trans h'.ey))
noncomputable def addP (l m : List Nat) : List Nat := Classical.epsilon fun c => (∀ P Q, PRep l P → PRep m Q → PRep c (padd P Q)) ∧ ∀ w, Gives 10 #[pt l, pt m] w (pt c)
noncomputable def dblP (l : List Nat) : List Nat := Classical.epsilon fun c => (∀ P, PRep l P → PRep c (padd P P)) ∧ ∀ w, Gives 14 #[pt l] w (pt c)
theorem addP_ok {l m : List Nat} {P Q : Pt} (h : PRep l P) (h' : PRep m Q) : PRep (addP l m) (padd P Q) ∧ ∀ w, Gives 10 #[pt l, pt m] w (pt (addP l m)) := by
  obtain ⟨c, h1, h2⟩ := PAdd_any h h'
  have := Classical.epsilon_spec (p := fun c => (∀ P Q, PRep l P → PRep m Q → PRep c (padd P Q)) ∧ ∀ w, Gives 10 #[pt l, pt m] w (pt c)) ⟨c, fun P' Q' a b => by rw [PRep_unique a h, PRep_unique b h']; exact h1, h2⟩
  exact ⟨this.1 P Q h h', this.2⟩
theorem dblP_ok {l : List Nat} {P : Pt} (h : PRep l P) : PRep (dblP l) (padd P P) ∧ ∀ w, Gives 14 #[pt l] w (pt (dblP l)) := by
  obtain ⟨c, h1, h2⟩ := PDouble_any h
  have := Classical.epsilon_spec (p := fun c => (∀ P, PRep l P → PRep c (padd P P)) ∧ ∀ w, Gives 14 #[pt l] w (pt c)) ⟨c, fun P' a => by rw [PRep_unique a h]; exact h1, h2⟩
  exact ⟨this.1 P h, this.2⟩

/-- The multiples, one by one. -/
noncomputable def mulsL (l : List Nat) : Nat → List Nat
  | 0 => zeroL
  | j + 1 => addP (mulsL l j) l
theorem mulsL_ok {l : List Nat} {P : Pt} (h : PRep l P) : ∀ j, PRep (mulsL l j) (smul j P)
  | 0 => PRep_zero
  | j + 1 => (addP_ok (mulsL_ok h j) h).1
/-- The table, of which the first J rows are written. -/
noncomputable def tabAt (l : List Nat) (J : Nat) : List (List Nat) := (List.range 16).map fun i => if i < J then mulsL l i else List.replicate 20 0
theorem tabAt_len (l : List Nat) (J : Nat) : (tabAt l J).length = 16 := by unfold tabAt; simp
theorem tabAt_at (l : List Nat) (J i : Nat) (h : i < (tabAt l J).length) : (tabAt l J)[i] = if i < J then mulsL l i else List.replicate 20 0 := by
  unfold tabAt
  simp
theorem tabAt_rows {l : List Nat} {P : Pt} (h : PRep l P) (J : Nat) : ∀ r ∈ tabAt l J, r.length = 20 := fun r hr => by
  unfold tabAt at hr
  obtain ⟨i, _, rfl⟩ := List.mem_map.1 hr
  split
  · exact (mulsL_ok h i).len
  · simp
theorem tabAt_get {l : List Nat} {P : Pt} (h : PRep l P) {J i : Nat} (hi : i < J) (hJ : J ≤ 16) : ((tabAt l J).flatten.drop (i * 20)).take 20 = mulsL l i := by
  rw [rows_get 20 _ (tabAt_rows h J) i (by rw [tabAt_len]; omega)]
  rw [tabAt_at, if_pos hi]
theorem tabAt_set {l : List Nat} {P : Pt} (h : PRep l P) {J : Nat} (hJ : J < 16) : (tabAt l J).flatten.take (J * 20) ++ mulsL l J ++ (tabAt l J).flatten.drop (J * 20 + 20) = (tabAt l (J + 1)).flatten := by
  rw [rows_set 20 _ _ (tabAt_rows h J) J (by rw [tabAt_len]; exact hJ)]
  congr 1
  apply List.ext_getElem
  · simp [tabAt]
  · intro i h1 h2
    rw [List.getElem_set, tabAt_at l (J + 1)]
    split
    · rename_i e
      subst e
      rw [if_pos (by omega)]
    · rw [tabAt_at]
      by_cases hlt : i < J
      · rw [if_pos hlt, if_pos (by omega)]
      · rw [if_neg hlt, if_neg (by omega)]
theorem tabAt_zero (l : List Nat) : (tabAt l 0).flatten = List.replicate 320 0 := by
  have hr : ∀ r ∈ tabAt l 0, r = List.replicate 20 0 := fun r hr => by
    unfold tabAt at hr
    obtain ⟨i, _, rfl⟩ := List.mem_map.1 hr
    exact if_neg (Nat.not_lt_zero _)
  refine List.eq_replicate_iff.2 ⟨?_, fun b hb => ?_⟩
  · rw [rows_length 20 _ (fun r h => by rw [hr r h, List.length_replicate]), tabAt_len]
  · obtain ⟨r, h1, h2⟩ := List.mem_flatten.1 hb
    rw [hr r h1] at h2
    exact (List.mem_replicate.1 h2).2
/-- The table. -/
noncomputable def tabL (l : List Nat) : List Nat := (tabAt l 16).flatten
theorem tabAt_flen {l : List Nat} {P : Pt} (h : PRep l P) (J : Nat) : (tabAt l J).flatten.length = 320 := by
  rw [rows_length 20 _ (tabAt_rows h J), tabAt_len]

set_option maxRecDepth 100000 in
set_option maxHeartbeats 4000000 in
theorem multiples_any {l : List Nat} {P : Pt} (h : PRep l P) (w : World) : Gives 32 #[pt l] w (pt (tabL l)) := by
  have len := h.len
  have h0 := tabAt_set h (J := 0) (by decide)
  rw [tabAt_zero] at h0
  have H0 := Lib.hid (show (List.replicate 320 0).take (0 * 20) ++ zeroL ++ (List.replicate 320 0).drop (0 * 20 + 20) = (tabAt l (0 + 1)).flatten from h0)
  have hb0 : 0 * 20 + 20 ≤ (List.replicate 320 0).length := by rw [List.length_replicate]; decide
  have Hg := Lib.hid (fun J i hi hJ => tabAt_get h (J := J) (i := i) hi hJ)
  have Hs := Lib.hid (fun J hJ => tabAt_set h (J := J) hJ)
  have Hl := Lib.hid (fun J => tabAt_flen h J)
  have Hm := Lib.hid (fun j => mulsL_ok h j)
  have HP := Lib.hid h
  have HZ := Lib.hid PZero_any
  have lz : zeroL.length = 20 := rfl
  clear h h0
  have hE0 := Env.nil w
  go_enter Try.func32, Try.ntmps32
  repeat ((fail_if_success with_reducible show wA ..); (fail_if_success with_reducible show wB ..); go_step)
  refine wl_step (st_boxA hE0 rfl rfl rfl ?_)
  intro g0 w1 hb1 hE1
  clear hE0
  simp only [Act.put, pA, pB, pC]
  refine wl_step (st_alloc (zs := ints .u64 (List.replicate 320 0)) hE1 rfl rfl (fun w => by kernel_rfl) ?_)
  intro g1 w2 hb2 hE2
  clear hE1
  simp only [Act.put, pA, pB, pC]
  repeat ((fail_if_success with_reducible show wA ..); (fail_if_success with_reducible show wB ..); go_step)
  refine wl_step (st_alloc (zs := ints .u64 (List.replicate 320 0)) hE2 rfl rfl (fun w => by kernel_rfl) ?_)
  intro g2 w3 hb3 hE3
  clear hE2
  simp only [Act.put, pA, pB, pC]
  repeat ((fail_if_success with_reducible show wA ..); (fail_if_success with_reducible show wB ..); go_step)
  refine wl_step (st_gives hE3 rfl (run_call rfl Try.call12) (HZ.out _) ?_)
  intro w4 hb4 hE4
  clear hE3
  simp only [Act.put, pA, pB, pC]
  refine wv (v_indexAs (j := 0) (s := 20) rfl rfl rfl Try.underlying61 (by kernel_rfl) (by first | assumption | omega)) ?_
  simp only [Act.put, pA, pB, pC]
  refine wl_step (st_putPart (i := 0) (n := 20) hE4 rfl rfl rfl rfl rfl (by kernel_rfl) (by first | rfl | assumption) (by first | assumption | (simp only [List.length_append, *]; try omega)) ?_)
  intro w5 hE5
  clear hE4
  simp only [pB, pC] at hE5
  simp only [Act.put, pA, pB, pC]
  rw [H0.out] at hE5
  repeat ((fail_if_success with_reducible show wA ..); (fail_if_success with_reducible show wB ..); go_step)
  refine wv (v_moveC (.inr rfl)) ?_
  simp only [Act.put, pA, pB, pC]
  go_wp2
  go_loopw [4] (fun i wr => ∃ J : Nat, J + 1 ≤ 16 ∧ i = .int .i64 (J + 1 : Nat) ∧ Env w [⟨g2, 61, ints .u64 (tabAt l (J + 1)).flatten⟩, ⟨g1, 61, ints .u64 (List.replicate 320 0)⟩, ⟨g0, 28, ints .u64 l⟩] wr) (fun i _ => 16 - (intOf i).toNat)
  case atStart => exact ⟨0, by omega, rfl, hE5⟩
  case round =>
    clear hE5
    obtain ⟨J, hJ, rfl, hE0⟩ := hrel
    have hM := Hl.out (J + 1)
    by_cases hlt : J + 1 < 16
    · have hget := Hg.out (J + 1) J (by omega) hJ
      have hset := Hs.out (J + 1) hlt
      have hmj := Hm.out J
      have ha := addP_ok hmj HP.out
      have e : addP (mulsL l J) l = mulsL l (J + 1) := rfl
      rw [e] at ha
      have lm := (Hm.out J).len
      have lm' := (Hm.out (J + 1)).len
      obtain ⟨X, hX⟩ : ∃ X, mulsL l J = X := ⟨_, rfl⟩
      obtain ⟨Y, hY⟩ : ∃ Y, mulsL l (J + 1) = Y := ⟨_, rfl⟩
      obtain ⟨M, hMe⟩ : ∃ M, (tabAt l (J + 1)).flatten = M := ⟨_, rfl⟩
      rw [hX] at hget ha lm
      rw [hY] at hset ha lm'
      rw [hMe] at hget hset hM hE0
      have HA := Lib.hid ha.2
      have HG := Lib.hid hget
      have HS := Lib.hid hset
      have hb1 : J * 20 + 20 ≤ M.length := by omega
      have hb2 : (J + 1) * 20 + 20 ≤ M.length := by omega
      clear hget hset hmj ha e hX hY hMe
      repeat ((fail_if_success with_reducible show wA ..); (fail_if_success with_reducible show wB ..); go_step)
      refine wv (v_moveT (.inl rfl) rfl) ?_
      simp only [Act.put, pA, pB, pC]
      refine wv (v_lss (n := 16) rfl rfl rfl) ?_
      simp only [Act.put, pA, pB, pC]
      repeat ((fail_if_success with_reducible show wA ..); (fail_if_success with_reducible show wB ..); go_step)
      refine wp_region_B (n := 9) 8 (by kernel_rfl) rfl hE0 ?_
      intro w1 hb1 hE1
      clear hE0
      refine wpB_take (i := 0) (by kernel_rfl) rfl (by kernel_rfl) (fun _ _ _ h => h) rfl (v_moveT (.inl rfl) rfl) ?_
      simp only [Act.put, pA, pB, pC]
      refine wpB_take (i := 1) (by kernel_rfl) rfl (by kernel_rfl) (fun _ _ _ h => h) rfl (v_moveT (.inl rfl) rfl) ?_
      simp only [Act.put, pA, pB, pC]
      refine wpB_take (i := 2) (by kernel_rfl) rfl (by kernel_rfl) (fun _ _ _ h => h) rfl (v_sub (m := J + 1) (n := 1) (r := (J : Int)) rfl rfl rfl (by rw [w_i64s (by omega) (by omega)]; rfl)) ?_
      simp only [Act.put, pA, pB, pC]
      refine wpB_take (i := 3) (by kernel_rfl) rfl (by kernel_rfl) (fun _ _ _ h => h) rfl (v_indexAs (s := 20) rfl rfl rfl Try.underlying61 (by kernel_rfl) (by first | assumption | omega)) ?_
      simp only [Act.put, pA, pB, pC]
      refine wpB_take (i := 4) (by kernel_rfl) rfl (by kernel_rfl) (fun _ _ _ h => h) rfl (v_loadPart (i := 0) (n := 20) hE1 rfl rfl rfl Try.underlying28 rfl (by kernel_rfl) (by first | assumption | (simp only [List.length_append, *]; try omega))) ?_
      simp only [Act.put, pA, pB, pC]
      rw [HG.out]
      refine wpB_take (i := 5) (by kernel_rfl) rfl (by kernel_rfl) (fun _ _ _ h => h) rfl (v_load (i := 2) hE1 rfl rfl rfl Try.underlying28 rfl (szA (n := 20))) ?_
      simp only [Act.put, pA, pB, pC]
      refine wpB_step (i := 6) (by kernel_rfl) rfl (st_gives hE1 rfl (run_call rfl Try.call10) (HA.out _) ?_)
      intro w2 hb2 hE2
      clear hE1
      refine ⟨fun _ => hb2, ?_⟩
      simp only [Act.put, pA, pB, pC]
      refine wpB_take (i := 7) (by kernel_rfl) rfl (by kernel_rfl) (fun _ _ _ h => h) rfl (v_indexAs (s := 20) rfl rfl rfl Try.underlying61 (by kernel_rfl) (by first | assumption | omega)) ?_
      simp only [Act.put, pA, pB, pC]
      refine wpB_step (i := 8) (by kernel_rfl) rfl (st_putPart (i := 0) (n := 20) hE2 rfl rfl rfl rfl rfl (by kernel_rfl) (by first | rfl | assumption) (by first | assumption | (simp only [List.length_append, *]; try omega)) ?_)
      intro w3 hE3
      clear hE2
      simp only [pB, pC] at hE3
      refine ⟨fun h => absurd h (by decide), ?_⟩
      simp only [Act.put, pA, pB, pC]
      refine wpB_done (by kernel_rfl) ?_ _
      rw [HS.out] at hE3
      repeat ((fail_if_success with_reducible show wA ..); (fail_if_success with_reducible show wB ..); go_step)
      refine wv (v_moveT (.inl rfl) rfl) ?_
      simp only [Act.put, pA, pB, pC]
      refine wv (v_add (n := 1) rfl rfl rfl (w_i64 (by omega))) ?_
      simp only [Act.put, pA, pB, pC]
      refine wv (v_moveT (.inr rfl) rfl) ?_
      simp only [Act.put, pA, pB, pC]
      go_wp2
      go_roundw
      case rel => exact ⟨J + 1, by omega, rfl, hE3⟩
      case measure => simp [intOf]; omega
    · have hJ' : J = 15 := by omega
      subst hJ'
      have hM' : (tabL l).length = 320 := hM
      have hT : (tabAt l (15 + 1)).flatten = tabL l := rfl
      rw [hT] at hE0
      clear hT hM
      repeat ((fail_if_success with_reducible show wA ..); (fail_if_success with_reducible show wB ..); go_step)
      refine wv (v_moveT (.inl rfl) rfl) ?_
      simp only [Act.put, pA, pB, pC]
      refine wv (v_lss (n := 16) rfl rfl rfl) ?_
      simp only [Act.put, pA, pB, pC]
      repeat ((fail_if_success with_reducible show wA ..); (fail_if_success with_reducible show wB ..); go_step)
      refine wv (v_load (i := 0) hE0 rfl rfl rfl Try.underlying61 rfl (szA (n := 320))) ?_
      simp only [Act.put, pA, pB, pC]
      refine wl_step (st_store (i := 1) hE0 rfl rfl rfl rfl rfl (szA (n := 320)) (by first | (simp only [ints_size, digs_length, List.length_replicate, List.length_cons, List.length_nil]; done) | (simp only [ints_size, digs_length, List.length_replicate, List.length_cons, List.length_nil, List.length_set, List.length_append]; omega) | rfl) (by first | exact ints_one _ _ | decide | simp [*]) ?_)
      intro w1 hE1
      clear hE0
      simp only [pB, pC] at hE1
      simp only [Act.put, pA, pB, pC]
      repeat ((fail_if_success with_reducible show wA ..); (fail_if_success with_reducible show wB ..); go_step)
      refine bodyPost_ret (results_cell_row rfl _ _ _ _ _ (0, 0) _ rfl (hE1.get (i := 1) rfl) Try.underlying61 rfl (szA (n := 320))) rfl ⟨rfl, hE1.below⟩
end Go.Proofs.Ytmebjoehmheknaa
namespace Go.Proofs.Ytmebjoehmheknaa
open Go.RowKit
set_option linter.unusedVariables false
set_option linter.unusedSimpArgs false

theorem nib_of_byte {b : List Nat} (db : Digs 256 b) (j : Nat) : b.getD (j / 2) 0 / 2 ^ (4 * (j % 2)) % 16 = val 256 b / 16 ^ j % 16 := by
  rw [← val_div_mod db (by decide), show (256 : Nat) = 16 ^ 2 from rfl, ← Nat.pow_mul, Nat.pow_mul 2 4, show (2 : Nat) ^ 4 = 16 from rfl, mod_pow_div_mod (B := 16) _ 2 (j % 2) (Nat.mod_lt _ (by decide)), Nat.div_div_eq_div_mul, ← Nat.pow_add, show 2 * (j / 2) + j % 2 = j by omega]
noncomputable def dblsL (x : List Nat) : Nat → List Nat
  | 0 => x
  | t + 1 => dblP (dblsL x t)
theorem dblsL_ok {x : List Nat} {Q : Pt} (h : PRep x Q) : ∀ t, PRep (dblsL x t) (smul (2 ^ t) Q)
  | 0 => by
    rw [Nat.pow_zero, smul_one]
    exact h
  | t + 1 => by
    rw [Nat.pow_succ, Nat.mul_comm, smul_two]
    exact (dblP_ok (dblsL_ok h t)).1
/-- The multiple, window by window. -/
noncomputable def winL (l : List Nat) (N : Nat) : Nat → List Nat
  | 0 => zeroL
  | r + 1 => addP (dblsL (winL l N r) 4) (mulsL l (N / 16 ^ (63 - r) % 16))
theorem win_step (N r : Nat) (h : r < 64) : 2 ^ 4 * (N / 16 ^ (64 - r)) + N / 16 ^ (63 - r) % 16 = N / 16 ^ (63 - r) := by
  have e : 64 - r = (63 - r) + 1 := by omega
  rw [e, Nat.pow_succ 16, ← Nat.div_div_eq_div_mul, show (2 : Nat) ^ 4 = 16 from rfl]
  omega
theorem winL_ok {l : List Nat} {P : Pt} (h : PRep l P) {N : Nat} (hN : N < 16 ^ 64) : ∀ r, r ≤ 64 → PRep (winL l N r) (smul (N / 16 ^ (64 - r)) P)
  | 0, _ => by
    rw [Nat.sub_zero, Nat.div_eq_of_lt hN]
    exact PRep_zero
  | r + 1, hr => by
    have h1 := dblsL_ok (winL_ok h hN r (by omega)) 4
    have h2 := (addP_ok h1 (mulsL_ok h (N / 16 ^ (63 - r) % 16))).1
    rw [← smul_mul, ← smul_add, Nat.mul_comm, win_step N r (by omega)] at h2
    have e : 64 - (r + 1) = 63 - r := by omega
    rw [e]
    exact h2

set_option maxRecDepth 100000 in
set_option maxHeartbeats 8000000 in
theorem PMul_walk {l b : List Nat} {P : Pt} (h : PRep l P) (hb : b.length = 32) (db : Digs 256 b) (w : World) : Gives 9 #[pt l, .agg (ints .u8 b)] w (pt (winL l (val 256 b) 64)) := by
  have len := h.len
  have hN : val 256 b < 16 ^ 64 := by
    have := val_lt db
    rw [hb] at this
    exact this
  have Hnib := Lib.hid (fun j => nib_of_byte db j)
  have Hbyte := Lib.hid (fun j => db.getD (by decide) j)
  obtain ⟨N, hNe⟩ : ∃ N, val 256 b = N := ⟨_, rfl⟩
  rw [hNe] at Hnib hN ⊢
  have Hok := Lib.hid (fun r hr => winL_ok h hN r hr)
  have HM := Lib.hid (fun w => multiples_any h w)
  have Hg := Lib.hid (fun i (hi : i < 16) => tabAt_get h (J := 16) (i := i) hi (Nat.le_refl _))
  have hTl : (tabL l).length = 320 := tabAt_flen h 16
  have Hmul := Lib.hid (fun j => mulsL_ok h j)
  have HP := Lib.hid h
  have HZ := Lib.hid PZero_any
  have lz : zeroL.length = 20 := rfl
  clear h hN db hNe
  have hE0 := Env.nil w
  go_enter Try.func9, Try.ntmps9
  repeat ((fail_if_success with_reducible show wA ..); (fail_if_success with_reducible show wB ..); go_step)
  refine wl_step (st_boxA hE0 rfl rfl rfl ?_)
  intro g0 w1 hb1 hE1
  clear hE0
  simp only [Act.put, pA, pB, pC]
  refine wl_step (st_boxA hE1 rfl rfl rfl ?_)
  intro g1 w2 hb2 hE2
  clear hE1
  simp only [Act.put, pA, pB, pC]
  refine wl_step (st_alloc (zs := ints .u64 (List.replicate 20 0)) hE2 rfl rfl (fun w => by kernel_rfl) ?_)
  intro g2 w3 hb3 hE3
  clear hE2
  simp only [Act.put, pA, pB, pC]
  repeat ((fail_if_success with_reducible show wA ..); (fail_if_success with_reducible show wB ..); go_step)
  refine wv (v_load (i := 2) hE3 rfl rfl rfl Try.underlying28 rfl (szA (n := 20))) ?_
  simp only [Act.put, pA, pB, pC]
  refine wl_step (st_gives hE3 rfl (run_call rfl Try.call32) (HM.out _) ?_)
  intro w4 hb4 hE4
  clear hE3
  simp only [Act.put, pA, pB, pC]
  refine wl_step (st_alloc (zs := ints .u64 (List.replicate 320 0)) hE4 rfl rfl (fun w => by kernel_rfl) ?_)
  intro g3 w5 hb5 hE5
  clear hE4
  simp only [Act.put, pA, pB, pC]
  refine wl_step (st_store (i := 0) hE5 rfl rfl rfl rfl rfl (szA (n := 320)) (by first | (simp only [ints_size, digs_length, List.length_replicate, List.length_cons, List.length_nil]; done) | (simp only [ints_size, digs_length, List.length_replicate, List.length_cons, List.length_nil, List.length_set, List.length_append]; omega) | rfl) (by first | exact ints_one _ _ | decide | simp [*]) ?_)
  intro w6 hE6
  clear hE5
  simp only [pB, pC] at hE6
  simp only [Act.put, pA, pB, pC]
  repeat ((fail_if_success with_reducible show wA ..); (fail_if_success with_reducible show wB ..); go_step)
  refine wl_step (st_gives hE6 rfl (run_call rfl Try.call12) (HZ.out _) ?_)
  intro w7 hb7 hE7
  clear hE6
  simp only [Act.put, pA, pB, pC]
  refine wl_step (st_alloc (zs := ints .u64 (List.replicate 20 0)) hE7 rfl rfl (fun w => by kernel_rfl) ?_)
  intro g4 w8 hb8 hE8
  clear hE7
  simp only [Act.put, pA, pB, pC]
  refine wl_step (st_store (i := 0) hE8 rfl rfl rfl rfl rfl (szA (n := 20)) (by first | (simp only [ints_size, digs_length, List.length_replicate, List.length_cons, List.length_nil]; done) | (simp only [ints_size, digs_length, List.length_replicate, List.length_cons, List.length_nil, List.length_set, List.length_append]; omega) | rfl) (by first | exact ints_one _ _ | decide | simp [*]) ?_)
  intro w9 hE9
  clear hE8
  simp only [pB, pC] at hE9
  simp only [Act.put, pA, pB, pC]
  repeat ((fail_if_success with_reducible show wA ..); (fail_if_success with_reducible show wB ..); go_step)
  refine wv (v_moveC (.inr rfl)) ?_
  simp only [Act.put, pA, pB, pC]
  go_wp2
  go_loopw [7] (fun i wr => ∃ K : Nat, K ≤ 64 ∧ i = .int .i64 ((K : Int) - 1) ∧ Env w [⟨g4, 28, ints .u64 (winL l N (64 - K))⟩, ⟨g3, 61, ints .u64 (tabL l)⟩, ⟨g2, 28, ints .u64 (List.replicate 20 0)⟩, ⟨g1, 22, ints .u8 b⟩, ⟨g0, 28, ints .u64 l⟩] wr) (fun i _ => (intOf i + 1).toNat)
  case atStart => exact ⟨64, Nat.le_refl _, rfl, hE9⟩
  case round =>
    clear hE9
    obtain ⟨K, hK, rfl, hE0⟩ := hrel
    have hX := (Hok.out (64 - K) (by omega)).len
    cases K with
    | zero =>
      repeat ((fail_if_success with_reducible show wA ..); (fail_if_success with_reducible show wB ..); go_step)
      refine wv (v_moveT (.inl rfl) rfl) ?_
      simp only [Act.put, pA, pB, pC]
      refine wv (v_geqI rfl rfl rfl) ?_
      simp only [Act.put, pA, pB, pC]
      repeat ((fail_if_success with_reducible show wA ..); (fail_if_success with_reducible show wB ..); go_step)
      refine wv (v_load (i := 0) hE0 rfl rfl rfl Try.underlying28 rfl (szA (n := 20))) ?_
      simp only [Act.put, pA, pB, pC]
      refine wl_step (st_store (i := 2) hE0 rfl rfl rfl rfl rfl (szA (n := 20)) (by first | (simp only [ints_size, digs_length, List.length_replicate, List.length_cons, List.length_nil]; done) | (simp only [ints_size, digs_length, List.length_replicate, List.length_cons, List.length_nil, List.length_set, List.length_append]; omega) | rfl) (by first | exact ints_one _ _ | decide | simp [*]) ?_)
      intro w1 hE1
      clear hE0
      simp only [pB, pC] at hE1
      simp only [Act.put, pA, pB, pC]
      repeat ((fail_if_success with_reducible show wA ..); (fail_if_success with_reducible show wB ..); go_step)
      refine bodyPost_ret (results_cell_row rfl _ _ _ _ _ (0, 0) _ rfl (hE1.get (i := 2) rfl) Try.underlying28 rfl (szA (n := 20))) rfl ⟨rfl, hE1.below⟩
    | succ j =>
      have hj : ((j + 1 : Nat) : Int) - 1 = (j : Int) := by omega
      rw [hj]
      clear hj
      have hj64 : j < 64 := by omega
      have e1 : 64 - (j + 1) = 63 - j := by omega
      rw [e1] at hE0 hX
      have hXr := Hok.out (63 - j) (by omega)
      have e2 : 64 - j = (63 - j) + 1 := by omega
      have e3 : 63 - (63 - j) = j := by omega
      have hnext : winL l N (64 - j) = addP (dblsL (winL l N (63 - j)) 4) (mulsL l (N / 16 ^ j % 16)) := by
        rw [e2, winL, e3]
      obtain ⟨X, hXe⟩ : ∃ X, winL l N (63 - j) = X := ⟨_, rfl⟩
      rw [hXe] at hE0 hX hXr hnext
      have Hd := Lib.hid (fun t => dblsL_ok hXr t)
      have Hn := Lib.hid hnext
      clear e1 e2 e3 hnext hXe hXr
      have hst : Env w [⟨g4, 28, ints .u64 (dblsL X 0)⟩, ⟨g3, 61, ints .u64 (tabL l)⟩, ⟨g2, 28, ints .u64 (List.replicate 20 0)⟩, ⟨g1, 22, ints .u8 b⟩, ⟨g0, 28, ints .u64 l⟩] wr := hE0
      clear hE0
      have hE0 := hst
      clear hst
      repeat ((fail_if_success with_reducible show wA ..); (fail_if_success with_reducible show wB ..); go_step)
      refine wv (v_moveT (.inl rfl) rfl) ?_
      simp only [Act.put, pA, pB, pC]
      refine wv (v_geqI rfl rfl rfl) ?_
      simp only [Act.put, pA, pB, pC]
      repeat ((fail_if_success with_reducible show wA ..); (fail_if_success with_reducible show wB ..); go_step)
      refine wv (v_moveC (.inl rfl)) ?_
      simp only [Act.put, pA, pB, pC]
      go_wp2
      go_loopw [15] (fun i wr => ∃ T : Nat, T ≤ 4 ∧ i = .int .i64 T ∧ Env w [⟨g4, 28, ints .u64 (dblsL X T)⟩, ⟨g3, 61, ints .u64 (tabL l)⟩, ⟨g2, 28, ints .u64 (List.replicate 20 0)⟩, ⟨g1, 22, ints .u8 b⟩, ⟨g0, 28, ints .u64 l⟩] wr) (fun i _ => 4 - (intOf i).toNat)
      case atStart => exact ⟨0, Nat.zero_le _, rfl, hE0⟩
      case round =>
        clear hE0
        obtain ⟨T, hT, rfl, hE0⟩ := hrel
        have hXt := Hd.out T
        have lXt := hXt.len
        by_cases hT4 : T < 4
        · have hXs := dblP_ok hXt
          have e : dblP (dblsL X T) = dblsL X (T + 1) := rfl
          rw [e] at hXs
          have lXs := hXs.1.len
          have HD := Lib.hid hXs.2
          clear hXt hXs e
          repeat ((fail_if_success with_reducible show wA ..); (fail_if_success with_reducible show wB ..); go_step)
          refine wv (v_lss (n := 4) rfl rfl rfl) ?_
          simp only [Act.put, pA, pB, pC]
          repeat ((fail_if_success with_reducible show wA ..); (fail_if_success with_reducible show wB ..); go_step)
          refine wv (v_load (i := 0) hE0 rfl rfl rfl Try.underlying28 rfl (szA (n := 20))) ?_
          simp only [Act.put, pA, pB, pC]
          refine wl_step (st_gives hE0 rfl (run_call rfl Try.call14) (HD.out _) ?_)
          intro w1 hb1 hE1
          clear hE0
          simp only [Act.put, pA, pB, pC]
          refine wl_step (st_store (i := 0) hE1 rfl rfl rfl rfl rfl (szA (n := 20)) (by first | (simp only [ints_size, digs_length, List.length_replicate, List.length_cons, List.length_nil]; done) | (simp only [ints_size, digs_length, List.length_replicate, List.length_cons, List.length_nil, List.length_set, List.length_append]; omega) | rfl) (by first | exact ints_one _ _ | decide | simp [*]) ?_)
          intro w2 hE2
          clear hE1
          simp only [pB, pC] at hE2
          simp only [Act.put, pA, pB, pC]
          repeat ((fail_if_success with_reducible show wA ..); (fail_if_success with_reducible show wB ..); go_step)
          refine wv (v_add (n := 1) rfl rfl rfl (w_i64 (by omega))) ?_
          simp only [Act.put, pA, pB, pC]
          refine wv (v_moveT (.inl rfl) rfl) ?_
          simp only [Act.put, pA, pB, pC]
          go_wp2
          go_roundw
          case rel => exact ⟨T + 1, by omega, rfl, hE2⟩
          case measure => simp [intOf]; omega
        · have hT' : T = 4 := by omega
          subst hT'
          have hnb := Hnib.out j
          have hbl := Hbyte.out (j / 2)
          have hi32 : j / 2 < b.length := by omega
          have hi32' : j / 2 < 32 := by omega
          obtain ⟨c, hc⟩ : ∃ c, b.getD (j / 2) 0 = c := ⟨_, rfl⟩
          rw [hc] at hnb hbl
          have hsh : c / 2 ^ (4 * (j % 2)) < 2 ^ IntKind.u8.bits := by
            have := Nat.div_le_self c (2 ^ (4 * (j % 2)))
            simp only [IntKind.bits]
            omega
          have h48 : 4 * (j % 2) ≤ IntKind.u8.bits := by simp only [IntKind.bits]; omega
          have hm16 : N / 16 ^ j % 16 < 16 := Nat.mod_lt _ (by decide)
          have hget := Hg.out _ hm16
          have hmm := Hmul.out (N / 16 ^ j % 16)
          have hadd := addP_ok hXt hmm
          rw [← Hn.out] at hadd
          obtain ⟨m, hme⟩ : ∃ m, N / 16 ^ j % 16 = m := ⟨_, rfl⟩
          rw [hme] at hnb hm16 hget hadd hmm
          obtain ⟨Y, hYe⟩ : ∃ Y, mulsL l m = Y := ⟨_, rfl⟩
          have hget' : List.take 20 (List.drop (m * 20) (tabL l)) = mulsL l m := hget
          rw [hYe] at hget' hadd hmm
          have lY := hmm.len
          have lR := hadd.1.len
          have HA := Lib.hid hadd.2
          have HG := Lib.hid hget'
          have HNb := Lib.hid hnb
          have HC := Lib.hid hc
          have hbb : m * 20 + 20 ≤ (tabL l).length := by omega
          clear hget hget' hmm hadd hme hYe hnb hc hXt
          repeat ((fail_if_success with_reducible show wA ..); (fail_if_success with_reducible show wB ..); go_step)
          refine wv (v_lss (n := 4) rfl rfl rfl) ?_
          simp only [Act.put, pA, pB, pC]
          repeat ((fail_if_success with_reducible show wA ..); (fail_if_success with_reducible show wB ..); go_step)
          refine wp_region_B (n := 14) 13 (by kernel_rfl) rfl hE0 ?_
          intro w1 hb1 hE1
          clear hE0
          refine wpB_take (i := 0) (by kernel_rfl) rfl (by kernel_rfl) (fun _ _ _ h => h) rfl (v_load (i := 0) hE1 rfl rfl rfl Try.underlying28 rfl (szA (n := 20))) ?_
          simp only [Act.put, pA, pB, pC]
          refine wpB_take (i := 1) (by kernel_rfl) rfl (by kernel_rfl) (fun _ _ _ h => h) rfl (v_moveT (.inl rfl) rfl) ?_
          simp only [Act.put, pA, pB, pC]
          refine wpB_take (i := 2) (by kernel_rfl) rfl (by kernel_rfl) (fun _ _ _ h => h) rfl (v_quo (n := 2) rfl rfl rfl (by omega) (w_i64 (by omega))) ?_
          simp only [Act.put, pA, pB, pC]
          refine wpB_take (i := 3) (by kernel_rfl) rfl (by kernel_rfl) (fun _ _ _ h => h) rfl (v_indexA0 rfl rfl rfl Try.underlying22 (by kernel_rfl) (by first | assumption | omega)) ?_
          simp only [Act.put, pA, pB, pC]
          refine wpB_take (i := 4) (by kernel_rfl) rfl (by kernel_rfl) (fun _ _ _ h => h) rfl (v_cell rfl rfl Try.underlying5 rfl (Env.cellv (i := 3) hE1 rfl (ints_get? _ _ _ (by first | assumption | omega | (simp; done) | (simp; omega))))) ?_
          simp only [Act.put, pA, pB, pC]
          rw [HC.out]
          refine wpB_take (i := 5) (by kernel_rfl) rfl (by kernel_rfl) (fun _ _ _ h => h) rfl (v_moveT (.inl rfl) rfl) ?_
          simp only [Act.put, pA, pB, pC]
          refine wpB_take (i := 6) (by kernel_rfl) rfl (by kernel_rfl) (fun _ _ _ h => h) rfl (v_rem (n := 2) rfl rfl rfl (by omega)) ?_
          simp only [Act.put, pA, pB, pC]
          refine wpB_take (i := 7) (by kernel_rfl) rfl (by kernel_rfl) (fun _ _ _ h => h) rfl (v_mul (m := 4) rfl rfl rfl (w_i64 (by omega))) ?_
          simp only [Act.put, pA, pB, pC]
          refine wpB_take (i := 8) (by kernel_rfl) rfl (by kernel_rfl) (fun _ _ _ h => h) rfl (v_shr rfl rfl rfl h48) ?_
          simp only [Act.put, pA, pB, pC]
          refine wpB_take (i := 9) (by kernel_rfl) rfl (by kernel_rfl) (fun _ _ _ h => h) rfl (v_mask (c := 15) (s := 4) (d := 16) rfl rfl rfl (by decide) (by decide) rfl hsh (by decide)) ?_
          simp only [Act.put, pA, pB, pC]
          rw [HNb.out]
          refine wpB_take (i := 10) (by kernel_rfl) rfl (by kernel_rfl) (fun _ _ _ h => h) rfl (v_indexAs (s := 20) rfl rfl rfl Try.underlying61 (by kernel_rfl) (by first | assumption | omega)) ?_
          simp only [Act.put, pA, pB, pC]
          refine wpB_take (i := 11) (by kernel_rfl) rfl (by kernel_rfl) (fun _ _ _ h => h) rfl (v_loadPart (i := 1) (n := 20) hE1 rfl rfl rfl Try.underlying28 rfl (by kernel_rfl) (by first | assumption | (simp only [List.length_append, *]; try omega))) ?_
          simp only [Act.put, pA, pB, pC]
          rw [HG.out]
          refine wpB_step (i := 12) (by kernel_rfl) rfl (st_gives hE1 rfl (run_call rfl Try.call10) (HA.out _) ?_)
          intro w2 hb2 hE2
          clear hE1
          refine ⟨fun _ => hb2, ?_⟩
          simp only [Act.put, pA, pB, pC]
          refine wpB_step (i := 13) (by kernel_rfl) rfl (st_store (i := 0) hE2 rfl rfl rfl rfl rfl (szA (n := 20)) (by first | (simp only [ints_size, digs_length, List.length_replicate, List.length_cons, List.length_nil]; done) | (simp only [ints_size, digs_length, List.length_replicate, List.length_cons, List.length_nil, List.length_set, List.length_append]; omega) | rfl) (by first | exact ints_one _ _ | decide | simp [*]) ?_)
          intro w3 hE3
          clear hE2
          simp only [pB, pC] at hE3
          refine ⟨fun h => absurd h (by decide), ?_⟩
          simp only [Act.put, pA, pB, pC]
          refine wpB_done (by kernel_rfl) ?_ _
          repeat ((fail_if_success with_reducible show wA ..); (fail_if_success with_reducible show wB ..); go_step)
          refine wv (v_moveT (.inl rfl) rfl) ?_
          simp only [Act.put, pA, pB, pC]
          refine wv (v_sub (n := 1) rfl rfl rfl (by first | exact w_i64s (by omega) (by omega) | exact w_i64I (by omega) (by omega))) ?_
          simp only [Act.put, pA, pB, pC]
          refine wv (v_moveT (.inr rfl) rfl) ?_
          simp only [Act.put, pA, pB, pC]
          go_wp2
          go_roundw
          case rel => exact ⟨j, by omega, rfl, hE3⟩
          case measure => simp [intOf]
theorem PMul_any {l b : List Nat} {P : Pt} (h : PRep l P) (hb : b.length = 32) (db : Digs 256 b) : ∃ c, PRep c (smul (val 256 b) P) ∧ ∀ w, Gives 9 #[pt l, .agg (ints .u8 b)] w (pt c) := by
  have hN : val 256 b < 16 ^ 64 := by
    have := val_lt db
    rw [hb] at this
    exact this
  have h1 := winL_ok h hN 64 (Nat.le_refl _)
  rw [Nat.sub_self, Nat.pow_zero, Nat.div_one] at h1
  exact ⟨_, h1, fun w => PMul_walk h hb db w⟩

theorem PBoth_any {l b c : List Nat} {P : Pt} (h : PRep l P) (hb : b.length = 32) (db : Digs 256 b) (hc : c.length = 32) (dc : Digs 256 c) :
    ∃ r, PRep r (padd (smul (val 256 b) P) (smul (val 256 c) baseP)) ∧ ∀ w, Gives 28 #[.agg (ints .u8 b), pt l, .agg (ints .u8 c)] w (pt r) := by
  obtain ⟨g, hg, Gg⟩ := PBase_any
  obtain ⟨x, hx, Gx⟩ := PMul_any h hb db
  obtain ⟨y, hy, Gy⟩ := PMul_any hg hc dc
  obtain ⟨r, hr, Gr⟩ := PAdd_any hx hy
  refine ⟨r, hr, fun w => ?_⟩
  have len := h.len
  have lg := hg.len
  have lx := hx.len
  have ly := hy.len
  have lr := hr.len
  have H1 := Lib.hid Gg
  have H2 := Lib.hid Gx
  have H3 := Lib.hid Gy
  have H4 := Lib.hid Gr
  clear Gg Gx Gy Gr hg hx hy hr h db dc
  have hE0 := Env.nil w
  go_enter Try.func28, Try.ntmps28
  repeat ((fail_if_success with_reducible show wA ..); (fail_if_success with_reducible show wB ..); go_step)
  refine wl_step (st_boxA hE0 rfl rfl rfl ?_)
  intro g0 w1 hb1 hE1
  clear hE0
  simp only [Act.put, pA, pB, pC]
  refine wl_step (st_boxA hE1 rfl rfl rfl ?_)
  intro g1 w2 hb2 hE2
  clear hE1
  simp only [Act.put, pA, pB, pC]
  refine wl_step (st_boxA hE2 rfl rfl rfl ?_)
  intro g2 w3 hb3 hE3
  clear hE2
  simp only [Act.put, pA, pB, pC]
  refine wl_step (st_alloc (zs := ints .u64 (List.replicate 20 0)) hE3 rfl rfl (fun w => by kernel_rfl) ?_)
  intro g3 w4 hb4 hE4
  clear hE3
  simp only [Act.put, pA, pB, pC]
  repeat ((fail_if_success with_reducible show wA ..); (fail_if_success with_reducible show wB ..); go_step)
  refine wp_region_B (n := 8) 7 (by kernel_rfl) rfl hE4 ?_
  intro w5 hb5 hE5
  clear hE4
  refine wpB_take (i := 0) (by kernel_rfl) rfl (by kernel_rfl) (fun _ _ _ h => h) rfl (v_load (i := 2) hE5 rfl rfl rfl Try.underlying28 rfl (szA (n := 20))) ?_
  simp only [Act.put, pA, pB, pC]
  refine wpB_take (i := 1) (by kernel_rfl) rfl (by kernel_rfl) (fun _ _ _ h => h) rfl (v_load (i := 3) hE5 rfl rfl rfl Try.underlying22 rfl (szA (n := 32))) ?_
  simp only [Act.put, pA, pB, pC]
  refine wpB_take (i := 4) (by kernel_rfl) rfl (by kernel_rfl) (fun _ _ _ h => h) rfl (v_load (i := 1) hE5 rfl rfl rfl Try.underlying22 rfl (szA (n := 32))) ?_
  simp only [Act.put, pA, pB, pC]
  refine wpB_step (i := 2) (by kernel_rfl) rfl (st_gives hE5 rfl (run_call rfl Try.call9) (H2.out _) ?_)
  intro w6 hb6 hE6
  clear hE5
  refine ⟨fun _ => hb6, ?_⟩
  simp only [Act.put, pA, pB, pC]
  refine wpB_step (i := 3) (by kernel_rfl) rfl (st_gives hE6 rfl (run_call rfl Try.call8) (H1.out _) ?_)
  intro w7 hb7 hE7
  clear hE6
  refine ⟨fun _ => hb7, ?_⟩
  simp only [Act.put, pA, pB, pC]
  refine wpB_step (i := 5) (by kernel_rfl) rfl (st_gives hE7 rfl (run_call rfl Try.call9) (H3.out _) ?_)
  intro w8 hb8 hE8
  clear hE7
  refine ⟨fun _ => hb8, ?_⟩
  simp only [Act.put, pA, pB, pC]
  refine wpB_step (i := 6) (by kernel_rfl) rfl (st_gives hE8 rfl (run_call rfl Try.call10) (H4.out _) ?_)
  intro w9 hb9 hE9
  clear hE8
  refine ⟨fun _ => hb9, ?_⟩
  simp only [Act.put, pA, pB, pC]
  refine wpB_step (i := 7) (by kernel_rfl) rfl (st_store (i := 0) hE9 rfl rfl rfl rfl rfl (szA (n := 20)) (by first | (simp only [ints_size, digs_length, List.length_replicate, List.length_cons, List.length_nil]; done) | (simp only [ints_size, digs_length, List.length_replicate, List.length_cons, List.length_nil, List.length_set, List.length_append]; omega) | rfl) (by first | exact ints_one _ _ | decide | simp [*]) ?_)
  intro w10 hE10
  clear hE9
  simp only [pB, pC] at hE10
  refine ⟨fun h => absurd h (by decide), ?_⟩
  simp only [Act.put, pA, pB, pC]
  refine wpB_done (by kernel_rfl) ?_ _
  repeat ((fail_if_success with_reducible show wA ..); (fail_if_success with_reducible show wB ..); go_step)
  refine bodyPost_ret (results_cell_row rfl _ _ _ _ _ (0, 0) _ rfl (hE10.get (i := 0) rfl) Try.underlying28 rfl (szA (n := 20))) rfl ⟨rfl, hE10.below⟩
end Go.Proofs.Ytmebjoehmheknaa
namespace Go.Proofs.Ytmebjoehmheknaa
open Go.RowKit
set_option linter.unusedVariables false
set_option linter.unusedSimpArgs false

/-- The digits of the order, the lowest one first. -/
def ordD : List Nat := [237, 211, 245, 92, 26, 99, 18, 88, 214, 156, 247, 162, 222, 249, 222, 20, 0, 0, 0, 0, 0, 0, 0, 0, 0, 0, 0, 0, 0, 0, 0, 16]
theorem ordD_val : val 256 ordD = ordN := by kernel_rfl
theorem ordD_Digs : Digs 256 ordD := by unfold Digs ordD; decide

set_option maxHeartbeats 1000000 in
theorem ordQ_any (w : World) : Calls Try.prog 17 #[] w fun e w' => ∃ g, e = .returned (.slice (some ⟨g, 0, none⟩) 32 32) ∧ Below w.heap.size w w' ∧ w.heap.size ≤ g ∧ w'.heap[g]? = some (.cells (ints .i64 ordD) 3 (0, 0)) := by
  go_enter Try.func17, Try.ntmps17
  go_wp2
  go_returns
  refine ⟨_, rfl, (Below.refl _ _).alloc (Nat.le_refl _) _, Nat.le_refl _, ?_⟩
  exact heap_alloc_new w _

set_option maxHeartbeats 1000000 in
theorem ordAt_any {l : List Nat} {g : Nat} {T : TypeId} {w : World} (hl : l.length = 32) (hg : w.heap[g]? = some (.cells (ints .i64 l) T (0, 0))) {i : Nat} (hi : i < 32) :
    Gives 43 #[.slice (some ⟨g, 0, none⟩) 32 32, .int .i64 (i : Int)] w (.int .i64 (l.getD i 0 : Nat)) := by
  have hlt : g < w.heap.size := (Array.getElem?_eq_some_iff.1 hg).1
  have hc : ∀ w1, Below w.heap.size w w1 → w1.cell? ⟨g, i, none⟩ = some (.int .i64 (l.getD i 0 : Nat)) := fun w1 hb1 => by
    rw [cell_of_row w1 g i _ _ _ ((hb1.block g hlt).trans hg), ints_get? _ _ _ (by omega)]
  have Hc := Lib.hid hc
  have h1 := Lib.hid (decide_eq_false (show ¬ i < 0 by omega))
  have h2 := Lib.hid (decide_eq_false (show ¬ 32 ≤ i by omega))
  clear hc hg
  have hE0 := Env.nil w
  go_enter Try.func43, Try.ntmps43
  repeat ((fail_if_success with_reducible show wA ..); (fail_if_success with_reducible show wB ..); go_step)
  refine wv (v_moveC (.inr rfl)) ?_
  simp only [Act.put, pA, pB, pC]
  repeat ((fail_if_success with_reducible show wA ..); (fail_if_success with_reducible show wB ..); go_step)
  refine wv (v_moveT (.inl rfl) rfl) ?_
  simp only [Act.put, pA, pB, pC]
  refine wv (v_lss (n := 0) rfl rfl rfl) ?_
  simp only [Act.put, pA, pB, pC]
  rw [h1.out]
  refine wv (v_moveT (.inl rfl) rfl) ?_
  simp only [Act.put, pA, pB, pC]
  refine wv (v_moveT (.inl rfl) rfl) ?_
  simp only [Act.put, pA, pB, pC]
  refine wv (v_moveT (.inl rfl) rfl) ?_
  simp only [Act.put, pA, pB, pC]
  refine wv (v_len rfl rfl Try.underlying35 (by omega)) ?_
  simp only [Act.put, pA, pB, pC]
  refine wv (v_geq rfl rfl rfl) ?_
  simp only [Act.put, pA, pB, pC]
  rw [h2.out]
  refine wv (v_or rfl rfl (fun _ => rfl)) ?_
  simp only [Act.put, pA, pB, pC]
  repeat ((fail_if_success with_reducible show wA ..); (fail_if_success with_reducible show wB ..); (fail_if_success (with_reducible show Code.wp _ (Code.cond _ _ _) _ _ _)); go_step)
  refine wp_cond_false (by first | rfl | exact congrArg Value.bool (decide_eq_false (by omega))) ?_
  skip
  repeat ((fail_if_success with_reducible show wA ..); (fail_if_success with_reducible show wB ..); go_step)
  refine wv (v_moveT (.inl rfl) rfl) ?_
  simp only [Act.put, pA, pB, pC]
  refine wv (v_moveT (.inl rfl) rfl) ?_
  simp only [Act.put, pA, pB, pC]
  refine wv (v_indexS0 rfl rfl rfl Try.underlying35 (by kernel_rfl) (by first | assumption | omega)) ?_
  simp only [Act.put, pA, pB, pC]
  refine wv (v_cell rfl rfl Try.underlying3 rfl (fun w1 hb => Hc.out w1 (hE0.below.trans (hb.mono hE0.below.size)))) ?_
  simp only [Act.put, pA, pB, pC]
  refine wv (v_moveT (.inr rfl) rfl) ?_
  simp only [Act.put, pA, pB, pC]
  repeat ((fail_if_success with_reducible show wA ..); (fail_if_success with_reducible show wB ..); go_step)
  go_returns
  exact ⟨rfl, hE0.below⟩

def stL (l : List Nat) (k : Nat) : List Nat := l.take k ++ List.replicate (32 - k) 0
theorem stL_len {l : List Nat} (hl : l.length = 32) {k : Nat} (hk : k ≤ 32) : (stL l k).length = 32 := by
  unfold stL
  rw [List.length_append, List.length_take, List.length_replicate]
  omega
theorem stL_set {l : List Nat} (hl : l.length = 32) {k : Nat} (hk : k < 32) : (stL l k).set k (l.getD k 0) = stL l (k + 1) := by
  unfold stL
  have h1 : (l.take k).length = k := by rw [List.length_take]; omega
  rw [List.set_append_right _ _ (by omega), h1, Nat.sub_self, show 32 - k = (32 - (k + 1)) + 1 by omega, List.replicate_succ, List.set_cons_zero, List.take_succ_eq_append_getElem (by omega), List.append_assoc]
  rw [List.getD_eq_getElem?_getD, List.getElem?_eq_getElem (by omega)]
  rfl
set_option maxHeartbeats 1000000 in
theorem ordBytes_any {l : List Nat} {g : Nat} {T : TypeId} {w : World} (hl : l.length = 32) (dl : Digs 256 l) (hg : w.heap[g]? = some (.cells (ints .i64 l) T (0, 0))) :
    Gives 16 #[.slice (some ⟨g, 0, none⟩) 32 32] w (.agg (ints .u8 l)) := by
  have hlt : g < w.heap.size := (Array.getElem?_eq_some_iff.1 hg).1
  have hat : ∀ (k : Nat), k < 32 → ∀ (L : List Blk) (w1), Env w L w1 → Gives 43 #[.slice (some ⟨g, 0, none⟩) 32 32, .int .i64 (k : Int)] w1 (.int .i64 (l.getD k 0 : Nat)) := fun k hk L w1 hE => ordAt_any hl ((hE.below.block g hlt).trans hg) hk
  have Hat := Lib.hid hat
  have Hb := Lib.hid (fun i => dl.getD (by decide) i)
  have Hl := Lib.hid hl
  have hz : stL l 0 = List.replicate 32 0 := rfl
  have he : stL l 32 = l := by
    unfold stL
    rw [List.take_of_length_le (by omega)]
    simp
  have He := Lib.hid he
  clear hat hg dl hl he
  have hE0 := Env.nil w
  go_enter Try.func16, Try.ntmps16
  repeat ((fail_if_success with_reducible show wA ..); (fail_if_success with_reducible show wB ..); go_step)
  refine wl_step (st_alloc (zs := ints .u8 (List.replicate 32 0)) hE0 rfl rfl (fun w => by kernel_rfl) ?_)
  intro g0 w1 hb1 hE1
  clear hE0
  simp only [Act.put, pA, pB, pC]
  repeat ((fail_if_success with_reducible show wA ..); (fail_if_success with_reducible show wB ..); go_step)
  refine wl_step (st_alloc (zs := ints .u8 (List.replicate 32 0)) hE1 rfl rfl (fun w => by kernel_rfl) ?_)
  intro g1 w2 hb2 hE2
  clear hE1
  simp only [Act.put, pA, pB, pC]
  repeat ((fail_if_success with_reducible show wA ..); (fail_if_success with_reducible show wB ..); go_step)
  refine wv (v_moveC (.inr rfl)) ?_
  simp only [Act.put, pA, pB, pC]
  rw [← hz] at hE2
  clear hz
  go_wp2
  go_loopw [4] (fun i wr => ∃ k : Nat, k ≤ 32 ∧ i = .int .i64 k ∧ Env w [⟨g1, 22, ints .u8 (stL l k)⟩, ⟨g0, 22, ints .u8 (stL l 0)⟩] wr) (fun i _ => 32 - (intOf i).toNat)
  case atStart => exact ⟨0, by decide, rfl, hE2⟩
  case round =>
    clear hE2
    obtain ⟨k, hk, rfl, hE0⟩ := hrel
    have hsl := stL_len Hl.out hk
    have hs0 := stL_len Hl.out (Nat.zero_le 32)
    by_cases hk32 : k < 32
    · have ha := Hat.out k hk32
      have hb := Hb.out k
      have hs := stL_set Hl.out hk32
      obtain ⟨x, hx⟩ : ∃ x, l.getD k 0 = x := ⟨_, rfl⟩
      rw [hx] at ha hb hs
      have HA := Lib.hid ha
      have HS := Lib.hid hs
      clear ha hs hx
      repeat ((fail_if_success with_reducible show wA ..); (fail_if_success with_reducible show wB ..); go_step)
      refine wv (v_moveT (.inl rfl) rfl) ?_
      simp only [Act.put, pA, pB, pC]
      refine wv (v_lss (n := 32) rfl rfl rfl) ?_
      simp only [Act.put, pA, pB, pC]
      repeat ((fail_if_success with_reducible show wA ..); (fail_if_success with_reducible show wB ..); go_step)
      refine wv (v_moveT (.inl rfl) rfl) ?_
      simp only [Act.put, pA, pB, pC]
      refine wv (v_moveT (.inl rfl) rfl) ?_
      simp only [Act.put, pA, pB, pC]
      refine wv (v_moveT (.inl rfl) rfl) ?_
      simp only [Act.put, pA, pB, pC]
      refine wl_step (st_gives hE0 rfl (run_call rfl Try.call43) (HA.out _ _ hE0) ?_)
      intro w1 hb1 hE1
      clear hE0
      simp only [Act.put, pA, pB, pC]
      refine wv (v_convInt rfl rfl Try.underlying3 Try.underlying5 (by first | exact w_u8 (by omega) | exact w_u8m _)) ?_
      simp only [Act.put, pA, pB, pC]
      refine wv (v_indexA0 rfl rfl rfl Try.underlying22 (by kernel_rfl) (by first | assumption | omega)) ?_
      simp only [Act.put, pA, pB, pC]
      refine wl_step (st_putN (i := 0) hE1 rfl rfl rfl rfl rfl (by kernel_rfl) (by first | assumption | omega | (simp only [List.length_set, List.length_replicate]; first | assumption | omega)) ?_)
      intro w2 hE2
      clear hE1
      simp only [pB, pC] at hE2
      simp only [Act.put, pA, pB, pC]
      rw [HS.out] at hE2
      repeat ((fail_if_success with_reducible show wA ..); (fail_if_success with_reducible show wB ..); go_step)
      refine wv (v_moveT (.inl rfl) rfl) ?_
      simp only [Act.put, pA, pB, pC]
      refine wv (v_add (n := 1) rfl rfl rfl (w_i64 (by omega))) ?_
      simp only [Act.put, pA, pB, pC]
      refine wv (v_moveT (.inr rfl) rfl) ?_
      simp only [Act.put, pA, pB, pC]
      go_wp2
      go_roundw
      case rel => exact ⟨k + 1, by omega, rfl, hE2⟩
      case measure => simp [intOf]; omega
    · have hke : k = 32 := by omega
      subst hke
      rw [He.out] at hE0
      have hl32 := Hl.out
      repeat ((fail_if_success with_reducible show wA ..); (fail_if_success with_reducible show wB ..); go_step)
      refine wv (v_moveT (.inl rfl) rfl) ?_
      simp only [Act.put, pA, pB, pC]
      refine wv (v_lss (n := 32) rfl rfl rfl) ?_
      simp only [Act.put, pA, pB, pC]
      repeat ((fail_if_success with_reducible show wA ..); (fail_if_success with_reducible show wB ..); go_step)
      refine wv (v_load (i := 0) hE0 rfl rfl rfl Try.underlying22 rfl (szA (n := 32))) ?_
      simp only [Act.put, pA, pB, pC]
      refine wl_step (st_store (i := 1) hE0 rfl rfl rfl rfl rfl (szA (n := 32)) (by first | (simp only [ints_size, digs_length, List.length_replicate, List.length_cons, List.length_nil]; done) | (simp only [ints_size, digs_length, List.length_replicate, List.length_cons, List.length_nil, List.length_set, List.length_append]; omega) | rfl) (by first | exact ints_one _ _ | decide | simp [*]) ?_)
      intro w1 hE1
      clear hE0
      simp only [pB, pC] at hE1
      simp only [Act.put, pA, pB, pC]
      repeat ((fail_if_success with_reducible show wA ..); (fail_if_success with_reducible show wB ..); go_step)
      refine bodyPost_ret (results_cell_row rfl _ _ _ _ _ (0, 0) _ rfl (hE1.get (i := 1) rfl) Try.underlying22 rfl (szA (n := 32))) rfl ⟨rfl, hE1.below⟩
end Go.Proofs.Ytmebjoehmheknaa
namespace Go.Proofs.Ytmebjoehmheknaa
open Go.RowKit
set_option linter.unusedVariables false
set_option linter.unusedSimpArgs false

theorem encB_len (P : Pt) : (encB P).length = 32 := digs_length _ _ _
theorem encB_Digs (P : Pt) : Digs 256 (encB P) := digs_Digs (by decide) _ _
theorem encB_val (P : Pt) : val 256 (encB P) = encN P := by
  unfold encB
  rw [val_digs]
  exact Nat.mod_eq_of_lt (encN_lt P)
theorem encB_inj {P Q : Pt} (h : encB P = encB Q) : P = Q := encN_inj (by rw [← encB_val, h, encB_val])
theorem encB_iff {P Q : Pt} : decide (encB P = encB Q) = decide (P = Q) := decide_eq_decide.2 ⟨encB_inj, fun h => by rw [h]⟩
theorem encN_base : encN baseP = bY := by
  have e1 : baseP.x.val = bX := kk_val bX_lt
  have e2 : baseP.y.val = bY := kk_val bY_lt
  have h : bY + 57896044618658097711785492504343953926634992332820282019728792003956564819968 * (bX % 2) = bY := by kernel_rfl
  unfold encN
  rw [e1, e2]
  exact h
theorem base0 : (encB baseP).getD 0 0 = 88 := by
  unfold encB
  rw [digs_getD _ _ _ _ (by decide), encN_base]
  kernel_rfl
theorem base_ne : baseP ≠ pzero := fun h => by
  have e2 : baseP.y.val = bY := kk_val bY_lt
  rw [h] at e2
  have e3 : pzero.y.val = 1 := kk_val (a := 1) (by decide)
  rw [e3] at e2
  exact absurd e2 (of_decide_eq_true (by kernel_rfl))
theorem dbl_two (P : Pt) : smul 2 P = padd P P := by
  show padd (smul 1 P) P = padd P P
  rw [smul_one]

def twoB : List Nat := [2, 0, 0, 0, 0, 0, 0, 0, 0, 0, 0, 0, 0, 0, 0, 0, 0, 0, 0, 0, 0, 0, 0, 0, 0, 0, 0, 0, 0, 0, 0, 0]
set_option maxHeartbeats 4000000 in
theorem awake_any (w : World) : Gives 18 #[] w (.bool true) := by
  obtain ⟨g, hg, Gg⟩ := PBase_any
  obtain ⟨t, ht, Gt⟩ := PMul_any hg (b := twoB) rfl (by unfold Digs twoB; decide)
  obtain ⟨d, hd, Gd⟩ := PDouble_any hg
  have e2 : val 256 twoB = 2 := by decide
  rw [e2, dbl_two] at ht
  have hS1 := fun w => PSame_any ht hd w
  rw [decide_eq_true rfl] at hS1
  have hS2 := fun w => PSame_any hg PRep_zero w
  rw [decide_eq_false base_ne] at hS2
  have hB := fun w => PBytes_any hg w
  have lB := encB_len baseP
  have h0 := base0
  obtain ⟨B, hBe⟩ : ∃ B, encB baseP = B := ⟨_, rfl⟩
  rw [hBe] at hB lB h0
  have lg := hg.len
  have lt := ht.len
  have ld := hd.len
  have HG := Lib.hid Gg
  have HT := Lib.hid Gt
  have HD := Lib.hid Gd
  have S1 := Lib.hid hS1
  have S2 := Lib.hid hS2
  have HB := Lib.hid hB
  have H0 := Lib.hid h0
  clear Gg Gt Gd hS1 hS2 hB h0 hBe hg ht hd e2
  have hE0 := Env.nil w
  go_enter Try.func18, Try.ntmps18
  repeat ((fail_if_success with_reducible show wA ..); (fail_if_success with_reducible show wB ..); go_step)
  refine wv (v_moveC (.inr rfl)) ?_
  simp only [Act.put, pA, pB, pC]
  repeat ((fail_if_success with_reducible show wA ..); (fail_if_success with_reducible show wB ..); go_step)
  refine wl_step (st_gives hE0 rfl (run_call rfl Try.call8) (HG.out _) ?_)
  intro w1 hb1 hE1
  clear hE0
  simp only [Act.put, pA, pB, pC]
  refine wl_step (st_alloc (zs := ints .u64 (List.replicate 20 0)) hE1 rfl rfl (fun w => by kernel_rfl) ?_)
  intro g0 w2 hb2 hE2
  clear hE1
  simp only [Act.put, pA, pB, pC]
  refine wl_step (st_store (i := 0) hE2 rfl rfl rfl rfl rfl (szA (n := 20)) (by first | (simp only [ints_size, digs_length, List.length_replicate, List.length_cons, List.length_nil]; done) | (simp only [ints_size, digs_length, List.length_replicate, List.length_cons, List.length_nil, List.length_set, List.length_append]; omega) | rfl) (by first | exact ints_one _ _ | decide | simp [*]) ?_)
  intro w3 hE3
  clear hE2
  simp only [pB, pC] at hE3
  simp only [Act.put, pA, pB, pC]
  repeat ((fail_if_success with_reducible show wA ..); (fail_if_success with_reducible show wB ..); go_step)
  refine wp_region_B (n := 19) 18 (by kernel_rfl) rfl hE3 ?_
  intro w4 hb4 hE4
  clear hE3
  refine wpB_take (i := 0) (by kernel_rfl) rfl (by kernel_rfl) (fun _ _ _ h => h) rfl (v_load (i := 0) hE4 rfl rfl rfl Try.underlying28 rfl (szA (n := 20))) ?_
  simp only [Act.put, pA, pB, pC]
  refine wpB_take (i := 1) (by kernel_rfl) rfl (by kernel_rfl) (fun _ _ _ h => h) rfl (v_built (k := .u8) (l := twoB) rfl (fun w => by kernel_rfl)) ?_
  simp only [Act.put, pA, pB, pC]
  refine wpB_take (i := 3) (by kernel_rfl) rfl (by kernel_rfl) (fun _ _ _ h => h) rfl (v_load (i := 0) hE4 rfl rfl rfl Try.underlying28 rfl (szA (n := 20))) ?_
  simp only [Act.put, pA, pB, pC]
  refine wpB_step (i := 2) (by kernel_rfl) rfl (st_gives hE4 rfl (run_call rfl Try.call9) (HT.out _) ?_)
  intro w5 hb5 hE5
  clear hE4
  refine ⟨fun _ => hb5, ?_⟩
  simp only [Act.put, pA, pB, pC]
  refine wpB_step (i := 4) (by kernel_rfl) rfl (st_gives hE5 rfl (run_call rfl Try.call14) (HD.out _) ?_)
  intro w6 hb6 hE6
  clear hE5
  refine ⟨fun _ => hb6, ?_⟩
  simp only [Act.put, pA, pB, pC]
  refine wpB_step (i := 5) (by kernel_rfl) rfl (st_gives hE6 rfl (run_call rfl Try.call11) (S1.out _) ?_)
  intro w7 hb7 hE7
  clear hE6
  refine ⟨fun _ => hb7, ?_⟩
  simp only [Act.put, pA, pB, pC]
  refine wpB_take (i := 6) (by kernel_rfl) rfl (by kernel_rfl) (fun _ _ _ h => h) rfl (v_moveT (.inl rfl) rfl) ?_
  simp only [Act.put, pA, pB, pC]
  refine wpB_take (i := 7) (by kernel_rfl) rfl (by kernel_rfl) (fun _ _ _ h => h) rfl (v_load (i := 0) hE7 rfl rfl rfl Try.underlying28 rfl (szA (n := 20))) ?_
  simp only [Act.put, pA, pB, pC]
  refine wpB_step (i := 8) (by kernel_rfl) rfl (st_gives hE7 rfl (run_call rfl Try.call15) (HB.out _) ?_)
  intro w8 hb8 hE8
  clear hE7
  refine ⟨fun _ => hb8, ?_⟩
  simp only [Act.put, pA, pB, pC]
  refine wpB_take (i := 9) (by kernel_rfl) rfl (by kernel_rfl) (fun _ _ _ h => h) rfl (v_idx (j := 0) rfl rfl rfl Try.underlying22 (by kernel_rfl : _ = some Try.t5) rfl Try.underlying5 (by first | assumption | simp) (by first | assumption | omega)) ?_
  simp only [Act.put, pA, pB, pC]
  rw [H0.out]
  refine wpB_take (i := 10) (by kernel_rfl) rfl (by kernel_rfl) (fun _ _ _ h => h) rfl (v_eql (n := 88) rfl rfl rfl) ?_
  simp only [Act.put, pA, pB, pC]
  refine wpB_take (i := 11) (by kernel_rfl) rfl (by kernel_rfl) (fun _ _ _ h => h) rfl (v_and rfl rfl (fun _ => rfl)) ?_
  simp only [Act.put, pA, pB, pC]
  refine wpB_take (i := 12) (by kernel_rfl) rfl (by kernel_rfl) (fun _ _ _ h => h) rfl (v_moveT (.inl rfl) rfl) ?_
  simp only [Act.put, pA, pB, pC]
  refine wpB_take (i := 13) (by kernel_rfl) rfl (by kernel_rfl) (fun _ _ _ h => h) rfl (v_load (i := 0) hE8 rfl rfl rfl Try.underlying28 rfl (szA (n := 20))) ?_
  simp only [Act.put, pA, pB, pC]
  refine wpB_step (i := 14) (by kernel_rfl) rfl (st_gives hE8 rfl (run_call rfl Try.call12) (PZero_any _) ?_)
  intro w9 hb9 hE9
  clear hE8
  refine ⟨fun _ => hb9, ?_⟩
  simp only [Act.put, pA, pB, pC]
  refine wpB_step (i := 15) (by kernel_rfl) rfl (st_gives hE9 rfl (run_call rfl Try.call11) (S2.out _) ?_)
  intro w10 hb10 hE10
  clear hE9
  refine ⟨fun _ => hb10, ?_⟩
  simp only [Act.put, pA, pB, pC]
  refine wpB_take (i := 16) (by kernel_rfl) rfl (by kernel_rfl) (fun _ _ _ h => h) rfl (v_not rfl rfl) ?_
  simp only [Act.put, pA, pB, pC]
  refine wpB_take (i := 17) (by kernel_rfl) rfl (by kernel_rfl) (fun _ _ _ h => h) rfl (v_and rfl rfl (fun _ => rfl)) ?_
  simp only [Act.put, pA, pB, pC]
  refine wpB_step (i := 18) (by kernel_rfl) rfl (st_val rfl (v_moveT (.inr rfl) rfl) ?_)
  refine ⟨fun _ => Below.refl _ _, ?_⟩
  simp only [Act.put, pA, pB, pC]
  refine wpB_done (by kernel_rfl) ?_ _
  repeat ((fail_if_success with_reducible show wA ..); (fail_if_success with_reducible show wB ..); go_step)
  go_returns
  exact ⟨rfl, hE10.below⟩

set_option maxRecDepth 100000 in
set_option maxHeartbeats 16000000 in
theorem curveGroup_walk (a b c : List Nat) (ha : a.length = 32) (hb : b.length = 32) (hc : c.length = 32) (da : Digs 256 a) (db : Digs 256 b) (dc : Digs 256 c) (w : World) :
    Gives 3 #[.agg (ints .u8 a), .agg (ints .u8 b), .agg (ints .u8 c)] w (.bool true) := by
  obtain ⟨g, hg, Gg⟩ := PBase_any
  obtain ⟨p, hp, Gp⟩ := PMul_any hg ha da
  obtain ⟨q, hq, Gq⟩ := PMul_any hg hb db
  obtain ⟨r, hr, Gr⟩ := PMul_any hg hc dc
  obtain ⟨P, hPe⟩ : ∃ P, smul (val 256 a) baseP = P := ⟨_, rfl⟩
  obtain ⟨Q, hQe⟩ : ∃ Q, smul (val 256 b) baseP = Q := ⟨_, rfl⟩
  obtain ⟨R, hRe⟩ : ∃ R, smul (val 256 c) baseP = R := ⟨_, rfl⟩
  have hcm : smul (val 256 a) Q = smul (val 256 b) P := by rw [← hPe, ← hQe, smul_comm]
  rw [hPe] at hp
  rw [hQe] at hq
  rw [hRe] at hr
  obtain ⟨x1, hx1, Gx1⟩ := PAdd_any hp hq
  obtain ⟨x2, hx2, Gx2⟩ := PAdd_any hq hp
  obtain ⟨x3, hx3, Gx3⟩ := PAdd_any hx1 hr
  obtain ⟨x4, hx4, Gx4⟩ := PAdd_any hq hr
  obtain ⟨x5, hx5, Gx5⟩ := PAdd_any hp hx4
  obtain ⟨x6, hx6, Gx6⟩ := PAdd_any hp PRep_zero
  obtain ⟨np, hnp, Gnp⟩ := PNeg_any hp
  obtain ⟨x7, hx7, Gx7⟩ := PAdd_any hp hnp
  obtain ⟨x8, hx8, Gx8⟩ := PAdd_any hp hp
  obtain ⟨dp, hdp, Gdp⟩ := PDouble_any hp
  obtain ⟨m1, hm1, Gm1⟩ := PMul_any hq ha da
  obtain ⟨m2, hm2, Gm2⟩ := PMul_any hp hb db
  obtain ⟨m3, hm3, Gm3⟩ := PMul_any hg (b := ordD) rfl ordD_Digs
  rw [ordD_val, ord_base] at hm3
  have hS1 := fun w => PSame_any hx1 hx2 w
  rw [decide_eq_true (padd_comm P Q)] at hS1
  have hS2 := fun w => PSame_any hx3 hx5 w
  rw [decide_eq_true (padd_assoc P Q R)] at hS2
  have hS3 := fun w => PSame_any hx6 hp w
  rw [decide_eq_true (padd_zero P)] at hS3
  have hS4 := fun w => PSame_any hx7 PRep_zero w
  rw [decide_eq_true (padd_neg P)] at hS4
  have hS5 := fun w => PSame_any hx8 hdp w
  rw [decide_eq_true rfl] at hS5
  have hS6 := fun w => PSame_any hp hq w
  have hS7 := fun w => PSame_any hm1 hm2 w
  rw [decide_eq_true hcm] at hS7
  have hS8 := fun w => PSame_any hm3 PRep_zero w
  rw [decide_eq_true rfl] at hS8
  have hB1 := fun w => PBytes_any hp w
  have hB2 := fun w => PBytes_any hq w
  have hbe : decide (encB P = encB Q) = decide (P = Q) := encB_iff
  have lb1 := encB_len P
  have lb2 := encB_len Q
  obtain ⟨t, ht⟩ : ∃ t, decide (P = Q) = t := ⟨_, rfl⟩
  obtain ⟨b1, hb1⟩ : ∃ b, encB P = b := ⟨_, rfl⟩
  obtain ⟨b2, hb2⟩ : ∃ b, encB Q = b := ⟨_, rfl⟩
  rw [ht] at hS6 hbe
  rw [hb1] at hbe hB1 lb1
  rw [hb2] at hbe hB2 lb2
  have lg := hg.len
  have Hg := Lib.hid Gg
  clear Gg
  have lp := hp.len
  have Hp := Lib.hid Gp
  clear Gp
  have lq := hq.len
  have Hq := Lib.hid Gq
  clear Gq
  have lr := hr.len
  have Hr := Lib.hid Gr
  clear Gr
  have lx1 := hx1.len
  have Hx1 := Lib.hid Gx1
  clear Gx1
  have lx2 := hx2.len
  have Hx2 := Lib.hid Gx2
  clear Gx2
  have lx3 := hx3.len
  have Hx3 := Lib.hid Gx3
  clear Gx3
  have lx4 := hx4.len
  have Hx4 := Lib.hid Gx4
  clear Gx4
  have lx5 := hx5.len
  have Hx5 := Lib.hid Gx5
  clear Gx5
  have lx6 := hx6.len
  have Hx6 := Lib.hid Gx6
  clear Gx6
  have lx7 := hx7.len
  have Hx7 := Lib.hid Gx7
  clear Gx7
  have lx8 := hx8.len
  have Hx8 := Lib.hid Gx8
  clear Gx8
  have lnp := hnp.len
  have Hnp := Lib.hid Gnp
  clear Gnp
  have ldp := hdp.len
  have Hdp := Lib.hid Gdp
  clear Gdp
  have lm1 := hm1.len
  have Hm1 := Lib.hid Gm1
  clear Gm1
  have lm2 := hm2.len
  have Hm2 := Lib.hid Gm2
  clear Gm2
  have lm3 := hm3.len
  have Hm3 := Lib.hid Gm3
  clear Gm3
  have HS1 := Lib.hid hS1
  clear hS1
  have HS2 := Lib.hid hS2
  clear hS2
  have HS3 := Lib.hid hS3
  clear hS3
  have HS4 := Lib.hid hS4
  clear hS4
  have HS5 := Lib.hid hS5
  clear hS5
  have HS6 := Lib.hid hS6
  clear hS6
  have HS7 := Lib.hid hS7
  clear hS7
  have HS8 := Lib.hid hS8
  clear hS8
  have HB1 := Lib.hid hB1
  clear hB1
  have HB2 := Lib.hid hB2
  clear hB2
  have HE := Lib.hid hbe
  have HQ := Lib.hid (fun w => ordQ_any w)
  clear hbe ht hb1 hb2 hcm hPe hQe hRe hg hp hq hr hx1 hx2 hx3 hx4 hx5 hx6 hx7 hx8 hnp hdp hm1 hm2 hm3 da db dc
  have hE0 := Env.nil w
  go_enter Try.func3, Try.ntmps3
  repeat ((fail_if_success with_reducible show wA ..); (fail_if_success with_reducible show wB ..); go_step)
  refine wl_step (st_boxA hE0 rfl rfl rfl ?_)
  intro g0 w1 hb1 hE1
  clear hE0
  simp only [Act.put, pA, pB, pC]
  refine wl_step (st_boxA hE1 rfl rfl rfl ?_)
  intro g1 w2 hb2 hE2
  clear hE1
  simp only [Act.put, pA, pB, pC]
  refine wl_step (st_boxA hE2 rfl rfl rfl ?_)
  intro g2 w3 hb3 hE3
  clear hE2
  simp only [Act.put, pA, pB, pC]
  refine wv (v_moveC (.inr rfl)) ?_
  simp only [Act.put, pA, pB, pC]
  repeat ((fail_if_success with_reducible show wA ..); (fail_if_success with_reducible show wB ..); go_step)
  refine wl_step (st_gives hE3 rfl (run_call rfl Try.call8) (Hg.out _) ?_)
  intro w4 hb4 hE4
  clear hE3
  simp only [Act.put, pA, pB, pC]
  refine wl_step (st_alloc (zs := ints .u64 (List.replicate 20 0)) hE4 rfl rfl (fun w => by kernel_rfl) ?_)
  intro g3 w5 hb5 hE5
  clear hE4
  simp only [Act.put, pA, pB, pC]
  refine wl_step (st_store (i := 0) hE5 rfl rfl rfl rfl rfl (szA (n := 20)) (by first | (simp only [ints_size, digs_length, List.length_replicate, List.length_cons, List.length_nil]; done) | (simp only [ints_size, digs_length, List.length_replicate, List.length_cons, List.length_nil, List.length_set, List.length_append]; omega) | rfl) (by first | exact ints_one _ _ | decide | simp [*]) ?_)
  intro w6 hE6
  clear hE5
  simp only [pB, pC] at hE6
  simp only [Act.put, pA, pB, pC]
  repeat ((fail_if_success with_reducible show wA ..); (fail_if_success with_reducible show wB ..); go_step)
  refine wp_region_env 12 (by kernel_rfl) (by kernel_rfl) (fun _ _ d _ _ h => by cases d <;> exact h) hE6 ?_
  refine hv (fun _ hW => (v_load (i := 0) hW rfl rfl rfl Try.underlying28 rfl (szA (n := 20)))) ?_
  simp only [Act.put, pA, pB, pC]
  refine hv (fun _ hW => (v_load (i := 3) hW rfl rfl rfl Try.underlying22 rfl (szA (n := 32)))) ?_
  simp only [Act.put, pA, pB, pC]
  refine headRun_call (fun w1 => run_call rfl Try.call9) (fun w1 hW => Hp.out _) ?_
  simp only [Act.put, pA, pB, pC]
  refine hv (fun _ hW => (v_load (i := 0) hW rfl rfl rfl Try.underlying28 rfl (szA (n := 20)))) ?_
  simp only [Act.put, pA, pB, pC]
  refine hv (fun _ hW => (v_load (i := 2) hW rfl rfl rfl Try.underlying22 rfl (szA (n := 32)))) ?_
  simp only [Act.put, pA, pB, pC]
  refine headRun_call (fun w1 => run_call rfl Try.call9) (fun w1 hW => Hq.out _) ?_
  simp only [Act.put, pA, pB, pC]
  refine hv (fun _ hW => (v_load (i := 0) hW rfl rfl rfl Try.underlying28 rfl (szA (n := 20)))) ?_
  simp only [Act.put, pA, pB, pC]
  refine hv (fun _ hW => (v_load (i := 1) hW rfl rfl rfl Try.underlying22 rfl (szA (n := 32)))) ?_
  simp only [Act.put, pA, pB, pC]
  refine headRun_call (fun w1 => run_call rfl Try.call9) (fun w1 hW => Hr.out _) ?_
  simp only [Act.put, pA, pB, pC]
  refine headRun_alloc (zs := ints .u64 (List.replicate 20 0)) rfl rfl (fun w => by kernel_rfl) ?_
  simp only [Act.put, pA, pB, pC]
  refine headRun_alloc (zs := ints .u64 (List.replicate 20 0)) rfl rfl (fun w => by kernel_rfl) ?_
  simp only [Act.put, pA, pB, pC]
  refine headRun_alloc (zs := ints .u64 (List.replicate 20 0)) rfl rfl (fun w => by kernel_rfl) ?_
  simp only [Act.put, pA, pB, pC]
  refine headRun_nil (endK3 ?_)
  intro g4 g5 g6 w7 hE7
  clear hE6
  simp only [List.drop_succ_cons, List.drop_zero, Act.put, pA, pB, pC]
  refine wl_step (st_store (i := 0) hE7 rfl rfl rfl rfl rfl (szA (n := 20)) (by first | (simp only [ints_size, digs_length, List.length_replicate, List.length_cons, List.length_nil]; done) | (simp only [ints_size, digs_length, List.length_replicate, List.length_cons, List.length_nil, List.length_set, List.length_append]; omega) | rfl) (by first | exact ints_one _ _ | decide | simp [*]) ?_)
  intro w8 hE8
  clear hE7
  simp only [pB, pC] at hE8
  simp only [Act.put, pA, pB, pC]
  refine wl_step (st_store (i := 1) hE8 rfl rfl rfl rfl rfl (szA (n := 20)) (by first | (simp only [ints_size, digs_length, List.length_replicate, List.length_cons, List.length_nil]; done) | (simp only [ints_size, digs_length, List.length_replicate, List.length_cons, List.length_nil, List.length_set, List.length_append]; omega) | rfl) (by first | exact ints_one _ _ | decide | simp [*]) ?_)
  intro w9 hE9
  clear hE8
  simp only [pB, pC] at hE9
  simp only [Act.put, pA, pB, pC]
  refine wl_step (st_store (i := 2) hE9 rfl rfl rfl rfl rfl (szA (n := 20)) (by first | (simp only [ints_size, digs_length, List.length_replicate, List.length_cons, List.length_nil]; done) | (simp only [ints_size, digs_length, List.length_replicate, List.length_cons, List.length_nil, List.length_set, List.length_append]; omega) | rfl) (by first | exact ints_one _ _ | decide | simp [*]) ?_)
  intro w10 hE10
  clear hE9
  simp only [pB, pC] at hE10
  simp only [Act.put, pA, pB, pC]
  repeat ((fail_if_success with_reducible show wA ..); (fail_if_success with_reducible show wB ..); go_step)
  refine wp_region_B (n := 48) 48 (by kernel_rfl) rfl hE10 ?_
  intro w11 hb11 hE11
  clear hE10
  refine wpB_take (i := 0) (by kernel_rfl) rfl (by kernel_rfl) (fun _ _ _ h => h) rfl (v_load (i := 0) hE11 rfl rfl rfl Try.underlying28 rfl (szA (n := 20))) ?_
  simp only [Act.put, pA, pB, pC]
  refine wpB_take (i := 1) (by kernel_rfl) rfl (by kernel_rfl) (fun _ _ _ h => h) rfl (v_load (i := 1) hE11 rfl rfl rfl Try.underlying28 rfl (szA (n := 20))) ?_
  simp only [Act.put, pA, pB, pC]
  refine wpB_take (i := 3) (by kernel_rfl) rfl (by kernel_rfl) (fun _ _ _ h => h) rfl (v_load (i := 1) hE11 rfl rfl rfl Try.underlying28 rfl (szA (n := 20))) ?_
  simp only [Act.put, pA, pB, pC]
  refine wpB_take (i := 4) (by kernel_rfl) rfl (by kernel_rfl) (fun _ _ _ h => h) rfl (v_load (i := 0) hE11 rfl rfl rfl Try.underlying28 rfl (szA (n := 20))) ?_
  simp only [Act.put, pA, pB, pC]
  refine wpB_step (i := 2) (by kernel_rfl) rfl (st_gives hE11 rfl (run_call rfl Try.call10) (Hx1.out _) ?_)
  intro w12 hb12 hE12
  clear hE11
  refine ⟨fun _ => hb12, ?_⟩
  simp only [Act.put, pA, pB, pC]
  refine wpB_step (i := 5) (by kernel_rfl) rfl (st_gives hE12 rfl (run_call rfl Try.call10) (Hx2.out _) ?_)
  intro w13 hb13 hE13
  clear hE12
  refine ⟨fun _ => hb13, ?_⟩
  simp only [Act.put, pA, pB, pC]
  refine wpB_step (i := 6) (by kernel_rfl) rfl (st_gives hE13 rfl (run_call rfl Try.call11) (HS1.out _) ?_)
  intro w14 hb14 hE14
  clear hE13
  refine ⟨fun _ => hb14, ?_⟩
  simp only [Act.put, pA, pB, pC]
  refine wpB_take (i := 7) (by kernel_rfl) rfl (by kernel_rfl) (fun _ _ _ h => h) rfl (v_not rfl rfl) ?_
  simp only [Act.put, pA, pB, pC]
  refine wpB_take (i := 8) (by kernel_rfl) rfl (by kernel_rfl) (fun _ _ _ h => h) rfl (v_moveT (.inl rfl) rfl) ?_
  simp only [Act.put, pA, pB, pC]
  refine wpB_take (i := 9) (by kernel_rfl) rfl (by kernel_rfl) (fun _ _ _ h => h) rfl (v_load (i := 0) hE14 rfl rfl rfl Try.underlying28 rfl (szA (n := 20))) ?_
  simp only [Act.put, pA, pB, pC]
  refine wpB_take (i := 10) (by kernel_rfl) rfl (by kernel_rfl) (fun _ _ _ h => h) rfl (v_load (i := 1) hE14 rfl rfl rfl Try.underlying28 rfl (szA (n := 20))) ?_
  simp only [Act.put, pA, pB, pC]
  refine wpB_take (i := 12) (by kernel_rfl) rfl (by kernel_rfl) (fun _ _ _ h => h) rfl (v_load (i := 2) hE14 rfl rfl rfl Try.underlying28 rfl (szA (n := 20))) ?_
  simp only [Act.put, pA, pB, pC]
  refine wpB_take (i := 14) (by kernel_rfl) rfl (by kernel_rfl) (fun _ _ _ h => h) rfl (v_load (i := 0) hE14 rfl rfl rfl Try.underlying28 rfl (szA (n := 20))) ?_
  simp only [Act.put, pA, pB, pC]
  refine wpB_take (i := 15) (by kernel_rfl) rfl (by kernel_rfl) (fun _ _ _ h => h) rfl (v_load (i := 1) hE14 rfl rfl rfl Try.underlying28 rfl (szA (n := 20))) ?_
  simp only [Act.put, pA, pB, pC]
  refine wpB_take (i := 16) (by kernel_rfl) rfl (by kernel_rfl) (fun _ _ _ h => h) rfl (v_load (i := 2) hE14 rfl rfl rfl Try.underlying28 rfl (szA (n := 20))) ?_
  simp only [Act.put, pA, pB, pC]
  refine wpB_step (i := 11) (by kernel_rfl) rfl (st_gives hE14 rfl (run_call rfl Try.call10) (Hx1.out _) ?_)
  intro w15 hb15 hE15
  clear hE14
  refine ⟨fun _ => hb15, ?_⟩
  simp only [Act.put, pA, pB, pC]
  refine wpB_step (i := 13) (by kernel_rfl) rfl (st_gives hE15 rfl (run_call rfl Try.call10) (Hx3.out _) ?_)
  intro w16 hb16 hE16
  clear hE15
  refine ⟨fun _ => hb16, ?_⟩
  simp only [Act.put, pA, pB, pC]
  refine wpB_step (i := 17) (by kernel_rfl) rfl (st_gives hE16 rfl (run_call rfl Try.call10) (Hx4.out _) ?_)
  intro w17 hb17 hE17
  clear hE16
  refine ⟨fun _ => hb17, ?_⟩
  simp only [Act.put, pA, pB, pC]
  refine wpB_step (i := 18) (by kernel_rfl) rfl (st_gives hE17 rfl (run_call rfl Try.call10) (Hx5.out _) ?_)
  intro w18 hb18 hE18
  clear hE17
  refine ⟨fun _ => hb18, ?_⟩
  simp only [Act.put, pA, pB, pC]
  refine wpB_step (i := 19) (by kernel_rfl) rfl (st_gives hE18 rfl (run_call rfl Try.call11) (HS2.out _) ?_)
  intro w19 hb19 hE19
  clear hE18
  refine ⟨fun _ => hb19, ?_⟩
  simp only [Act.put, pA, pB, pC]
  refine wpB_take (i := 20) (by kernel_rfl) rfl (by kernel_rfl) (fun _ _ _ h => h) rfl (v_not rfl rfl) ?_
  simp only [Act.put, pA, pB, pC]
  refine wpB_take (i := 21) (by kernel_rfl) rfl (by kernel_rfl) (fun _ _ _ h => h) rfl (v_or rfl rfl (fun _ => rfl)) ?_
  simp only [Act.put, pA, pB, pC]
  refine wpB_take (i := 22) (by kernel_rfl) rfl (by kernel_rfl) (fun _ _ _ h => h) rfl (v_moveT (.inl rfl) rfl) ?_
  simp only [Act.put, pA, pB, pC]
  refine wpB_take (i := 23) (by kernel_rfl) rfl (by kernel_rfl) (fun _ _ _ h => h) rfl (v_load (i := 0) hE19 rfl rfl rfl Try.underlying28 rfl (szA (n := 20))) ?_
  simp only [Act.put, pA, pB, pC]
  refine wpB_take (i := 26) (by kernel_rfl) rfl (by kernel_rfl) (fun _ _ _ h => h) rfl (v_load (i := 0) hE19 rfl rfl rfl Try.underlying28 rfl (szA (n := 20))) ?_
  simp only [Act.put, pA, pB, pC]
  refine wpB_step (i := 24) (by kernel_rfl) rfl (st_gives hE19 rfl (run_call rfl Try.call12) (PZero_any _) ?_)
  intro w20 hb20 hE20
  clear hE19
  refine ⟨fun _ => hb20, ?_⟩
  simp only [Act.put, pA, pB, pC]
  refine wpB_step (i := 25) (by kernel_rfl) rfl (st_gives hE20 rfl (run_call rfl Try.call10) (Hx6.out _) ?_)
  intro w21 hb21 hE21
  clear hE20
  refine ⟨fun _ => hb21, ?_⟩
  simp only [Act.put, pA, pB, pC]
  refine wpB_step (i := 27) (by kernel_rfl) rfl (st_gives hE21 rfl (run_call rfl Try.call11) (HS3.out _) ?_)
  intro w22 hb22 hE22
  clear hE21
  refine ⟨fun _ => hb22, ?_⟩
  simp only [Act.put, pA, pB, pC]
  refine wpB_take (i := 28) (by kernel_rfl) rfl (by kernel_rfl) (fun _ _ _ h => h) rfl (v_not rfl rfl) ?_
  simp only [Act.put, pA, pB, pC]
  refine wpB_take (i := 29) (by kernel_rfl) rfl (by kernel_rfl) (fun _ _ _ h => h) rfl (v_or rfl rfl (fun _ => rfl)) ?_
  simp only [Act.put, pA, pB, pC]
  refine wpB_take (i := 30) (by kernel_rfl) rfl (by kernel_rfl) (fun _ _ _ h => h) rfl (v_moveT (.inl rfl) rfl) ?_
  simp only [Act.put, pA, pB, pC]
  refine wpB_take (i := 31) (by kernel_rfl) rfl (by kernel_rfl) (fun _ _ _ h => h) rfl (v_load (i := 0) hE22 rfl rfl rfl Try.underlying28 rfl (szA (n := 20))) ?_
  simp only [Act.put, pA, pB, pC]
  refine wpB_take (i := 32) (by kernel_rfl) rfl (by kernel_rfl) (fun _ _ _ h => h) rfl (v_load (i := 0) hE22 rfl rfl rfl Try.underlying28 rfl (szA (n := 20))) ?_
  simp only [Act.put, pA, pB, pC]
  refine wpB_step (i := 33) (by kernel_rfl) rfl (st_gives hE22 rfl (run_call rfl Try.call13) (Hnp.out _) ?_)
  intro w23 hb23 hE23
  clear hE22
  refine ⟨fun _ => hb23, ?_⟩
  simp only [Act.put, pA, pB, pC]
  refine wpB_step (i := 34) (by kernel_rfl) rfl (st_gives hE23 rfl (run_call rfl Try.call10) (Hx7.out _) ?_)
  intro w24 hb24 hE24
  clear hE23
  refine ⟨fun _ => hb24, ?_⟩
  simp only [Act.put, pA, pB, pC]
  refine wpB_step (i := 35) (by kernel_rfl) rfl (st_gives hE24 rfl (run_call rfl Try.call12) (PZero_any _) ?_)
  intro w25 hb25 hE25
  clear hE24
  refine ⟨fun _ => hb25, ?_⟩
  simp only [Act.put, pA, pB, pC]
  refine wpB_step (i := 36) (by kernel_rfl) rfl (st_gives hE25 rfl (run_call rfl Try.call11) (HS4.out _) ?_)
  intro w26 hb26 hE26
  clear hE25
  refine ⟨fun _ => hb26, ?_⟩
  simp only [Act.put, pA, pB, pC]
  refine wpB_take (i := 37) (by kernel_rfl) rfl (by kernel_rfl) (fun _ _ _ h => h) rfl (v_not rfl rfl) ?_
  simp only [Act.put, pA, pB, pC]
  refine wpB_take (i := 38) (by kernel_rfl) rfl (by kernel_rfl) (fun _ _ _ h => h) rfl (v_or rfl rfl (fun _ => rfl)) ?_
  simp only [Act.put, pA, pB, pC]
  refine wpB_take (i := 39) (by kernel_rfl) rfl (by kernel_rfl) (fun _ _ _ h => h) rfl (v_moveT (.inl rfl) rfl) ?_
  simp only [Act.put, pA, pB, pC]
  refine wpB_take (i := 40) (by kernel_rfl) rfl (by kernel_rfl) (fun _ _ _ h => h) rfl (v_load (i := 0) hE26 rfl rfl rfl Try.underlying28 rfl (szA (n := 20))) ?_
  simp only [Act.put, pA, pB, pC]
  refine wpB_take (i := 41) (by kernel_rfl) rfl (by kernel_rfl) (fun _ _ _ h => h) rfl (v_load (i := 0) hE26 rfl rfl rfl Try.underlying28 rfl (szA (n := 20))) ?_
  simp only [Act.put, pA, pB, pC]
  refine wpB_take (i := 43) (by kernel_rfl) rfl (by kernel_rfl) (fun _ _ _ h => h) rfl (v_load (i := 0) hE26 rfl rfl rfl Try.underlying28 rfl (szA (n := 20))) ?_
  simp only [Act.put, pA, pB, pC]
  refine wpB_step (i := 42) (by kernel_rfl) rfl (st_gives hE26 rfl (run_call rfl Try.call10) (Hx8.out _) ?_)
  intro w27 hb27 hE27
  clear hE26
  refine ⟨fun _ => hb27, ?_⟩
  simp only [Act.put, pA, pB, pC]
  refine wpB_step (i := 44) (by kernel_rfl) rfl (st_gives hE27 rfl (run_call rfl Try.call14) (Hdp.out _) ?_)
  intro w28 hb28 hE28
  clear hE27
  refine ⟨fun _ => hb28, ?_⟩
  simp only [Act.put, pA, pB, pC]
  refine wpB_step (i := 45) (by kernel_rfl) rfl (st_gives hE28 rfl (run_call rfl Try.call11) (HS5.out _) ?_)
  intro w29 hb29 hE29
  clear hE28
  refine ⟨fun _ => hb29, ?_⟩
  simp only [Act.put, pA, pB, pC]
  refine wpB_take (i := 46) (by kernel_rfl) rfl (by kernel_rfl) (fun _ _ _ h => h) rfl (v_not rfl rfl) ?_
  simp only [Act.put, pA, pB, pC]
  refine wpB_take (i := 47) (by kernel_rfl) rfl (by kernel_rfl) (fun _ _ _ h => h) rfl (v_or rfl rfl (fun _ => rfl)) ?_
  simp only [Act.put, pA, pB, pC]
  refine wpB_done (by kernel_rfl) ?_ _
  repeat ((fail_if_success with_reducible show wA ..); (fail_if_success with_reducible show wB ..); (fail_if_success (with_reducible show Code.wp _ (Code.cond _ _ _) _ _ _)); go_step)
  refine wp_cond_false (by first | rfl | exact congrArg Value.bool (decide_eq_false (by omega))) ?_
  skip
  repeat ((fail_if_success with_reducible show wA ..); (fail_if_success with_reducible show wB ..); go_step)
  refine wp_region_B (n := 30) 29 (by kernel_rfl) rfl hE29 ?_
  intro w30 hb30 hE30
  clear hE29
  refine wpB_take (i := 0) (by kernel_rfl) rfl (by kernel_rfl) (fun _ _ _ h => h) rfl (v_load (i := 0) hE30 rfl rfl rfl Try.underlying28 rfl (szA (n := 20))) ?_
  simp only [Act.put, pA, pB, pC]
  refine wpB_take (i := 1) (by kernel_rfl) rfl (by kernel_rfl) (fun _ _ _ h => h) rfl (v_load (i := 1) hE30 rfl rfl rfl Try.underlying28 rfl (szA (n := 20))) ?_
  simp only [Act.put, pA, pB, pC]
  refine wpB_take (i := 3) (by kernel_rfl) rfl (by kernel_rfl) (fun _ _ _ h => h) rfl (v_load (i := 0) hE30 rfl rfl rfl Try.underlying28 rfl (szA (n := 20))) ?_
  simp only [Act.put, pA, pB, pC]
  refine wpB_take (i := 5) (by kernel_rfl) rfl (by kernel_rfl) (fun _ _ _ h => h) rfl (v_load (i := 1) hE30 rfl rfl rfl Try.underlying28 rfl (szA (n := 20))) ?_
  simp only [Act.put, pA, pB, pC]
  refine wpB_step (i := 2) (by kernel_rfl) rfl (st_gives hE30 rfl (run_call rfl Try.call11) (HS6.out _) ?_)
  intro w31 hb31 hE31
  clear hE30
  refine ⟨fun _ => hb31, ?_⟩
  simp only [Act.put, pA, pB, pC]
  refine wpB_step (i := 4) (by kernel_rfl) rfl (st_gives hE31 rfl (run_call rfl Try.call15) (HB1.out _) ?_)
  intro w32 hb32 hE32
  clear hE31
  refine ⟨fun _ => hb32, ?_⟩
  simp only [Act.put, pA, pB, pC]
  refine wpB_step (i := 6) (by kernel_rfl) rfl (st_gives hE32 rfl (run_call rfl Try.call15) (HB2.out _) ?_)
  intro w33 hb33 hE33
  clear hE32
  refine ⟨fun _ => hb33, ?_⟩
  simp only [Act.put, pA, pB, pC]
  refine wpB_take (i := 7) (by kernel_rfl) rfl (by kernel_rfl) (fun _ _ _ h => h) rfl (v_eq32 rfl rfl rfl lb1 lb2) ?_
  simp only [Act.put, pA, pB, pC]
  rw [HE.out]
  refine wpB_take (i := 8) (by kernel_rfl) rfl (by kernel_rfl) (fun _ _ _ h => h) rfl (v_eqBs rfl rfl rfl Try.underlying4) ?_
  simp only [Act.put, pA, pB, pC]
  refine wpB_take (i := 9) (by kernel_rfl) rfl (by kernel_rfl) (fun _ _ _ h => h) rfl (v_moveT (.inl rfl) rfl) ?_
  simp only [Act.put, pA, pB, pC]
  refine wpB_take (i := 10) (by kernel_rfl) rfl (by kernel_rfl) (fun _ _ _ h => h) rfl (v_load (i := 1) hE33 rfl rfl rfl Try.underlying28 rfl (szA (n := 20))) ?_
  simp only [Act.put, pA, pB, pC]
  refine wpB_take (i := 11) (by kernel_rfl) rfl (by kernel_rfl) (fun _ _ _ h => h) rfl (v_load (i := 6) hE33 rfl rfl rfl Try.underlying22 rfl (szA (n := 32))) ?_
  simp only [Act.put, pA, pB, pC]
  refine wpB_take (i := 13) (by kernel_rfl) rfl (by kernel_rfl) (fun _ _ _ h => h) rfl (v_load (i := 0) hE33 rfl rfl rfl Try.underlying28 rfl (szA (n := 20))) ?_
  simp only [Act.put, pA, pB, pC]
  refine wpB_take (i := 14) (by kernel_rfl) rfl (by kernel_rfl) (fun _ _ _ h => h) rfl (v_load (i := 5) hE33 rfl rfl rfl Try.underlying22 rfl (szA (n := 32))) ?_
  simp only [Act.put, pA, pB, pC]
  refine wpB_step (i := 12) (by kernel_rfl) rfl (st_gives hE33 rfl (run_call rfl Try.call9) (Hm1.out _) ?_)
  intro w34 hb34 hE34
  clear hE33
  refine ⟨fun _ => hb34, ?_⟩
  simp only [Act.put, pA, pB, pC]
  refine wpB_step (i := 15) (by kernel_rfl) rfl (st_gives hE34 rfl (run_call rfl Try.call9) (Hm2.out _) ?_)
  intro w35 hb35 hE35
  clear hE34
  refine ⟨fun _ => hb35, ?_⟩
  simp only [Act.put, pA, pB, pC]
  refine wpB_step (i := 16) (by kernel_rfl) rfl (st_gives hE35 rfl (run_call rfl Try.call11) (HS7.out _) ?_)
  intro w36 hb36 hE36
  clear hE35
  refine ⟨fun _ => hb36, ?_⟩
  simp only [Act.put, pA, pB, pC]
  refine wpB_take (i := 17) (by kernel_rfl) rfl (by kernel_rfl) (fun _ _ _ h => h) rfl (v_and rfl rfl (fun _ => rfl)) ?_
  simp only [Act.put, pA, pB, pC]
  refine wpB_take (i := 18) (by kernel_rfl) rfl (by kernel_rfl) (fun _ _ _ h => h) rfl (v_moveT (.inl rfl) rfl) ?_
  simp only [Act.put, pA, pB, pC]
  refine wpB_take (i := 19) (by kernel_rfl) rfl (by kernel_rfl) (fun _ _ _ h => h) rfl (v_load (i := 3) hE36 rfl rfl rfl Try.underlying28 rfl (szA (n := 20))) ?_
  simp only [Act.put, pA, pB, pC]
  refine wpB_step (i := 20) (by kernel_rfl) rfl (st_new hE36 rfl (run_call rfl Try.call17) (HQ.out _) ?_)
  intro g7 w37 hb37 hE37
  clear hE36
  refine ⟨fun _ => hb37, ?_⟩
  simp only [Act.put, pA, pB, pC]
  refine wpB_step (i := 21) (by kernel_rfl) rfl (st_gives hE37 rfl (run_call rfl Try.call16) (ordBytes_any rfl ordD_Digs (hE37.get (i := 0) rfl)) ?_)
  intro w38 hb38 hE38
  clear hE37
  refine ⟨fun _ => hb38, ?_⟩
  simp only [Act.put, pA, pB, pC]
  refine wpB_step (i := 22) (by kernel_rfl) rfl (st_gives hE38 rfl (run_call rfl Try.call9) (Hm3.out _) ?_)
  intro w39 hb39 hE39
  clear hE38
  refine ⟨fun _ => hb39, ?_⟩
  simp only [Act.put, pA, pB, pC]
  refine wpB_step (i := 23) (by kernel_rfl) rfl (st_gives hE39 rfl (run_call rfl Try.call12) (PZero_any _) ?_)
  intro w40 hb40 hE40
  clear hE39
  refine ⟨fun _ => hb40, ?_⟩
  simp only [Act.put, pA, pB, pC]
  refine wpB_step (i := 24) (by kernel_rfl) rfl (st_gives hE40 rfl (run_call rfl Try.call11) (HS8.out _) ?_)
  intro w41 hb41 hE41
  clear hE40
  refine ⟨fun _ => hb41, ?_⟩
  simp only [Act.put, pA, pB, pC]
  refine wpB_take (i := 25) (by kernel_rfl) rfl (by kernel_rfl) (fun _ _ _ h => h) rfl (v_and rfl rfl (fun _ => rfl)) ?_
  simp only [Act.put, pA, pB, pC]
  refine wpB_take (i := 26) (by kernel_rfl) rfl (by kernel_rfl) (fun _ _ _ h => h) rfl (v_moveT (.inl rfl) rfl) ?_
  simp only [Act.put, pA, pB, pC]
  refine wpB_step (i := 27) (by kernel_rfl) rfl (st_gives hE41 rfl (run_call rfl Try.call18) (awake_any _) ?_)
  intro w42 hb42 hE42
  clear hE41
  refine ⟨fun _ => hb42, ?_⟩
  simp only [Act.put, pA, pB, pC]
  refine wpB_take (i := 28) (by kernel_rfl) rfl (by kernel_rfl) (fun _ _ _ h => h) rfl (v_and rfl rfl (fun _ => rfl)) ?_
  simp only [Act.put, pA, pB, pC]
  refine wpB_step (i := 29) (by kernel_rfl) rfl (st_val rfl (v_moveT (.inr rfl) rfl) ?_)
  refine ⟨fun _ => Below.refl _ _, ?_⟩
  simp only [Act.put, pA, pB, pC]
  refine wpB_done (by kernel_rfl) ?_ _
  repeat ((fail_if_success with_reducible show wA ..); (fail_if_success with_reducible show wB ..); go_step)
  go_returns
  exact ⟨rfl, hE42.below⟩
end Go.Proofs.Ytmebjoehmheknaa
