/-
  Layer 6: points: the first multiples, any multiple.
  Layer 6: points: any multiple; a multiple and one of the base; the sum of points.
  Layer 6: the bytes of a point; the base.
  Layer 5: the walks of the small functions of package order: what each returns; nothing that was there is written.
-/
import Derived.Test.YthddoelflmoedaaGreatJ03
import Derived.Test.YthddoelflmoedaaGreatJ14
import Derived.Test.YthddoelflmoedaaGreatJ15
set_option linter.unusedVariables false
set_option linter.unusedSimpArgs false
namespace Go.Proofs.YthddoelflmoedaaGreat
open Go.RowKit
set_option maxRecDepth 100000

theorem PRep_unique {l : List Nat} {P Q : Pt} (h : PRep l P) (h' : PRep l Q) : P = Q :=
 Pt.same (K_cancel h.nz (h.ex.symm.trans h'.ex)) (K_cancel h.nz (h.ey.symm.trans h'.ey))
noncomputable def addP (l m : List Nat) : List Nat := Classical.epsilon fun c => (∀ P Q, PRep l P → PRep m Q → PRep c (padd P Q)) ∧ ∀ w, Gives 53 #[pt l, pt m] w (pt c)
noncomputable def dblP (l : List Nat) : List Nat := Classical.epsilon fun c => (∀ P, PRep l P → PRep c (padd P P)) ∧ ∀ w, Gives 52 #[pt l] w (pt c)
theorem addP_ok {l m : List Nat} {P Q : Pt} (h : PRep l P) (h' : PRep m Q) : PRep (addP l m) (padd P Q) ∧ ∀ w, Gives 53 #[pt l, pt m] w (pt (addP l m)) := by
 obtain ⟨c, h1, h2⟩ := PAdd_any h h'
 have := Classical.epsilon_spec (p := fun c => (∀ P Q, PRep l P → PRep m Q → PRep c (padd P Q)) ∧ ∀ w, Gives 53 #[pt l, pt m] w (pt c)) ⟨c, fun P' Q' a b => by rw [PRep_unique a h, PRep_unique b h']; exact h1, h2⟩
 exact ⟨this.1 P Q h h', this.2⟩
theorem dblP_ok {l : List Nat} {P : Pt} (h : PRep l P) : PRep (dblP l) (padd P P) ∧ ∀ w, Gives 52 #[pt l] w (pt (dblP l)) := by
 obtain ⟨c, h1, h2⟩ := PDouble_any h
 have := Classical.epsilon_spec (p := fun c => (∀ P, PRep l P → PRep c (padd P P)) ∧ ∀ w, Gives 52 #[pt l] w (pt c)) ⟨c, fun P' a => by rw [PRep_unique a h]; exact h1, h2⟩
 exact ⟨this.1 P h, this.2⟩

noncomputable def mulsL (l : List Nat) : Nat → List Nat
 | 0 => zeroL
 | j + 1 => addP (mulsL l j) l
theorem mulsL_ok {l : List Nat} {P : Pt} (h : PRep l P) : ∀ j, PRep (mulsL l j) (smul j P)
 | 0 => PRep_zero
 | j + 1 => (addP_ok (mulsL_ok h j) h).1
noncomputable def tabAt (l : List Nat) (J : Nat) : List (List Nat) := (List.range 16).map fun i => if i < J then mulsL l i else List.replicate 20 0
theorem tabAt_len (l : List Nat) (J : Nat) : (tabAt l J).length = 16 := by unfold tabAt; simp
theorem tabAt_at (l : List Nat) (J i : Nat) (h : i < (tabAt l J).length) : (tabAt l J)[i] = if i < J then mulsL l i else List.replicate 20 0 := by
 unfold tabAt
 simp
theorem tabAt_rows {l : List Nat} {P : Pt} (h : PRep l P) (J : Nat) : ∀ r ∈ tabAt l J, r.length = 20 := fun r hr => by
 unfold tabAt at hr
 obtain ⟨i, _, rfl⟩ := List.mem_map.1 hr
 split
 ·exact (mulsL_ok h i).len
 ·simp
theorem tabAt_get {l : List Nat} {P : Pt} (h : PRep l P) {J i : Nat} (hi : i < J) (hJ : J ≤ 16) : ((tabAt l J).flatten.drop (i * 20)).take 20 = mulsL l i := by
 rw [rows_get 20 _ (tabAt_rows h J) i (by rw [tabAt_len]; omega)]
 rw [tabAt_at, if_pos hi]
theorem tabAt_set {l : List Nat} {P : Pt} (h : PRep l P) {J : Nat} (hJ : J < 16) : (tabAt l J).flatten.take (J * 20) ++ mulsL l J ++ (tabAt l J).flatten.drop (J * 20 + 20) = (tabAt l (J + 1)).flatten := by
 rw [rows_set 20 _ _ (tabAt_rows h J) J (by rw [tabAt_len]; exact hJ)]
 congr 1
 apply List.ext_getElem
 ·simp [tabAt]
 ·intro i h1 h2
  rw [List.getElem_set, tabAt_at l (J + 1)]
  split
  ·rename_i e
   subst e
   rw [if_pos (by omega)]
  ·rw [tabAt_at]
   by_cases hlt : i < J
   ·rw [if_pos hlt, if_pos (by omega)]
   ·rw [if_neg hlt, if_neg (by omega)]
theorem tabAt_zero (l : List Nat) : (tabAt l 0).flatten = List.replicate 320 0 := by
 have hr : ∀ r ∈ tabAt l 0, r = List.replicate 20 0 := fun r hr => by
  unfold tabAt at hr
  obtain ⟨i, _, rfl⟩ := List.mem_map.1 hr
  exact if_neg (Nat.not_lt_zero _)
 refine List.eq_replicate_iff.2 ⟨?_, fun b hb => ?_⟩
 ·rw [rows_length 20 _ (fun r h => by rw [hr r h, List.length_replicate]), tabAt_len]
 ·obtain ⟨r, h1, h2⟩ := List.mem_flatten.1 hb
  rw [hr r h1] at h2
  exact (List.mem_replicate.1 h2).2
noncomputable def tabL (l : List Nat) : List Nat := (tabAt l 16).flatten
theorem tabAt_flen {l : List Nat} {P : Pt} (h : PRep l P) (J : Nat) : (tabAt l J).flatten.length = 320 := by
 rw [rows_length 20 _ (tabAt_rows h J), tabAt_len]

set_option maxRecDepth 100000 in
set_option maxHeartbeats 4000000 in
theorem multiples_any {l : List Nat} {P : Pt} (h : PRep l P) (w : World) : Gives 50 #[pt l] w (pt (tabL l)) := by
 have len := h.len
 have h0 := tabAt_set h (J := 0) (by decide)
 rw [tabAt_zero] at h0
 have H0 := Lib.hid (show (List.replicate 320 0).take (0 * 20) ++ zeroL ++ (List.replicate 320 0).drop (0 * 20 + 20) = (tabAt l (0 + 1)).flatten from h0)
 have hb0 : 0 * 20 + 20 ≤ (List.replicate 320 0).length := by rw [List.length_replicate]; decide
 have Hg := Lib.hid (fun J i hi hJ => tabAt_get h (J := J) (i := i) hi hJ)
 have Hs := Lib.hid (fun J hJ => tabAt_set h (J := J) hJ)
 have Hl := Lib.hid (fun J => tabAt_flen h J)
 have Hm := Lib.hid (fun j => mulsL_ok h j)
 have HP := Lib.hid h
 have HZ := Lib.hid PZero_any
 have lz : zeroL.length = 20 := rfl
 clear h h0
 have hE0 := Env.nil w
 go_enter Tryz.func50, Tryz.ntmps50
 repeat ((fail_if_success refine sqx ?_); go_step)
 refine wl_step (st_boxA hE0 rfl rfl rfl ?_)
 intro g0 w1 hb1 hE1
 clear hE0
 simp only [qZ]
 refine wl_step (sqA (ints .u64 (List.replicate 320 0)) hE1 ?_)
 intro g1 w2 hb2 hE2
 clear hE1
 simp only [qZ]
 repeat ((fail_if_success refine sqx ?_); go_step)
 refine wl_step (sqA (ints .u64 (List.replicate 320 0)) hE2 ?_)
 intro g2 w3 hb3 hE3
 clear hE2
 simp only [qZ]
 repeat ((fail_if_success refine sqx ?_); go_step)
 refine wl_step (st_gives hE3 rfl (run_call rfl Tryz.call51) (HZ.out _) ?_)
 intro w4 hb4 hE4
 clear hE3
 simp only [qZ]
 refine wqv (v_indexAs (j := 0) (s := 20) rfl rfl rfl Tryz.underlying86 (by kernel_rfl) (by first | assumption | omega)) ?_
 refine wl_step (st_putPart (i := 0) (n := 20) hE4 rfl rfl rfl rfl rfl (by kernel_rfl) (by first | rfl | assumption) (by first | assumption | (simp only [List.length_append, *]; try omega)) ?_)
 intro w5 hE5
 clear hE4
 simp only [qpB, qpC] at hE5
 simp only [qZ]
 rw [H0.out] at hE5
 repeat ((fail_if_success refine sqx ?_); go_step)
 refine mqC ?_
 go_wp2
 go_loopw [4] (fun i wr => ∃ J : Nat, J + 1 ≤ 16 ∧ i = .int .i64 (J + 1 : Nat) ∧ Env w [⟨g2, 86, ints .u64 (tabAt l (J + 1)).flatten⟩, ⟨g1, 86, ints .u64 (List.replicate 320 0)⟩, ⟨g0, 55, ints .u64 l⟩] wr) (fun i _ => 16 - (intOf i).toNat)
 case atStart => exact ⟨0, by omega, rfl, hE5⟩
 case round =>
  clear hE5
  obtain ⟨J, hJ, rfl, hE0⟩ := hrel
  have hM := Hl.out (J + 1)
  by_cases hlt : J + 1 < 16
  ·have hget := Hg.out (J + 1) J (by omega) hJ
   have hset := Hs.out (J + 1) hlt
   have hmj := Hm.out J
   have ha := addP_ok hmj HP.out
   have e : addP (mulsL l J) l = mulsL l (J + 1) := rfl
   rw [e] at ha
   have lm := (Hm.out J).len
   have lm' := (Hm.out (J + 1)).len
   obtain ⟨X, hX⟩ : ∃ X, mulsL l J = X := ⟨_, rfl⟩
   obtain ⟨Y, hY⟩ : ∃ Y, mulsL l (J + 1) = Y := ⟨_, rfl⟩
   obtain ⟨M, hMe⟩ : ∃ M, (tabAt l (J + 1)).flatten = M := ⟨_, rfl⟩
   rw [hX] at hget ha lm
   rw [hY] at hset ha lm'
   rw [hMe] at hget hset hM hE0
   have HA := Lib.hid ha.2
   have HG := Lib.hid hget
   have HS := Lib.hid hset
   have hb1 : J * 20 + 20 ≤ M.length := by omega
   have hb2 : (J + 1) * 20 + 20 ≤ M.length := by omega
   clear hget hset hmj ha e hX hY hMe
   repeat ((fail_if_success refine sqx ?_); go_step)
   refine mqA ?_
   refine wqv (v_lss (n := 16) rfl rfl rfl) ?_
   repeat ((fail_if_success refine sqx ?_); go_step)
   refine wp_region_B (n := 9) 8 (by kernel_rfl) rfl hE0 ?_
   intro w1 hb1 hE1
   clear hE0
   refine tqB 0 rfl (v_moveT (.inl rfl) rfl) ?_
   refine tqB 1 rfl (v_moveT (.inl rfl) rfl) ?_
   refine tqB 2 rfl (v_sub (m := J + 1) (n := 1) (r := (J : Int)) rfl rfl rfl (by rw [w_i64s (by omega) (by omega)]; rfl)) ?_
   refine tqB 3 rfl (v_indexAs (s := 20) rfl rfl rfl Tryz.underlying86 (by kernel_rfl) (by first | assumption | omega)) ?_
   refine tqB 4 rfl (v_loadPart (i := 0) (n := 20) hE1 rfl rfl rfl Tryz.underlying55 rfl (by kernel_rfl) (by first | assumption | (simp only [List.length_append, *]; try omega))) ?_
   rw [HG.out]
   refine tqB 5 rfl (vqL 2 20 hE1 Tryz.underlying55) ?_
   refine sqB 6 rfl (st_gives hE1 rfl (run_call rfl Tryz.call53) (HA.out _) ?_)
   intro w2 hb2 hE2
   clear hE1
   refine ⟨fun _ => hb2, ?_⟩
   simp only [qZ]
   refine tqB 7 rfl (v_indexAs (s := 20) rfl rfl rfl Tryz.underlying86 (by kernel_rfl) (by first | assumption | omega)) ?_
   refine sqB 8 rfl (st_putPart (i := 0) (n := 20) hE2 rfl rfl rfl rfl rfl (by kernel_rfl) (by first | rfl | assumption) (by first | assumption | (simp only [List.length_append, *]; try omega)) ?_)
   intro w3 hE3
   clear hE2
   simp only [qpB, qpC] at hE3
   refine nqB ?_
   simp only [qZ]
   refine wpB_done (by kernel_rfl) ?_ _
   rw [HS.out] at hE3
   repeat ((fail_if_success refine sqx ?_); go_step)
   refine mqA ?_
   refine wqv (v_add (n := 1) rfl rfl rfl (w_i64 (by omega))) ?_
   refine mqB ?_
   go_wp2
   go_roundw
   case rel => exact ⟨J + 1, by omega, rfl, hE3⟩
   case measure => simp [intOf]; omega
  ·have hJ' : J = 15 := by omega
   subst hJ'
   have hM' : (tabL l).length = 320 := hM
   have hT : (tabAt l (15 + 1)).flatten = tabL l := rfl
   rw [hT] at hE0
   clear hT hM
   repeat ((fail_if_success refine sqx ?_); go_step)
   refine mqA ?_
   refine wqv (v_lss (n := 16) rfl rfl rfl) ?_
   repeat ((fail_if_success refine sqx ?_); go_step)
   refine wqv (vqL 0 320 hE0 Tryz.underlying86) ?_
   refine wl_step (sqS 1 320 hE0 ?_)
   intro w1 hE1
   clear hE0
   simp only [qpB, qpC] at hE1
   simp only [qZ]
   repeat ((fail_if_success refine sqx ?_); go_step)
   refine bodyPost_ret (results_cell_row rfl _ _ _ _ _ (0, 0) _ rfl (hE1.get (i := 1) rfl) Tryz.underlying86 rfl (szqA (n := 320))) rfl ⟨rfl, hE1.below⟩
end Go.Proofs.YthddoelflmoedaaGreat
namespace Go.Proofs.YthddoelflmoedaaGreat
open Go.RowKit
set_option maxRecDepth 100000

theorem nib_of_byte {b : List Nat} (db : Digs 256 b) (j : Nat) : b.getD (j / 2) 0 / 2 ^ (4 * (j % 2)) % 16 = val 256 b / 16 ^ j % 16 := by
 rw [← val_div_mod db (by decide), show (256 : Nat) = 16 ^ 2 from rfl, ← Nat.pow_mul, Nat.pow_mul 2 4, show (2 : Nat) ^ 4 = 16 from rfl, mod_pow_div_mod (B := 16) _ 2 (j % 2) (Nat.mod_lt _ (by decide)), Nat.div_div_eq_div_mul, ← Nat.pow_add, show 2 * (j / 2) + j % 2 = j by omega]
noncomputable def dblsL (x : List Nat) : Nat → List Nat
 | 0 => x
 | t + 1 => dblP (dblsL x t)
theorem dblsL_ok {x : List Nat} {Q : Pt} (h : PRep x Q) : ∀ t, PRep (dblsL x t) (smul (2 ^ t) Q)
 | 0 => by
  rw [Nat.pow_zero, smul_one]
  exact h
 | t + 1 => by
  rw [Nat.pow_succ, Nat.mul_comm, smul_two]
  exact (dblP_ok (dblsL_ok h t)).1
noncomputable def winL (l : List Nat) (N : Nat) : Nat → List Nat
 | 0 => zeroL
 | r + 1 => addP (dblsL (winL l N r) 4) (mulsL l (N / 16 ^ (63 - r) % 16))
theorem win_step (N r : Nat) (h : r < 64) : 2 ^ 4 * (N / 16 ^ (64 - r)) + N / 16 ^ (63 - r) % 16 = N / 16 ^ (63 - r) := by
 have e : 64 - r = (63 - r) + 1 := by omega
 rw [e, Nat.pow_succ 16, ← Nat.div_div_eq_div_mul, show (2 : Nat) ^ 4 = 16 from rfl]
 omega
theorem winL_ok {l : List Nat} {P : Pt} (h : PRep l P) {N : Nat} (hN : N < 16 ^ 64) : ∀ r, r ≤ 64 → PRep (winL l N r) (smul (N / 16 ^ (64 - r)) P)
 | 0, _ => by
  rw [Nat.sub_zero, Nat.div_eq_of_lt hN]
  exact PRep_zero
 | r + 1, hr => by
  have h1 := dblsL_ok (winL_ok h hN r (by omega)) 4
  have h2 := (addP_ok h1 (mulsL_ok h (N / 16 ^ (63 - r) % 16))).1
  rw [← smul_mul, ← smul_add, Nat.mul_comm, win_step N r (by omega)] at h2
  have e : 64 - (r + 1) = 63 - r := by omega
  rw [e]
  exact h2

set_option maxRecDepth 100000 in
set_option maxHeartbeats 8000000 in
theorem PMul_walk {l b : List Nat} {P : Pt} (h : PRep l P) (hb : b.length = 32) (db : Digs 256 b) (w : World) : Gives 18 #[pt l, .agg (ints .u8 b)] w (pt (winL l (val 256 b) 64)) := by
 have len := h.len
 have hN : val 256 b < 16 ^ 64 := by
  have := val_lt db
  rw [hb] at this
  exact this
 have Hnib := Lib.hid (fun j => nib_of_byte db j)
 have Hbyte := Lib.hid (fun j => db.getD (by decide) j)
 obtain ⟨N, hNe⟩ : ∃ N, val 256 b = N := ⟨_, rfl⟩
 rw [hNe] at Hnib hN ⊢
 have Hok := Lib.hid (fun r hr => winL_ok h hN r hr)
 have HM := Lib.hid (fun w => multiples_any h w)
 have Hg := Lib.hid (fun i (hi : i < 16) => tabAt_get h (J := 16) (i := i) hi (Nat.le_refl _))
 have hTl : (tabL l).length = 320 := tabAt_flen h 16
 have Hmul := Lib.hid (fun j => mulsL_ok h j)
 have HP := Lib.hid h
 have HZ := Lib.hid PZero_any
 have lz : zeroL.length = 20 := rfl
 clear h hN db hNe
 have hE0 := Env.nil w
 go_enter Tryz.func18, Tryz.ntmps18
 repeat ((fail_if_success refine sqx ?_); go_step)
 refine wl_step (st_boxA hE0 rfl rfl rfl ?_)
 intro g0 w1 hb1 hE1
 clear hE0
 simp only [qZ]
 refine wl_step (st_boxA hE1 rfl rfl rfl ?_)
 intro g1 w2 hb2 hE2
 clear hE1
 simp only [qZ]
 refine wl_step (sqA (ints .u64 (List.replicate 20 0)) hE2 ?_)
 intro g2 w3 hb3 hE3
 clear hE2
 simp only [qZ]
 repeat ((fail_if_success refine sqx ?_); go_step)
 refine wqv (vqL 2 20 hE3 Tryz.underlying55) ?_
 refine wl_step (st_gives hE3 rfl (run_call rfl Tryz.call50) (HM.out _) ?_)
 intro w4 hb4 hE4
 clear hE3
 simp only [qZ]
 refine wl_step (sqA (ints .u64 (List.replicate 320 0)) hE4 ?_)
 intro g3 w5 hb5 hE5
 clear hE4
 simp only [qZ]
 refine wl_step (sqS 0 320 hE5 ?_)
 intro w6 hE6
 clear hE5
 simp only [qpB, qpC] at hE6
 simp only [qZ]
 repeat ((fail_if_success refine sqx ?_); go_step)
 refine wl_step (st_gives hE6 rfl (run_call rfl Tryz.call51) (HZ.out _) ?_)
 intro w7 hb7 hE7
 clear hE6
 simp only [qZ]
 refine wl_step (sqA (ints .u64 (List.replicate 20 0)) hE7 ?_)
 intro g4 w8 hb8 hE8
 clear hE7
 simp only [qZ]
 refine wl_step (sqS 0 20 hE8 ?_)
 intro w9 hE9
 clear hE8
 simp only [qpB, qpC] at hE9
 simp only [qZ]
 repeat ((fail_if_success refine sqx ?_); go_step)
 refine mqC ?_
 go_wp2
 go_loopw [7] (fun i wr => ∃ K : Nat, K ≤ 64 ∧ i = .int .i64 ((K : Int) - 1) ∧ Env w [⟨g4, 55, ints .u64 (winL l N (64 - K))⟩, ⟨g3, 86, ints .u64 (tabL l)⟩, ⟨g2, 55, ints .u64 (List.replicate 20 0)⟩, ⟨g1, 22, ints .u8 b⟩, ⟨g0, 55, ints .u64 l⟩] wr) (fun i _ => (intOf i + 1).toNat)
 case atStart => exact ⟨64, Nat.le_refl _, rfl, hE9⟩
 case round =>
  clear hE9
  obtain ⟨K, hK, rfl, hE0⟩ := hrel
  have hX := (Hok.out (64 - K) (by omega)).len
  cases K with
  | zero =>
   repeat ((fail_if_success refine sqx ?_); go_step)
   refine mqA ?_
   refine wqv (v_geqI rfl rfl rfl) ?_
   repeat ((fail_if_success refine sqx ?_); go_step)
   refine wqv (vqL 0 20 hE0 Tryz.underlying55) ?_
   refine wl_step (sqS 2 20 hE0 ?_)
   intro w1 hE1
   clear hE0
   simp only [qpB, qpC] at hE1
   simp only [qZ]
   repeat ((fail_if_success refine sqx ?_); go_step)
   refine bodyPost_ret (results_cell_row rfl _ _ _ _ _ (0, 0) _ rfl (hE1.get (i := 2) rfl) Tryz.underlying55 rfl (szqA (n := 20))) rfl ⟨rfl, hE1.below⟩
  | succ j =>
   have hj : ((j + 1 : Nat) : Int) - 1 = (j : Int) := by omega
   rw [hj]
   clear hj
   have hj64 : j < 64 := by omega
   have e1 : 64 - (j + 1) = 63 - j := by omega
   rw [e1] at hE0 hX
   have hXr := Hok.out (63 - j) (by omega)
   have e2 : 64 - j = (63 - j) + 1 := by omega
   have e3 : 63 - (63 - j) = j := by omega
   have hnext : winL l N (64 - j) = addP (dblsL (winL l N (63 - j)) 4) (mulsL l (N / 16 ^ j % 16)) := by
    rw [e2, winL, e3]
   obtain ⟨X, hXe⟩ : ∃ X, winL l N (63 - j) = X := ⟨_, rfl⟩
   rw [hXe] at hE0 hX hXr hnext
   have Hd := Lib.hid (fun t => dblsL_ok hXr t)
   have Hn := Lib.hid hnext
   clear e1 e2 e3 hnext hXe hXr
   have hst : Env w [⟨g4, 55, ints .u64 (dblsL X 0)⟩, ⟨g3, 86, ints .u64 (tabL l)⟩, ⟨g2, 55, ints .u64 (List.replicate 20 0)⟩, ⟨g1, 22, ints .u8 b⟩, ⟨g0, 55, ints .u64 l⟩] wr := hE0
   clear hE0
   have hE0 := hst
   clear hst
   repeat ((fail_if_success refine sqx ?_); go_step)
   refine mqA ?_
   refine wqv (v_geqI rfl rfl rfl) ?_
   repeat ((fail_if_success refine sqx ?_); go_step)
   refine wqv (v_moveC (.inl rfl)) ?_
   go_wp2
   go_loopw [15] (fun i wr => ∃ T : Nat, T ≤ 4 ∧ i = .int .i64 T ∧ Env w [⟨g4, 55, ints .u64 (dblsL X T)⟩, ⟨g3, 86, ints .u64 (tabL l)⟩, ⟨g2, 55, ints .u64 (List.replicate 20 0)⟩, ⟨g1, 22, ints .u8 b⟩, ⟨g0, 55, ints .u64 l⟩] wr) (fun i _ => 4 - (intOf i).toNat)
   case atStart => exact ⟨0, Nat.zero_le _, rfl, hE0⟩
   case round =>
    clear hE0
    obtain ⟨T, hT, rfl, hE0⟩ := hrel
    have hXt := Hd.out T
    have lXt := hXt.len
    by_cases hT4 : T < 4
    ·have hXs := dblP_ok hXt
     have e : dblP (dblsL X T) = dblsL X (T + 1) := rfl
     rw [e] at hXs
     have lXs := hXs.1.len
     have HD := Lib.hid hXs.2
     clear hXt hXs e
     repeat ((fail_if_success refine sqx ?_); go_step)
     refine wqv (v_lss (n := 4) rfl rfl rfl) ?_
     repeat ((fail_if_success refine sqx ?_); go_step)
     refine wqv (vqL 0 20 hE0 Tryz.underlying55) ?_
     refine wl_step (st_gives hE0 rfl (run_call rfl Tryz.call52) (HD.out _) ?_)
     intro w1 hb1 hE1
     clear hE0
     simp only [qZ]
     refine wl_step (sqS 0 20 hE1 ?_)
     intro w2 hE2
     clear hE1
     simp only [qpB, qpC] at hE2
     simp only [qZ]
     repeat ((fail_if_success refine sqx ?_); go_step)
     refine wqv (v_add (n := 1) rfl rfl rfl (w_i64 (by omega))) ?_
     refine mqA ?_
     go_wp2
     go_roundw
     case rel => exact ⟨T + 1, by omega, rfl, hE2⟩
     case measure => simp [intOf]; omega
    ·have hT' : T = 4 := by omega
     subst hT'
     have hnb := Hnib.out j
     have hbl := Hbyte.out (j / 2)
     have hi32 : j / 2 < b.length := by omega
     have hi32' : j / 2 < 32 := by omega
     obtain ⟨c, hc⟩ : ∃ c, b.getD (j / 2) 0 = c := ⟨_, rfl⟩
     rw [hc] at hnb hbl
     have hsh : c / 2 ^ (4 * (j % 2)) < 2 ^ IntKind.u8.bits := by
      have := Nat.div_le_self c (2 ^ (4 * (j % 2)))
      simp only [IntKind.bits]
      omega
     have h48 : 4 * (j % 2) ≤ IntKind.u8.bits := by simp only [IntKind.bits]; omega
     have hm16 : N / 16 ^ j % 16 < 16 := Nat.mod_lt _ (by decide)
     have hget := Hg.out _ hm16
     have hmm := Hmul.out (N / 16 ^ j % 16)
     have hadd := addP_ok hXt hmm
     rw [← Hn.out] at hadd
     obtain ⟨m, hme⟩ : ∃ m, N / 16 ^ j % 16 = m := ⟨_, rfl⟩
     rw [hme] at hnb hm16 hget hadd hmm
     obtain ⟨Y, hYe⟩ : ∃ Y, mulsL l m = Y := ⟨_, rfl⟩
     have hget' : List.take 20 (List.drop (m * 20) (tabL l)) = mulsL l m := hget
     rw [hYe] at hget' hadd hmm
     have lY := hmm.len
     have lR := hadd.1.len
     have HA := Lib.hid hadd.2
     have HG := Lib.hid hget'
     have HNb := Lib.hid hnb
     have HC := Lib.hid hc
     have hbb : m * 20 + 20 ≤ (tabL l).length := by omega
     clear hget hget' hmm hadd hme hYe hnb hc hXt
     repeat ((fail_if_success refine sqx ?_); go_step)
     refine wqv (v_lss (n := 4) rfl rfl rfl) ?_
     repeat ((fail_if_success refine sqx ?_); go_step)
     refine wp_region_B (n := 14) 13 (by kernel_rfl) rfl hE0 ?_
     intro w1 hb1 hE1
     clear hE0
     refine tqB 0 rfl (vqL 0 20 hE1 Tryz.underlying55) ?_
     refine tqB 1 rfl (v_moveT (.inl rfl) rfl) ?_
     refine tqB 2 rfl (v_quo (n := 2) rfl rfl rfl (by omega) (w_i64 (by omega))) ?_
     refine tqB 3 rfl (vqI Tryz.underlying22) ?_
     refine tqB 4 rfl (vqC 3 hE1 Tryz.underlying5) ?_
     rw [HC.out]
     refine tqB 5 rfl (v_moveT (.inl rfl) rfl) ?_
     refine tqB 6 rfl (v_rem (n := 2) rfl rfl rfl (by omega)) ?_
     refine tqB 7 rfl (v_mul (m := 4) rfl rfl rfl (w_i64 (by omega))) ?_
     refine tqB 8 rfl (v_shr rfl rfl rfl h48) ?_
     refine tqB 9 rfl (v_mask (c := 15) (s := 4) (d := 16) rfl rfl rfl (by decide) (by decide) rfl hsh (by decide)) ?_
     rw [HNb.out]
     refine tqB 10 rfl (v_indexAs (s := 20) rfl rfl rfl Tryz.underlying86 (by kernel_rfl) (by first | assumption | omega)) ?_
     refine tqB 11 rfl (v_loadPart (i := 1) (n := 20) hE1 rfl rfl rfl Tryz.underlying55 rfl (by kernel_rfl) (by first | assumption | (simp only [List.length_append, *]; try omega))) ?_
     rw [HG.out]
     refine sqB 12 rfl (st_gives hE1 rfl (run_call rfl Tryz.call53) (HA.out _) ?_)
     intro w2 hb2 hE2
     clear hE1
     refine ⟨fun _ => hb2, ?_⟩
     simp only [qZ]
     refine sqB 13 rfl (sqS 0 20 hE2 ?_)
     intro w3 hE3
     clear hE2
     simp only [qpB, qpC] at hE3
     refine nqB ?_
     simp only [qZ]
     refine wpB_done (by kernel_rfl) ?_ _
     repeat ((fail_if_success refine sqx ?_); go_step)
     refine mqA ?_
     refine wqv (v_sub (n := 1) rfl rfl rfl (by first | exact w_i64s (by omega) (by omega) | exact w_i64I (by omega) (by omega))) ?_
     refine mqB ?_
     go_wp2
     go_roundw
     case rel => exact ⟨j, by omega, rfl, hE3⟩
     case measure => simp [intOf]
theorem PMul_any {l b : List Nat} {P : Pt} (h : PRep l P) (hb : b.length = 32) (db : Digs 256 b) : ∃ c, PRep c (smul (val 256 b) P) ∧ ∀ w, Gives 18 #[pt l, .agg (ints .u8 b)] w (pt c) := by
 have hN : val 256 b < 16 ^ 64 := by
  have := val_lt db
  rw [hb] at this
  exact this
 have h1 := winL_ok h hN 64 (Nat.le_refl _)
 rw [Nat.sub_self, Nat.pow_zero, Nat.div_one] at h1
 exact ⟨_, h1, fun w => PMul_walk h hb db w⟩

theorem PBoth_any {l b c : List Nat} {P : Pt} (h : PRep l P) (hb : b.length = 32) (db : Digs 256 b) (hc : c.length = 32) (dc : Digs 256 c) :
  ∃ r, PRep r (padd (smul (val 256 b) P) (smul (val 256 c) baseP)) ∧ ∀ w, Gives 30 #[.agg (ints .u8 b), pt l, .agg (ints .u8 c)] w (pt r) := by
 obtain ⟨g, hg, Gg⟩ := PBase_any
 obtain ⟨x, hx, Gx⟩ := PMul_any h hb db
 obtain ⟨y, hy, Gy⟩ := PMul_any hg hc dc
 obtain ⟨r, hr, Gr⟩ := PAdd_any hx hy
 refine ⟨r, hr, fun w => ?_⟩
 have len := h.len
 have lg := hg.len
 have lx := hx.len
 have ly := hy.len
 have lr := hr.len
 have H1 := Lib.hid Gg
 have H2 := Lib.hid Gx
 have H3 := Lib.hid Gy
 have H4 := Lib.hid Gr
 clear Gg Gx Gy Gr hg hx hy hr h db dc
 have hE0 := Env.nil w
 go_enter Tryz.func30, Tryz.ntmps30
 repeat ((fail_if_success refine sqx ?_); go_step)
 refine wl_step (st_boxA hE0 rfl rfl rfl ?_)
 intro g0 w1 hb1 hE1
 clear hE0
 simp only [qZ]
 refine wl_step (st_boxA hE1 rfl rfl rfl ?_)
 intro g1 w2 hb2 hE2
 clear hE1
 simp only [qZ]
 refine wl_step (st_boxA hE2 rfl rfl rfl ?_)
 intro g2 w3 hb3 hE3
 clear hE2
 simp only [qZ]
 refine wl_step (sqA (ints .u64 (List.replicate 20 0)) hE3 ?_)
 intro g3 w4 hb4 hE4
 clear hE3
 simp only [qZ]
 repeat ((fail_if_success refine sqx ?_); go_step)
 refine wp_region_B (n := 8) 7 (by kernel_rfl) rfl hE4 ?_
 intro w5 hb5 hE5
 clear hE4
 refine tqB 0 rfl (vqL 2 20 hE5 Tryz.underlying55) ?_
 refine tqB 1 rfl (vqL 3 32 hE5 Tryz.underlying22) ?_
 refine tqB 4 rfl (vqL 1 32 hE5 Tryz.underlying22) ?_
 refine sqB 2 rfl (st_gives hE5 rfl (run_call rfl Tryz.call18) (H2.out _) ?_)
 intro w6 hb6 hE6
 clear hE5
 refine ⟨fun _ => hb6, ?_⟩
 simp only [qZ]
 refine sqB 3 rfl (st_gives hE6 rfl (run_call rfl Tryz.call17) (H1.out _) ?_)
 intro w7 hb7 hE7
 clear hE6
 refine ⟨fun _ => hb7, ?_⟩
 simp only [qZ]
 refine sqB 5 rfl (st_gives hE7 rfl (run_call rfl Tryz.call18) (H3.out _) ?_)
 intro w8 hb8 hE8
 clear hE7
 refine ⟨fun _ => hb8, ?_⟩
 simp only [qZ]
 refine sqB 6 rfl (st_gives hE8 rfl (run_call rfl Tryz.call53) (H4.out _) ?_)
 intro w9 hb9 hE9
 clear hE8
 refine ⟨fun _ => hb9, ?_⟩
 simp only [qZ]
 refine sqB 7 rfl (sqS 0 20 hE9 ?_)
 intro w10 hE10
 clear hE9
 simp only [qpB, qpC] at hE10
 refine nqB ?_
 simp only [qZ]
 refine wpB_done (by kernel_rfl) ?_ _
 repeat ((fail_if_success refine sqx ?_); go_step)
 refine bodyPost_ret (results_cell_row rfl _ _ _ _ _ (0, 0) _ rfl (hE10.get (i := 0) rfl) Tryz.underlying55 rfl (szqA (n := 20))) rfl ⟨rfl, hE10.below⟩
end Go.Proofs.YthddoelflmoedaaGreat
namespace Go.Proofs.YthddoelflmoedaaGreat
open Go.RowKit
set_option maxRecDepth 100000

theorem encB_len (P : Pt) : (encB P).length = 32 := digs_length _ _ _
theorem encB_Digs (P : Pt) : Digs 256 (encB P) := digs_Digs (by decide) _ _
theorem encB_val (P : Pt) : val 256 (encB P) = encN P := by
 unfold encB
 rw [val_digs]
 exact Nat.mod_eq_of_lt (encN_lt P)
theorem encN_base : encN baseP = bY := by
 have e1 : baseP.x.val = bX := kk_val bX_lt
 have e2 : baseP.y.val = bY := kk_val bY_lt
 have h : bY + 57896044618658097711785492504343953926634992332820282019728792003956564819968 * (bX % 2) = bY := by kernel_rfl
 unfold encN
 rw [e1, e2]
 exact h
end Go.Proofs.YthddoelflmoedaaGreat
namespace Go.Proofs.YthddoelflmoedaaGreat
open Go.RowKit
set_option maxRecDepth 100000

def big256 : Nat := 115792089237316195423570985008687907853269984665640564039457584007913129639936

abbrev num (N : Nat) : Value := .agg (ints .u64 (digs 18446744073709551616 4 N))

theorem digs4 (N : Nat) (hN : N < big256) : ∃ a b c d : Nat, digs 18446744073709551616 4 N = [a, b, c, d] ∧ a < 18446744073709551616 ∧ b < 18446744073709551616 ∧ c < 18446744073709551616 ∧ d < 18446744073709551616 ∧
  N = a + 18446744073709551616 * (b + 18446744073709551616 * (c + 18446744073709551616 * d)) := by
 unfold big256 at hN
 refine ⟨_, _, _, _, rfl, ?_, ?_, ?_, ?_, ?_⟩ <;> omega

theorem num_open (N : Nat) (hN : N < big256) : ∃ a b c d : Nat, num N = .agg #[.int .u64 a, .int .u64 b, .int .u64 c, .int .u64 d] ∧ a < 18446744073709551616 ∧ b < 18446744073709551616 ∧ c < 18446744073709551616 ∧ d < 18446744073709551616 ∧
  N = a + 18446744073709551616 * (b + 18446744073709551616 * (c + 18446744073709551616 * d)) := by
 obtain ⟨a, b, c, d, h, h'⟩ := digs4 N hN
 exact ⟨a, b, c, d, by simp [num, h, ints], h'⟩

theorem num_mk {a b c d M : Nat} (ha : a < 18446744073709551616) (hb : b < 18446744073709551616) (hc : c < 18446744073709551616) (hd : d < 18446744073709551616)
  (h : M = a + 18446744073709551616 * (b + 18446744073709551616 * (c + 18446744073709551616 * d))) : Value.agg #[.int .u64 a, .int .u64 b, .int .u64 c, .int .u64 d] = num M := by
 have e : digs 18446744073709551616 4 M = [a, b, c, d] := by
  simp only [digs]
  have e0 : M % 18446744073709551616 = a := by omega
  have e1 : M / 18446744073709551616 % 18446744073709551616 = b := by omega
  have e2 : M / 18446744073709551616 / 18446744073709551616 % 18446744073709551616 = c := by omega
  have e3 : M / 18446744073709551616 / 18446744073709551616 / 18446744073709551616 % 18446744073709551616 = d := by omega
  rw [e0, e1, e2, e3]
 simp [num, e, ints]

def q : Nat := 7237005577332262213973186563042994240857116359379907606001950938285454250989
theorem q_any (w : World) : Gives 102 #[] w (num q) := by
 have e : Value.agg #[.int .u64 (6346243789798364141 : Nat), .int .u64 (1503914060200516822 : Nat), .int .u64 (0 : Nat), .int .u64 (1152921504606846976 : Nat)] = num q := num_mk (by decide) (by decide) (by decide) (by decide) (by decide)
 go_enter Tryz.func102, Tryz.ntmps102
 go_wp2
 go_returns
 exact ⟨by rw [← e]; rfl, by go_grown⟩

theorem dbl_word (a c : Nat) (hc : c ≤ 1) : bits .or .u64 (IntKind.u64.wrap ((a : Int) * 2)) (c : Int) = (((2 * a + c) % 18446744073709551616 : Nat) : Int) := by
 have e : IntKind.u64.wrap ((a : Int) * 2) = ((2 * a % 18446744073709551616 : Nat) : Int) := by rw [IntKind.wrap_u64]; omega
 rw [e, u64_or_nat _ _ (by omega) (by omega), nat_join 1 _ _ (by omega) (by omega)]
 omega

set_option maxHeartbeats 1000000 in
theorem double_any (N b : Nat) (hN : N < big256) (hb : b ≤ 1) (w : World) :
  Gives 103 #[num N, .int .u64 b] w (num ((2 * N + b) % big256)) := by
 obtain ⟨n0, n1, n2, n3, hn, h0, h1, h2, h3, HN⟩ := num_open N hN
 rw [hn]
 have fin : Value.agg #[.int .u64 (bits .or .u64 (IntKind.u64.wrap ((n0 : Int) * 2)) b), .int .u64 (bits .or .u64 (IntKind.u64.wrap ((n1 : Int) * 2)) ((n0 : Int) / 9223372036854775808)),
   .int .u64 (bits .or .u64 (IntKind.u64.wrap ((n2 : Int) * 2)) ((n1 : Int) / 9223372036854775808)), .int .u64 (bits .or .u64 (IntKind.u64.wrap ((n3 : Int) * 2)) ((n2 : Int) / 9223372036854775808))] = num ((2 * N + b) % big256) := by
  have e0 : (n0 : Int) / 9223372036854775808 = ((n0 / 9223372036854775808 : Nat) : Int) := by omega
  have e1 : (n1 : Int) / 9223372036854775808 = ((n1 / 9223372036854775808 : Nat) : Int) := by omega
  have e2 : (n2 : Int) / 9223372036854775808 = ((n2 / 9223372036854775808 : Nat) : Int) := by omega
  rw [e0, e1, e2, dbl_word _ _ hb, dbl_word _ _ (by omega), dbl_word _ _ (by omega), dbl_word _ _ (by omega)]
  refine num_mk (by omega) (by omega) (by omega) (by omega) ?_
  unfold big256
  omega
 clear hn h0 h1 h2 h3 HN hb
 have i0 : ∀ w, (Instr.index 98 (.agg #[.int .u64 n0, .int .u64 n1, .int .u64 n2, .int .u64 n3]) (.int .i64 0)).run Tryz.prog w = .ok (.int .u64 n0) w := fun _ => by kernel_rfl
 have i1 : ∀ w, (Instr.index 98 (.agg #[.int .u64 n0, .int .u64 n1, .int .u64 n2, .int .u64 n3]) (.int .i64 1)).run Tryz.prog w = .ok (.int .u64 n1) w := fun _ => by kernel_rfl
 have i2 : ∀ w, (Instr.index 98 (.agg #[.int .u64 n0, .int .u64 n1, .int .u64 n2, .int .u64 n3]) (.int .i64 2)).run Tryz.prog w = .ok (.int .u64 n2) w := fun _ => by kernel_rfl
 have i3 : ∀ w, (Instr.index 98 (.agg #[.int .u64 n0, .int .u64 n1, .int .u64 n2, .int .u64 n3]) (.int .i64 3)).run Tryz.prog w = .ok (.int .u64 n3) w := fun _ => by kernel_rfl
 have HF := Lib.hid fin
 clear fin
 go_enter Tryz.func103, Tryz.ntmps103
 go_wp2
 go_rounds 5
 go_returns
 exact ⟨by rw [← HF.out], by go_grown⟩

theorem int_one (c : Nat) : (c : Int) = 1 ↔ c = 1 := by omega
theorem four_key (d0 d1 d2 d3 o0 o1 o2 o3 n0 n1 n2 n3 c0 c1 c2 c3 V N O: Nat)
 (e0 : d0 + o0 + 0 = n0 + 18446744073709551616 * c0) (e1 : d1 + o1 + c0 = n1 + 18446744073709551616 * c1) (e2 : d2 + o2 + c1 = n2 + 18446744073709551616 * c2) (e3 : d3 + o3 + c2 = n3 + 18446744073709551616 * c3)
  (HN : N = n0 + 18446744073709551616 * (n1 + 18446744073709551616 * (n2 + 18446744073709551616 * n3))) (HO : O = o0 + 18446744073709551616 * (o1 + 18446744073709551616 * (o2 + 18446744073709551616 * o3)))
  (hV : V = d0 + 18446744073709551616 * (d1 + 18446744073709551616 * (d2 + 18446744073709551616 * d3))) : V + O = N + big256 * c3 := by
 unfold big256; omega
theorem four_sum (d0 d1 d2 d3 o0 o1 o2 o3 n0 n1 n2 n3 c0 c1 c2 c3 N O: Nat)
 (e0 : d0 + 18446744073709551616 * c0 = n0 + o0 + 0) (e1 : d1 + 18446744073709551616 * c1 = n1 + o1 + c0) (e2 : d2 + 18446744073709551616 * c2 = n2 + o2 + c1) (e3 : d3 + 18446744073709551616 * c3 = n3 + o3 + c2)
  (HN : N = n0 + 18446744073709551616 * (n1 + 18446744073709551616 * (n2 + 18446744073709551616 * n3))) (HO : O = o0 + 18446744073709551616 * (o1 + 18446744073709551616 * (o2 + 18446744073709551616 * o3))) :
  N + O = d0 + 18446744073709551616 * (d1 + 18446744073709551616 * (d2 + 18446744073709551616 * d3)) + big256 * c3 := by
 unfold big256; omega
theorem four_lt (d0 d1 d2 d3 V: Nat) (h0 : d0 < 18446744073709551616) (h1 : d1 < 18446744073709551616) (h2 : d2 < 18446744073709551616) (h3 : d3 < 18446744073709551616)
  (hV : V = d0 + 18446744073709551616 * (d1 + 18446744073709551616 * (d2 + 18446744073709551616 * d3))) : V < big256 := by
 unfold big256; omega
theorem four_dif (V O N c3: Nat) (key : V + O = N + big256 * c3) (lV : V < big256) (lO : O < big256) (lN : N < big256) (l3 : c3 ≤ 1): (N + big256 - O) % big256 = V ∧ (c3 = 1 ↔ N < O) := by
  unfold big256 at *
  rcases (show c3 = 0 ∨ c3 = 1 by omega) with rfl | rfl <;> omega

theorem minus_num {n0 n1 n2 n3 o0 o1 o2 o3 : Nat} (h0 : n0 < 18446744073709551616) (h1 : n1 < 18446744073709551616) (h2 : n2 < 18446744073709551616) (h3 : n3 < 18446744073709551616)
  (g0 : o0 < 18446744073709551616) (g1 : o1 < 18446744073709551616) (g2 : o2 < 18446744073709551616) (g3 : o3 < 18446744073709551616) {N O c0 c1 c2 c3 d0 d1 d2 d3 : Nat}
  (HN : N = n0 + 18446744073709551616 * (n1 + 18446744073709551616 * (n2 + 18446744073709551616 * n3))) (HO : O = o0 + 18446744073709551616 * (o1 + 18446744073709551616 * (o2 + 18446744073709551616 * o3)))
  (hc0 : c0 = borW n0 o0 0) (hd0 : d0 = difW n0 o0 0) (hc1 : c1 = borW n1 o1 c0) (hd1 : d1 = difW n1 o1 c0) (hc2 : c2 = borW n2 o2 c1) (hd2 : d2 = difW n2 o2 c1) (hc3 : c3 = borW n3 o3 c2) (hd3 : d3 = difW n3 o3 c2) :
  Value.agg #[.int .u64 d0, .int .u64 d1, .int .u64 d2, .int .u64 d3] = num ((N + big256 - O) % big256) ∧ ((c3 : Int) == 1) = decide (N < O) := by
 have l0 : c0 ≤ 1 := hc0 ▸ borW_le _ _ _
 have l1 : c1 ≤ 1 := hc1 ▸ borW_le _ _ _
 have l2 : c2 ≤ 1 := hc2 ▸ borW_le _ _ _
 have l3 : c3 ≤ 1 := hc3 ▸ borW_le _ _ _
 have e0 := dif_bor h0 g0 (c := 0) (by decide)
 have e1 := dif_bor h1 g1 l0
 have e2 := dif_bor h2 g2 l1
 have e3 := dif_bor h3 g3 l2
 have k0 := difW_lt n0 o0 0
 have k1 := difW_lt n1 o1 c0
 have k2 := difW_lt n2 o2 c1
 have k3 := difW_lt n3 o3 c2
 rw [← hd0, ← hc0] at e0
 rw [← hd1, ← hc1] at e1
 rw [← hd2, ← hc2] at e2
 rw [← hd3, ← hc3] at e3
 rw [← hd0] at k0
 rw [← hd1] at k1
 rw [← hd2] at k2
 rw [← hd3] at k3
 clear hc0 hc1 hc2 hc3 hd0 hd1 hd2 hd3
 obtain ⟨V, hV⟩ : ∃ V, V = d0 + 18446744073709551616 * (d1 + 18446744073709551616 * (d2 + 18446744073709551616 * d3)) := ⟨_, rfl⟩
 have hM := four_dif V O N c3 (four_key d0 d1 d2 d3 o0 o1 o2 o3 n0 n1 n2 n3 c0 c1 c2 c3 V N O e0 e1 e2 e3 HN HO hV) (four_lt d0 d1 d2 d3 V k0 k1 k2 k3 hV) (four_lt o0 o1 o2 o3 O g0 g1 g2 g3 HO) (four_lt n0 n1 n2 n3 N h0 h1 h2 h3 HN) l3
 constructor
 ·rw [hM.1]
  exact num_mk k0 k1 k2 k3 hV
 ·rw [Bool.eq_iff_iff]
  simp only [beq_iff_eq, decide_eq_true_eq]
  exact Iff.trans (int_one c3) hM.2

set_option maxHeartbeats 1000000 in
theorem qminus_any (N O : Nat) (hN : N < big256) (hO : O < big256) (w : World) :
  Gives 104 #[num N, num O] w (.tuple #[num ((N + big256 - O) % big256), .bool (decide (N < O))]) := by
 obtain ⟨n0, n1, n2, n3, hn, h0, h1, h2, h3, HN⟩ := num_open N hN
 obtain ⟨o0, o1, o2, o3, ho, g0, g1, g2, g3, HO⟩ := num_open O hO
 rw [hn, ho]
 obtain ⟨c0, hc0⟩ : ∃ c, c = borW n0 o0 0 := ⟨_, rfl⟩
 obtain ⟨d0, hd0⟩ : ∃ c, c = difW n0 o0 0 := ⟨_, rfl⟩
 obtain ⟨c1, hc1⟩ : ∃ c, c = borW n1 o1 c0 := ⟨_, rfl⟩
 obtain ⟨d1, hd1⟩ : ∃ c, c = difW n1 o1 c0 := ⟨_, rfl⟩
 obtain ⟨c2, hc2⟩ : ∃ c, c = borW n2 o2 c1 := ⟨_, rfl⟩
 obtain ⟨d2, hd2⟩ : ∃ c, c = difW n2 o2 c1 := ⟨_, rfl⟩
 obtain ⟨c3, hc3⟩ : ∃ c, c = borW n3 o3 c2 := ⟨_, rfl⟩
 obtain ⟨d3, hd3⟩ : ∃ c, c = difW n3 o3 c2 := ⟨_, rfl⟩
 have s0 : ∀ w, (callFunc 116 #[.int .u64 n0, .int .u64 o0, .int .u64 0]).run Tryz.prog w = .ok (.value (.tuple #[.int .u64 d0, .int .u64 c0])) w := fun w => by rw [hd0, hc0]; exact run_Sub64 n0 o0 0 (by decide) w
 have s1 : ∀ w, (callFunc 116 #[.int .u64 n1, .int .u64 o1, .int .u64 c0]).run Tryz.prog w = .ok (.value (.tuple #[.int .u64 d1, .int .u64 c1])) w := fun w => by rw [hd1, hc1]; exact run_Sub64 n1 o1 c0 (hc0 ▸ borW_le _ _ _) w
 have s2 : ∀ w, (callFunc 116 #[.int .u64 n2, .int .u64 o2, .int .u64 c1]).run Tryz.prog w = .ok (.value (.tuple #[.int .u64 d2, .int .u64 c2])) w := fun w => by rw [hd2, hc2]; exact run_Sub64 n2 o2 c1 (hc1 ▸ borW_le _ _ _) w
 have s3 : ∀ w, (callFunc 116 #[.int .u64 n3, .int .u64 o3, .int .u64 c2]).run Tryz.prog w = .ok (.value (.tuple #[.int .u64 d3, .int .u64 c3])) w := fun w => by rw [hd3, hc3]; exact run_Sub64 n3 o3 c2 (hc2 ▸ borW_le _ _ _) w
 have HF := Lib.hid (minus_num h0 h1 h2 h3 g0 g1 g2 g3 HN HO hc0 hd0 hc1 hd1 hc2 hd2 hc3 hd3)
 clear hn ho h0 h1 h2 h3 g0 g1 g2 g3 HN HO hc0 hd0 hc1 hd1 hc2 hd2 hc3 hd3 hN hO
 go_enter Tryz.func104, Tryz.ntmps104
 go_wp2
 refine wp_loop_rounds 5 ?_
 iterate 4 (rw [rounds_succ]; go_wp2; go_region; go_wp2)
 rw [rounds_succ]
 go_wp2
 go_returns
 exact ⟨by rw [HF.out.1, HF.out.2], by go_grown⟩

end Go.Proofs.YthddoelflmoedaaGreat
