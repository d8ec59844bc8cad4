/-
  Layer 6: the document's points by their digits; both multiples of the base; the sum of points.
  Layer 6: 'CurveMuls': any multiple of the base, and what is told of it. No condition.
-/
import Derived.Test.YtmebjoehmheknaaJ25
import Derived.Test.YtmebjoehmheknaaJ26
import Derived.Test.YtmebjoehmheknaaJ27
namespace Go.Proofs.Ytmebjoehmheknaa
open Go.RowKit
set_option linter.unusedVariables false
set_option linter.unusedSimpArgs false

theorem f_neg_mul {n : Nat} [NeZero n] (x z : Fin n) : -(x * z) = -x * z := by grobner
/-- These digits tell a point, as the document has it. -/
def R4 (L : List Nat) (P : Pt) : Prop := ∃ r : P3, L = rpL r.1 r.2.1 r.2.2 ∧ R3 r P
abbrev rt (L : List Nat) : Value := .agg (ints .u32 L)
theorem R4.len {L : List Nat} {P : Pt} (h : R4 L P) : L.length = 24 := by
  obtain ⟨r, rfl, _⟩ := h
  exact rpL_len _ _ _
theorem rAdd4 {L M : List Nat} {P Q : Pt} (h : R4 L P) (h' : R4 M Q) : ∃ N, R4 N (padd P Q) ∧ ∀ w, Gives 23 #[rt L, rt M, nm dN] w (rt N) := by
  obtain ⟨r, rfl, h1⟩ := h
  obtain ⟨s, rfl, h2⟩ := h'
  exact ⟨_, ⟨add3 r s, rfl, add3_ok h1 h2⟩, fun w => add3_any h1 h2 w⟩
theorem rMul4 {L b : List Nat} {P : Pt} (h : R4 L P) (hb : b.length = 32) (db : Digs 256 b) : ∃ N, R4 N (smul (val 256 b) P) ∧ ∀ w, Gives 24 #[rt L, .agg (ints .u8 b)] w (rt N) := by
  obtain ⟨r, rfl, h1⟩ := h
  obtain ⟨s, hs, hg⟩ := rPMul_any h1 hb db
  exact ⟨_, ⟨s, rfl, hs⟩, hg⟩
theorem rNeg4 {L : List Nat} {P : Pt} (h : R4 L P) : ∃ N, R4 N (pneg P) ∧ ∀ w, Gives 26 #[rt L] w (rt N) := by
  obtain ⟨⟨X, Y, Z⟩, rfl, h1⟩ := h
  refine ⟨_, ⟨((pN - X) % pN, Y, Z), rfl, ?_⟩, fun w => rNeg_any h1.lx w⟩
  have hlx : X < pN := h1.lx
  exact ⟨Nat.mod_lt _ pos_pN, h1.ly, h1.lz, h1.nz, by
    show kk pN ((pN - X) % pN) = - P.x * kk pN Z
    have := h1.ex
    rw [kk_mod, kk_neg (Nat.le_of_lt hlx), show kk pN X = P.x * kk pN Z from this]
    exact f_neg_mul _ _, h1.ey⟩
theorem rBytes4 {L : List Nat} {P : Pt} (h : R4 L P) (w : World) : Gives 22 #[rt L] w (.agg (ints .u8 (encB P))) := by
  obtain ⟨r, rfl, h1⟩ := h
  exact rPBytes_any h1 w
theorem rDecode4 {b : List Nat} {P : Pt} (hb : b.length = 32) (db : Digs 256 b) (hP : encN P = val 256 b) : ∃ L, R4 L P ∧ ∀ w, Gives 20 #[.agg (ints .u8 b)] w (.tuple #[rt L, .bool true]) := by
  obtain ⟨r, h1, h2⟩ := rPDecode_yes hb db hP
  exact ⟨_, ⟨r, rfl, h1⟩, h2⟩
theorem rZero4 : R4 (rpL 0 1 1) pzero := ⟨(0, 1, 1), rfl, RRep_zero⟩
theorem rDecode4_no {b : List Nat} (hb : b.length = 32) (db : Digs 256 b) (h : ¬ isPt (val 256 b)) (w : World) : Gives 20 #[.agg (ints .u8 b)] w (.tuple #[rt (rpL 0 1 1), .bool false]) := rPDecode_no hb db h w
theorem rBase4 : ∃ L, R4 L baseP ∧ ∀ w, Gives 27 #[] w (rt L) := by
  obtain ⟨r, h1, h2⟩ := rPBase_any
  exact ⟨_, ⟨r, rfl, h1⟩, h2⟩

set_option maxHeartbeats 4000000 in
theorem two_any {b : List Nat} (hb : b.length = 32) (db : Digs 256 b) : ∃ p L, PRep p (smul (val 256 b) baseP) ∧ R4 L (smul (val 256 b) baseP) ∧ ∀ w, Gives 25 #[.agg (ints .u8 b)] w (.tuple #[pt p, rt L]) := by
  obtain ⟨g, hg, Gg⟩ := PBase_any
  obtain ⟨p, hp, Gp⟩ := PMul_any hg hb db
  obtain ⟨M, hM, GM⟩ := rBase4
  obtain ⟨L, hL, GL⟩ := rMul4 hM hb db
  refine ⟨p, L, hp, hL, fun w => ?_⟩
  have lg := hg.len
  have lp := hp.len
  have lM := hM.len
  have lL := hL.len
  have Hg := Lib.hid Gg
  clear Gg hg
  have Hp := Lib.hid Gp
  clear Gp hp
  have HM := Lib.hid GM
  clear GM hM
  have HL := Lib.hid GL
  clear GL hL
  clear db
  have hE0 := Env.nil w
  go_enter Try.func25, Try.ntmps25
  repeat ((fail_if_success with_reducible show wA ..); (fail_if_success with_reducible show wB ..); go_step)
  refine wl_step (st_boxA hE0 rfl rfl rfl ?_)
  intro g0 w1 hb1 hE1
  clear hE0
  simp only [Act.put, pA, pB, pC]
  refine wl_step (st_alloc (zs := ints .u64 (List.replicate 20 0)) hE1 rfl rfl (fun w => by kernel_rfl) ?_)
  intro g1 w2 hb2 hE2
  clear hE1
  simp only [Act.put, pA, pB, pC]
  refine wl_step (st_alloc (zs := ints .u32 (List.replicate 24 0)) hE2 rfl rfl (fun w => by kernel_rfl) ?_)
  intro g2 w3 hb3 hE3
  clear hE2
  simp only [Act.put, pA, pB, pC]
  repeat ((fail_if_success with_reducible show wA ..); (fail_if_success with_reducible show wB ..); go_step)
  refine wp_region_B (n := 8) 6 (by kernel_rfl) rfl hE3 ?_
  intro w4 hb4 hE4
  clear hE3
  refine wpB_take (i := 1) (by kernel_rfl) rfl (by kernel_rfl) (fun _ _ _ h => h) rfl (v_load (i := 2) hE4 rfl rfl rfl Try.underlying22 rfl (szA (n := 32))) ?_
  simp only [Act.put, pA, pB, pC]
  refine wpB_take (i := 4) (by kernel_rfl) rfl (by kernel_rfl) (fun _ _ _ h => h) rfl (v_load (i := 2) hE4 rfl rfl rfl Try.underlying22 rfl (szA (n := 32))) ?_
  simp only [Act.put, pA, pB, pC]
  refine wpB_step (i := 0) (by kernel_rfl) rfl (st_gives hE4 rfl (run_call rfl Try.call8) (Hg.out _) ?_)
  intro w5 hb5 hE5
  clear hE4
  refine ⟨fun _ => hb5, ?_⟩
  simp only [Act.put, pA, pB, pC]
  refine wpB_step (i := 2) (by kernel_rfl) rfl (st_gives hE5 rfl (run_call rfl Try.call9) (Hp.out _) ?_)
  intro w6 hb6 hE6
  clear hE5
  refine ⟨fun _ => hb6, ?_⟩
  simp only [Act.put, pA, pB, pC]
  refine wpB_step (i := 3) (by kernel_rfl) rfl (st_gives hE6 rfl (run_call rfl Try.call27) (HM.out _) ?_)
  intro w7 hb7 hE7
  clear hE6
  refine ⟨fun _ => hb7, ?_⟩
  simp only [Act.put, pA, pB, pC]
  refine wpB_step (i := 5) (by kernel_rfl) rfl (st_gives hE7 rfl (run_call rfl Try.call24) (HL.out _) ?_)
  intro w8 hb8 hE8
  clear hE7
  refine ⟨fun _ => hb8, ?_⟩
  simp only [Act.put, pA, pB, pC]
  refine wpB_step (i := 6) (by kernel_rfl) rfl (st_store (i := 1) hE8 rfl rfl rfl rfl rfl (szA (n := 20)) (by first | (simp only [ints_size, digs_length, List.length_replicate, List.length_cons, List.length_nil]; done) | (simp only [ints_size, digs_length, List.length_replicate, List.length_cons, List.length_nil, List.length_set, List.length_append]; omega) | rfl) (by first | exact ints_one _ _ | decide | simp [*]) ?_)
  intro w9 hE9
  clear hE8
  simp only [pB, pC] at hE9
  refine ⟨fun h => absurd h (by decide), ?_⟩
  simp only [Act.put, pA, pB, pC]
  refine wpB_step (i := 7) (by kernel_rfl) rfl (st_store (i := 0) hE9 rfl rfl rfl rfl rfl (szA (n := 24)) (by first | (simp only [ints_size, digs_length, List.length_replicate, List.length_cons, List.length_nil]; done) | (simp only [ints_size, digs_length, List.length_replicate, List.length_cons, List.length_nil, List.length_set, List.length_append]; omega) | rfl) (by first | exact ints_one _ _ | decide | simp [*]) ?_)
  intro w10 hE10
  clear hE9
  simp only [pB, pC] at hE10
  refine ⟨fun h => absurd h (by decide), ?_⟩
  simp only [Act.put, pA, pB, pC]
  refine wpB_done (by kernel_rfl) ?_ _
  repeat ((fail_if_success with_reducible show wA ..); (fail_if_success with_reducible show wB ..); go_step)
  refine bodyPost_ret (results_cc rfl _ _ _ _ _ _ _ _ (0, 0) (0, 0) _ _ rfl (hE10.get (i := 1) rfl) Try.underlying28 rfl (szA (n := 20)) rfl (hE10.get (i := 0) rfl) Try.underlying45 rfl (szA (n := 24))) rfl ⟨rfl, hE10.below⟩

/-- The sum of points, one by one. -/
noncomputable def sumL (rows : List (List Nat)) : Nat → List Nat
  | 0 => zeroL
  | k + 1 => addP (sumL rows k) (rows.getD k [])
def psum (f : Nat → Pt) : Nat → Pt
  | 0 => pzero
  | k + 1 => padd (psum f k) (f k)
theorem sumL_ok {rows : List (List Nat)} {f : Nat → Pt} (h : ∀ k, k < rows.length → PRep (rows.getD k []) (f k)) : ∀ k, k ≤ rows.length → PRep (sumL rows k) (psum f k)
  | 0, _ => PRep_zero
  | k + 1, hk => (addP_ok (sumL_ok h k (by omega)) (h k (by omega))).1
set_option maxRecDepth 100000 in
set_option maxHeartbeats 4000000 in
theorem Sum_walk {rows : List (List Nat)} {f : Nat → Pt} (h : ∀ k, k < rows.length → PRep (rows.getD k []) (f k)) (hn : rows.length < 4611686018427387904) {n : Nat} (hne : rows.length = n) {v : Value} {w : World}
    (hv : (v = .slice none 0 0 ∧ n = 0) ∨ ∃ g T, v = .slice (some ⟨g, 0, none⟩) n n ∧ w.heap[g]? = some (.cells (ints .u64 rows.flatten) T (0, 0))) : Gives 29 #[v] w (pt (sumL rows n)) := by
  obtain ⟨p, hp, hc⟩ : ∃ p, v = .slice p n n ∧ ∀ k, k < n → ∃ g, p = some ⟨g, 0, none⟩ ∧ w.rangeAt g (0 + k * 20) (ints .u64 (rows.getD k [])).toList := by
    rcases hv with ⟨rfl, rfl⟩ | ⟨g, T, rfl, hg⟩
    · exact ⟨none, rfl, fun k hk => absurd hk (Nat.not_lt_zero _)⟩
    · refine ⟨_, rfl, fun k hk => ⟨g, rfl, ?_⟩⟩
      have hr : ∀ r ∈ rows, r.length = 20 := fun r hr => by
        obtain ⟨i, hi, rfl⟩ := List.getElem_of_mem hr
        have := (h i hi).len
        rwa [List.getD_eq_getElem?_getD, List.getElem?_eq_getElem hi] at this
      have hk' : k < rows.length := by omega
      have hl := rows_length 20 rows hr
      have hg2 := rows_get 20 rows hr k hk'
      have h1 := World.rangeAt_of_block hg (k * 20) 20
      have e : ((ints .u64 rows.flatten).extract (k * 20) (k * 20 + 20)).toList = (ints .u64 (rows.getD k [])).toList := by
        have : (ints .u64 ((rows.flatten.drop (k * 20)).take 20)).toList = (ints .u64 (rows.getD k [])).toList := by
          rw [hg2, List.getD_eq_getElem?_getD, List.getElem?_eq_getElem hk']
          rfl
        rw [← this]
        simp [ints, List.map_take, List.map_drop]
      rw [e] at h1
      rwa [Nat.zero_add]
  subst hp
  have Hs := Lib.hid (fun k hk => sumL_ok h k hk)
  have Hr := Lib.hid h
  have Hc := Lib.hid hc
  have Hne := Lib.hid hne
  have HZ := Lib.hid PZero_any
  have lz : zeroL.length = 20 := rfl
  rw [hne] at hn
  clear hv h hc hne
  have hE0 := Env.nil w
  go_enter Try.func29, Try.ntmps29
  repeat ((fail_if_success with_reducible show wA ..); (fail_if_success with_reducible show wB ..); go_step)
  refine wl_step (st_alloc (zs := ints .u64 (List.replicate 20 0)) hE0 rfl rfl (fun w => by kernel_rfl) ?_)
  intro g0 w1 hb1 hE1
  clear hE0
  simp only [Act.put, pA, pB, pC]
  repeat ((fail_if_success with_reducible show wA ..); (fail_if_success with_reducible show wB ..); go_step)
  refine wl_step (st_gives hE1 rfl (run_call rfl Try.call12) (HZ.out _) ?_)
  intro w2 hb2 hE2
  clear hE1
  simp only [Act.put, pA, pB, pC]
  refine wl_step (st_alloc (zs := ints .u64 (List.replicate 20 0)) hE2 rfl rfl (fun w => by kernel_rfl) ?_)
  intro g1 w3 hb3 hE3
  clear hE2
  simp only [Act.put, pA, pB, pC]
  refine wl_step (st_store (i := 0) hE3 rfl rfl rfl rfl rfl (szA (n := 20)) (by first | (simp only [ints_size, digs_length, List.length_replicate, List.length_cons, List.length_nil]; done) | (simp only [ints_size, digs_length, List.length_replicate, List.length_cons, List.length_nil, List.length_set, List.length_append]; omega) | rfl) (by first | exact ints_one _ _ | decide | simp [*]) ?_)
  intro w4 hE4
  clear hE3
  simp only [pB, pC] at hE4
  simp only [Act.put, pA, pB, pC]
  repeat ((fail_if_success with_reducible show wA ..); (fail_if_success with_reducible show wB ..); go_step)
  refine wv (v_moveT (.inl rfl) rfl) ?_
  simp only [Act.put, pA, pB, pC]
  refine wv (v_len rfl rfl Try.underlying80 (by omega)) ?_
  simp only [Act.put, pA, pB, pC]
  refine wv (v_moveC (.inl rfl)) ?_
  simp only [Act.put, pA, pB, pC]
  go_wp2
  go_loopw [9] (fun i wr => ∃ K : Nat, K ≤ n ∧ i = .int .i64 K ∧ Env w [⟨g1, 28, ints .u64 (sumL rows K)⟩, ⟨g0, 28, ints .u64 (List.replicate 20 0)⟩] wr) (fun i _ => n - (intOf i).toNat)
  case atStart => exact ⟨0, Nat.zero_le _, rfl, hE4⟩
  case round =>
    clear hE4
    obtain ⟨K, hK, rfl, hE0⟩ := hrel
    have hX := Hs.out K (by rw [Hne.out]; exact hK)
    have lX := hX.len
    by_cases hlt : K < n
    · have hK' : K < rows.length := by rw [Hne.out]; exact hlt
      obtain ⟨g, rfl, hrow⟩ := Hc.out K hlt
      have hr := Hr.out K hK'
      have ha := addP_ok hX hr
      have e : addP (sumL rows K) (rows.getD K []) = sumL rows (K + 1) := rfl
      rw [e] at ha
      have lY := ha.1.len
      have lr := hr.len
      obtain ⟨X, hXe⟩ : ∃ X, sumL rows K = X := ⟨_, rfl⟩
      obtain ⟨Y, hYe⟩ : ∃ Y, sumL rows (K + 1) = Y := ⟨_, rfl⟩
      obtain ⟨r, hre⟩ : ∃ r, rows.getD K [] = r := ⟨_, rfl⟩
      rw [hXe] at hE0 ha lX
      rw [hYe] at ha lY
      rw [hre] at ha hrow lr
      have HA := Lib.hid ha.2
      have Hrow := Lib.hid hrow
      have HY := Lib.hid hYe
      clear hX hr ha e hXe hYe hre hrow hK'
      repeat ((fail_if_success with_reducible show wA ..); (fail_if_success with_reducible show wB ..); go_step)
      refine wv (v_lss rfl rfl rfl) ?_
      simp only [Act.put, pA, pB, pC]
      repeat ((fail_if_success with_reducible show wA ..); (fail_if_success with_reducible show wB ..); go_step)
      refine wv (v_indexSs (s := 20) rfl rfl rfl Try.underlying80 (by kernel_rfl) hlt) ?_
      simp only [Act.put, pA, pB, pC]
      refine wv (v_loadMid (cs := ints .u64 r) rfl rfl (fun w1 hb => range_below Hrow.out (hE0.below.trans (hb.mono hE0.below.size))) Try.underlying28 rfl (sz_of (n := 20) (by kernel_rfl) (by rw [ints_size, lr]))) ?_
      simp only [Act.put, pA, pB, pC]
      refine wl_step (st_alloc (zs := ints .u64 (List.replicate 20 0)) hE0 rfl rfl (fun w => by kernel_rfl) ?_)
      intro g2 w1 hb1 hE1
      clear hE0
      simp only [Act.put, pA, pB, pC]
      refine wl_step (st_store (i := 0) hE1 rfl rfl rfl rfl rfl (szA (n := 20)) (by first | (simp only [ints_size, digs_length, List.length_replicate, List.length_cons, List.length_nil]; done) | (simp only [ints_size, digs_length, List.length_replicate, List.length_cons, List.length_nil, List.length_set, List.length_append]; omega) | rfl) (by first | exact ints_one _ _ | decide | simp [*]) ?_)
      intro w2 hE2
      clear hE1
      simp only [pB, pC] at hE2
      simp only [Act.put, pA, pB, pC]
      repeat ((fail_if_success with_reducible show wA ..); (fail_if_success with_reducible show wB ..); go_step)
      refine wv (v_load (i := 1) hE2 rfl rfl rfl Try.underlying28 rfl (szA (n := 20))) ?_
      simp only [Act.put, pA, pB, pC]
      refine wv (v_load (i := 0) hE2 rfl rfl rfl Try.underlying28 rfl (szA (n := 20))) ?_
      simp only [Act.put, pA, pB, pC]
      refine wl_step (st_gives hE2 rfl (run_call rfl Try.call10) (HA.out _) ?_)
      intro w3 hb3 hE3
      clear hE2
      simp only [Act.put, pA, pB, pC]
      refine wl_step (st_store (i := 1) hE3 rfl rfl rfl rfl rfl (szA (n := 20)) (by first | (simp only [ints_size, digs_length, List.length_replicate, List.length_cons, List.length_nil]; done) | (simp only [ints_size, digs_length, List.length_replicate, List.length_cons, List.length_nil, List.length_set, List.length_append]; omega) | rfl) (by first | exact ints_one _ _ | decide | simp [*]) ?_)
      intro w4 hE4
      clear hE3
      simp only [pB, pC] at hE4
      simp only [Act.put, pA, pB, pC]
      repeat ((fail_if_success with_reducible show wA ..); (fail_if_success with_reducible show wB ..); go_step)
      refine wv (v_add (n := 1) rfl rfl rfl (w_i64 (by omega))) ?_
      simp only [Act.put, pA, pB, pC]
      refine wv (v_moveT (.inl rfl) rfl) ?_
      simp only [Act.put, pA, pB, pC]
      go_wp2
      go_roundw
      case rel => exact ⟨K + 1, by omega, rfl, by rw [HY.out]; exact (hE4).sub (List.sublist_cons_self _ _)⟩
      case measure => simp [intOf]; omega
    · have hK' : K = n := by omega
      subst hK'
      repeat ((fail_if_success with_reducible show wA ..); (fail_if_success with_reducible show wB ..); go_step)
      refine wv (v_lss rfl rfl rfl) ?_
      simp only [Act.put, pA, pB, pC]
      repeat ((fail_if_success with_reducible show wA ..); (fail_if_success with_reducible show wB ..); go_step)
      refine wv (v_load (i := 0) hE0 rfl rfl rfl Try.underlying28 rfl (szA (n := 20))) ?_
      simp only [Act.put, pA, pB, pC]
      refine wl_step (st_store (i := 1) hE0 rfl rfl rfl rfl rfl (szA (n := 20)) (by first | (simp only [ints_size, digs_length, List.length_replicate, List.length_cons, List.length_nil]; done) | (simp only [ints_size, digs_length, List.length_replicate, List.length_cons, List.length_nil, List.length_set, List.length_append]; omega) | rfl) (by first | exact ints_one _ _ | decide | simp [*]) ?_)
      intro w1 hE1
      clear hE0
      simp only [pB, pC] at hE1
      simp only [Act.put, pA, pB, pC]
      repeat ((fail_if_success with_reducible show wA ..); (fail_if_success with_reducible show wB ..); go_step)
      refine bodyPost_ret (results_cell_row rfl _ _ _ _ _ (0, 0) _ rfl (hE1.get (i := 1) rfl) Try.underlying28 rfl (szA (n := 20))) rfl ⟨rfl, hE1.below⟩
theorem Sum_any {rows : List (List Nat)} {f : Nat → Pt} (h : ∀ k, k < rows.length → PRep (rows.getD k []) (f k)) (hn : rows.length < 4611686018427387904) : ∃ c, PRep c (psum f rows.length) ∧ ∀ (v : Value) (w : World),
    ((v = .slice none 0 0 ∧ rows.length = 0) ∨ ∃ g T, v = .slice (some ⟨g, 0, none⟩) rows.length rows.length ∧ w.heap[g]? = some (.cells (ints .u64 rows.flatten) T (0, 0))) → Gives 29 #[v] w (pt c) :=
  ⟨_, sumL_ok h _ (Nat.le_refl _), fun v w hv => Sum_walk h hn rfl hv⟩
end Go.Proofs.Ytmebjoehmheknaa
namespace Go.Proofs.Ytmebjoehmheknaa
open Go.ChangeShapes Go.WideShapes Go.ChangeAt Go.RowKit
set_option linter.unusedVariables false
set_option linter.unusedSimpArgs false

set_option maxRecDepth 100000 in
set_option maxHeartbeats 8000000 in
theorem curveMuls_walk (b : List Nat) (hb : b.length = 32) (db : Digs 256 b) (w : World) : Gives 6 #[.agg (ints .u8 b)] w (.bool true) := by
  have HW := Lib.hid (fun w => awake_any w)
  obtain ⟨p, L, hp, hL, G2⟩ := two_any hb db
  obtain ⟨P, hPe⟩ : ∃ P, smul (val 256 b) baseP = P := ⟨_, rfl⟩
  rw [hPe] at hp hL
  have hB := fun w => PBytes_any hp w
  have hR := fun w => rBytes4 hL w
  obtain ⟨q, hq, Gq⟩ := PDecode_yes (encB_len P) (encB_Digs P) (encB_val P).symm
  obtain ⟨n, hn, Gn⟩ := PNeg_any hp
  obtain ⟨M, hM, GM⟩ := rNeg4 hL
  have hBn := fun w => PBytes_any hn w
  have hRn := fun w => rBytes4 hM w
  have hS := fun w => PSame_any hq hp w
  rw [decide_eq_true rfl] at hS
  have lb1 := encB_len P
  have lb2 := encB_len (pneg P)
  obtain ⟨b1, hb1⟩ : ∃ b, encB P = b := ⟨_, rfl⟩
  obtain ⟨b2, hb2⟩ : ∃ b, encB (pneg P) = b := ⟨_, rfl⟩
  rw [hb1] at hB hR Gq lb1
  rw [hb2] at hBn hRn lb2
  have lp := hp.len
  have lL := hL.len
  have lq := hq.len
  have ln := hn.len
  have lM := hM.len
  have HB := Lib.hid hB
  clear hB
  have HR := Lib.hid hR
  clear hR
  have HBn := Lib.hid hBn
  clear hBn
  have HRn := Lib.hid hRn
  clear hRn
  have HS := Lib.hid hS
  clear hS
  have K2 := Lib.hid G2
  clear G2
  have Kq := Lib.hid Gq
  clear Gq
  have Kn := Lib.hid Gn
  clear Gn
  have KM := Lib.hid GM
  clear GM
  clear hp hL hq hn hM hb1 hb2 hPe db
  have hE0 := Env.nil w
  go_enter Try.func6, Try.ntmps6
  repeat ((fail_if_success with_reducible show wA ..); (fail_if_success with_reducible show wB ..); go_step)
  refine wl_step (st_boxA hE0 rfl rfl rfl ?_)
  intro g0 w1 hb1 hE1
  clear hE0
  simp only [Act.put, pA, pB, pC]
  refine wv (v_moveC (.inr rfl)) ?_
  simp only [Act.put, pA, pB, pC]
  repeat ((fail_if_success with_reducible show wA ..); (fail_if_success with_reducible show wB ..); go_step)
  refine wv (v_load (i := 0) hE1 rfl rfl rfl Try.underlying22 rfl (szA (n := 32))) ?_
  simp only [Act.put, pA, pB, pC]
  refine wl_step (st_gives hE1 rfl (run_call rfl Try.call25) (K2.out _) ?_)
  intro w2 hb2 hE2
  clear hE1
  simp only [Act.put, pA, pB, pC]
  refine wv (v_moveT (.inl rfl) rfl) ?_
  simp only [Act.put, pA, pB, pC]
  refine wv (v_extract rfl rfl rfl) ?_
  simp only [Act.put, pA, pB, pC]
  refine wv (v_extract rfl rfl rfl) ?_
  simp only [Act.put, pA, pB, pC]
  refine wl_step (st_alloc (zs := ints .u64 (List.replicate 20 0)) hE2 rfl rfl (fun w => by kernel_rfl) ?_)
  intro g1 w3 hb3 hE3
  clear hE2
  simp only [Act.put, pA, pB, pC]
  refine wl_step (st_alloc (zs := ints .u32 (List.replicate 24 0)) hE3 rfl rfl (fun w => by kernel_rfl) ?_)
  intro g2 w4 hb4 hE4
  clear hE3
  simp only [Act.put, pA, pB, pC]
  refine wl_step (st_store (i := 1) hE4 rfl rfl rfl rfl rfl (szA (n := 20)) (by first | (simp only [ints_size, digs_length, List.length_replicate, List.length_cons, List.length_nil]; done) | (simp only [ints_size, digs_length, List.length_replicate, List.length_cons, List.length_nil, List.length_set, List.length_append]; omega) | rfl) (by first | exact ints_one _ _ | decide | simp [*]) ?_)
  intro w5 hE5
  clear hE4
  simp only [pB, pC] at hE5
  simp only [Act.put, pA, pB, pC]
  refine wl_step (st_store (i := 0) hE5 rfl rfl rfl rfl rfl (szA (n := 24)) (by first | (simp only [ints_size, digs_length, List.length_replicate, List.length_cons, List.length_nil]; done) | (simp only [ints_size, digs_length, List.length_replicate, List.length_cons, List.length_nil, List.length_set, List.length_append]; omega) | rfl) (by first | exact ints_one _ _ | decide | simp [*]) ?_)
  intro w6 hE6
  clear hE5
  simp only [pB, pC] at hE6
  simp only [Act.put, pA, pB, pC]
  repeat ((fail_if_success with_reducible show wA ..); (fail_if_success with_reducible show wB ..); go_step)
  refine wv (v_load (i := 1) hE6 rfl rfl rfl Try.underlying28 rfl (szA (n := 20))) ?_
  simp only [Act.put, pA, pB, pC]
  refine wl_step (st_gives hE6 rfl (run_call rfl Try.call15) (HB.out _) ?_)
  intro w7 hb7 hE7
  clear hE6
  simp only [Act.put, pA, pB, pC]
  refine wl_step (st_gives hE7 rfl (run_call rfl Try.call19) (Kq.out _) ?_)
  intro w8 hb8 hE8
  clear hE7
  simp only [Act.put, pA, pB, pC]
  refine wv (v_moveT (.inl rfl) rfl) ?_
  simp only [Act.put, pA, pB, pC]
  refine wv (v_extract rfl rfl rfl) ?_
  simp only [Act.put, pA, pB, pC]
  refine wv (v_extract rfl rfl rfl) ?_
  simp only [Act.put, pA, pB, pC]
  refine wl_step (st_alloc (zs := ints .u64 (List.replicate 20 0)) hE8 rfl rfl (fun w => by kernel_rfl) ?_)
  intro g3 w9 hb9 hE9
  clear hE8
  simp only [Act.put, pA, pB, pC]
  refine wl_step (st_store (i := 0) hE9 rfl rfl rfl rfl rfl (szA (n := 20)) (by first | (simp only [ints_size, digs_length, List.length_replicate, List.length_cons, List.length_nil]; done) | (simp only [ints_size, digs_length, List.length_replicate, List.length_cons, List.length_nil, List.length_set, List.length_append]; omega) | rfl) (by first | exact ints_one _ _ | decide | simp [*]) ?_)
  intro w10 hE10
  clear hE9
  simp only [pB, pC] at hE10
  simp only [Act.put, pA, pB, pC]
  refine wv (v_moveT (.inr rfl) rfl) ?_
  simp only [Act.put, pA, pB, pC]
  repeat ((fail_if_success with_reducible show wA ..); (fail_if_success with_reducible show wB ..); go_step)
  refine wp_region_B (n := 26) 25 (by kernel_rfl) rfl hE10 ?_
  intro w11 hb11 hE11
  clear hE10
  refine wpB_take (i := 0) (by kernel_rfl) rfl (by kernel_rfl) (fun _ _ _ h => h) rfl (v_load (i := 2) hE11 rfl rfl rfl Try.underlying28 rfl (szA (n := 20))) ?_
  simp only [Act.put, pA, pB, pC]
  refine wpB_take (i := 2) (by kernel_rfl) rfl (by kernel_rfl) (fun _ _ _ h => h) rfl (v_load (i := 1) hE11 rfl rfl rfl Try.underlying45 rfl (szA (n := 24))) ?_
  simp only [Act.put, pA, pB, pC]
  refine wpB_step (i := 1) (by kernel_rfl) rfl (st_gives hE11 rfl (run_call rfl Try.call15) (HB.out _) ?_)
  intro w12 hb12 hE12
  clear hE11
  refine ⟨fun _ => hb12, ?_⟩
  simp only [Act.put, pA, pB, pC]
  refine wpB_step (i := 3) (by kernel_rfl) rfl (st_gives hE12 rfl (run_call rfl Try.call22) (HR.out _) ?_)
  intro w13 hb13 hE13
  clear hE12
  refine ⟨fun _ => hb13, ?_⟩
  simp only [Act.put, pA, pB, pC]
  refine wpB_take (i := 4) (by kernel_rfl) rfl (by kernel_rfl) (fun _ _ _ h => h) rfl (v_eq32s rfl rfl rfl lb1) ?_
  simp only [Act.put, pA, pB, pC]
  refine wpB_take (i := 5) (by kernel_rfl) rfl (by kernel_rfl) (fun _ _ _ h => h) rfl (v_moveT (.inl rfl) rfl) ?_
  simp only [Act.put, pA, pB, pC]
  refine wpB_take (i := 6) (by kernel_rfl) rfl (by kernel_rfl) (fun _ _ _ h => h) rfl (v_load (i := 2) hE13 rfl rfl rfl Try.underlying28 rfl (szA (n := 20))) ?_
  simp only [Act.put, pA, pB, pC]
  refine wpB_take (i := 9) (by kernel_rfl) rfl (by kernel_rfl) (fun _ _ _ h => h) rfl (v_load (i := 1) hE13 rfl rfl rfl Try.underlying45 rfl (szA (n := 24))) ?_
  simp only [Act.put, pA, pB, pC]
  refine wpB_step (i := 7) (by kernel_rfl) rfl (st_gives hE13 rfl (run_call rfl Try.call13) (Kn.out _) ?_)
  intro w14 hb14 hE14
  clear hE13
  refine ⟨fun _ => hb14, ?_⟩
  simp only [Act.put, pA, pB, pC]
  refine wpB_step (i := 8) (by kernel_rfl) rfl (st_gives hE14 rfl (run_call rfl Try.call15) (HBn.out _) ?_)
  intro w15 hb15 hE15
  clear hE14
  refine ⟨fun _ => hb15, ?_⟩
  simp only [Act.put, pA, pB, pC]
  refine wpB_step (i := 10) (by kernel_rfl) rfl (st_gives hE15 rfl (run_call rfl Try.call26) (KM.out _) ?_)
  intro w16 hb16 hE16
  clear hE15
  refine ⟨fun _ => hb16, ?_⟩
  simp only [Act.put, pA, pB, pC]
  refine wpB_step (i := 11) (by kernel_rfl) rfl (st_gives hE16 rfl (run_call rfl Try.call22) (HRn.out _) ?_)
  intro w17 hb17 hE17
  clear hE16
  refine ⟨fun _ => hb17, ?_⟩
  simp only [Act.put, pA, pB, pC]
  refine wpB_take (i := 12) (by kernel_rfl) rfl (by kernel_rfl) (fun _ _ _ h => h) rfl (v_eq32s rfl rfl rfl lb2) ?_
  simp only [Act.put, pA, pB, pC]
  refine wpB_take (i := 13) (by kernel_rfl) rfl (by kernel_rfl) (fun _ _ _ h => h) rfl (v_and rfl rfl (fun _ => rfl)) ?_
  simp only [Act.put, pA, pB, pC]
  refine wpB_take (i := 14) (by kernel_rfl) rfl (by kernel_rfl) (fun _ _ _ h => h) rfl (v_moveT (.inl rfl) rfl) ?_
  simp only [Act.put, pA, pB, pC]
  refine wpB_take (i := 15) (by kernel_rfl) rfl (by kernel_rfl) (fun _ _ _ h => h) rfl (v_moveT (.inl rfl) rfl) ?_
  simp only [Act.put, pA, pB, pC]
  refine wpB_take (i := 16) (by kernel_rfl) rfl (by kernel_rfl) (fun _ _ _ h => h) rfl (v_and rfl rfl (fun _ => rfl)) ?_
  simp only [Act.put, pA, pB, pC]
  refine wpB_take (i := 17) (by kernel_rfl) rfl (by kernel_rfl) (fun _ _ _ h => h) rfl (v_moveT (.inl rfl) rfl) ?_
  simp only [Act.put, pA, pB, pC]
  refine wpB_take (i := 18) (by kernel_rfl) rfl (by kernel_rfl) (fun _ _ _ h => h) rfl (v_load (i := 0) hE17 rfl rfl rfl Try.underlying28 rfl (szA (n := 20))) ?_
  simp only [Act.put, pA, pB, pC]
  refine wpB_take (i := 19) (by kernel_rfl) rfl (by kernel_rfl) (fun _ _ _ h => h) rfl (v_load (i := 2) hE17 rfl rfl rfl Try.underlying28 rfl (szA (n := 20))) ?_
  simp only [Act.put, pA, pB, pC]
  refine wpB_step (i := 20) (by kernel_rfl) rfl (st_gives hE17 rfl (run_call rfl Try.call11) (HS.out _) ?_)
  intro w18 hb18 hE18
  clear hE17
  refine ⟨fun _ => hb18, ?_⟩
  simp only [Act.put, pA, pB, pC]
  refine wpB_take (i := 21) (by kernel_rfl) rfl (by kernel_rfl) (fun _ _ _ h => h) rfl (v_and rfl rfl (fun _ => rfl)) ?_
  simp only [Act.put, pA, pB, pC]
  refine wpB_take (i := 22) (by kernel_rfl) rfl (by kernel_rfl) (fun _ _ _ h => h) rfl (v_moveT (.inl rfl) rfl) ?_
  simp only [Act.put, pA, pB, pC]
  refine wpB_step (i := 23) (by kernel_rfl) rfl (st_gives hE18 rfl (run_call rfl Try.call18) (HW.out _) ?_)
  intro w19 hb19 hE19
  clear hE18
  refine ⟨fun _ => hb19, ?_⟩
  simp only [Act.put, pA, pB, pC]
  refine wpB_take (i := 24) (by kernel_rfl) rfl (by kernel_rfl) (fun _ _ _ h => h) rfl (v_and rfl rfl (fun _ => rfl)) ?_
  simp only [Act.put, pA, pB, pC]
  refine wpB_step (i := 25) (by kernel_rfl) rfl (st_val rfl (v_moveT (.inr rfl) rfl) ?_)
  refine ⟨fun _ => Below.refl _ _, ?_⟩
  simp only [Act.put, pA, pB, pC]
  refine wpB_done (by kernel_rfl) ?_ _
  repeat ((fail_if_success with_reducible show wA ..); (fail_if_success with_reducible show wB ..); go_step)
  go_returns
  exact ⟨rfl, hE19.below⟩
set_option maxRecDepth 100000 in
theorem curveMuls_lifted (os : Os) (started : os.Started) (H : Type) (enc : TypeId × Value → H) :
    ReturnsInHanded {} Try.checked os 6 .any (Rows.curveMulsSpec.pre6 enc Try.prog Try.f6 Rows.curveMulsRow.domain false) (Rows.curveMulsSpec.post enc Try.prog Try.f6 false true false false) := by
  refine returnsInHanded_of_change (C := Try.checked) own started (by kernel_rfl) Try.func6
    (ChangeSpec.witness6 (enc := enc) (C := Try.checked) false ⟨#[], #[.agg (ints .u8 (List.replicate 32 0))], []⟩ 8 (by kernel_rfl) (by kernel_rfl) (by kernel_rfl) (by kernel_rfl)) ?_
  intro W base args ds gs before hval0 hW hcnd _
  have hval : ∀ (j : Nat) t v, Try.f6.params[j]? = some t → args[j]? = some v → Value.okWide Try.prog W .any base t v := hval0
  have hW' := hW
  obtain ⟨p, q, hA0, hV, rfl, hfz, hnd⟩ := hW
  have hA : DataW.TrodAll enc Try.prog W 0 (fun _ => true) true Try.f6.params.toList args.toList ds p := hA0
  rw [Try.params6] at hA hval
  obtain ⟨v0, vs0, d0, ds0, p0, q0, hargs, rfl, rfl, h0, r0⟩ := trodAll_cons hA
  obtain ⟨rfl, rfl, rfl⟩ := trodAll_nil r0
  obtain rfl : args = #[v0] := by cases args; simp_all
  obtain ⟨rfl, rfl⟩ := trodVars_none hV
  have k0 := h0
  have lt0 : ∀ x ∈ p0, x.block < W.heap.size := by obtain ⟨m, hm⟩ := k0; exact DataW.trod_lt m _ _ _ hm
  obtain ⟨l0, rfl, hl0, dl0⟩ := open_u8s Try.underlying22 Try.underlying5 (by kernel_rfl) (by kernel_rfl) (hval 0 22 v0 rfl rfl) h0
  clear hA0 hval0
  refine (curveMuls_walk l0 hl0 dl0 W).mono fun e W' ⟨he, bel⟩ => ?_
  subst he
  exact ⟨_, rfl, _, _, _, [], _, [], hW', trodAll_mk1 (shut_bool Try.underlying4 _), (trodAll_cons_mk (Below.trod laidOut (by kernel_rfl) (of_decide_eq_true (by kernel_rfl)) k0 bel lt0) trodAll_mk0), rfl, bel.frame _, fun h => by cases h⟩

theorem curveMuls_over : Rows.curveMulsRow.holds Try.pinned (OpenSpec.ofChange Rows.curveMulsSpec) :=
  OpenClaim.holds_of_wide 6 Try.f6 rfl rfl rfl rfl rfl rfl rfl ⟨rfl, rfl, rfl, rfl, rfl⟩ rfl rfl rfl rfl rfl (by kernel_rfl) Try.func6 (by kernel_rfl)
    (of_decide_eq_true (by kernel_rfl)) (by unfold Func.isWrapper; first | (rw [if_pos (by decide +kernel)]; kernel_rfl) | (rw [if_neg (by decide +kernel)]; exact ⟨rfl, rfl⟩))
    (fun os started H enc _ => curveMuls_lifted os started H enc)

theorem curveMuls_holds : Rows.CurveMulsSaid := curveMuls_over

#print axioms curveMuls_holds
end Go.Proofs.Ytmebjoehmheknaa
