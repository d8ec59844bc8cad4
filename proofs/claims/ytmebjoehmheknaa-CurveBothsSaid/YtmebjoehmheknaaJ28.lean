/-
  Layer 6: the document's points by their digits; both multiples of the base; the sum of points.
  Layer 6: 'CurveBoths': a multiple of any point, and of the base, added. No condition.
-/
import Derived.Test.YtmebjoehmheknaaJ25
import Derived.Test.YtmebjoehmheknaaJ26
import Derived.Test.YtmebjoehmheknaaJ27
namespace Go.Proofs.Ytmebjoehmheknaa
open Go.RowKit
set_option linter.unusedVariables false
set_option linter.unusedSimpArgs false

theorem f_neg_mul {n : Nat} [NeZero n] (x z : Fin n) : -(x * z) = -x * z := by grobner
/-- These digits tell a point, as the document has it. -/
def R4 (L : List Nat) (P : Pt) : Prop := ∃ r : P3, L = rpL r.1 r.2.1 r.2.2 ∧ R3 r P
abbrev rt (L : List Nat) : Value := .agg (ints .u32 L)
theorem R4.len {L : List Nat} {P : Pt} (h : R4 L P) : L.length = 24 := by
  obtain ⟨r, rfl, _⟩ := h
  exact rpL_len _ _ _
theorem rAdd4 {L M : List Nat} {P Q : Pt} (h : R4 L P) (h' : R4 M Q) : ∃ N, R4 N (padd P Q) ∧ ∀ w, Gives 23 #[rt L, rt M, nm dN] w (rt N) := by
  obtain ⟨r, rfl, h1⟩ := h
  obtain ⟨s, rfl, h2⟩ := h'
  exact ⟨_, ⟨add3 r s, rfl, add3_ok h1 h2⟩, fun w => add3_any h1 h2 w⟩
theorem rMul4 {L b : List Nat} {P : Pt} (h : R4 L P) (hb : b.length = 32) (db : Digs 256 b) : ∃ N, R4 N (smul (val 256 b) P) ∧ ∀ w, Gives 24 #[rt L, .agg (ints .u8 b)] w (rt N) := by
  obtain ⟨r, rfl, h1⟩ := h
  obtain ⟨s, hs, hg⟩ := rPMul_any h1 hb db
  exact ⟨_, ⟨s, rfl, hs⟩, hg⟩
theorem rNeg4 {L : List Nat} {P : Pt} (h : R4 L P) : ∃ N, R4 N (pneg P) ∧ ∀ w, Gives 26 #[rt L] w (rt N) := by
  obtain ⟨⟨X, Y, Z⟩, rfl, h1⟩ := h
  refine ⟨_, ⟨((pN - X) % pN, Y, Z), rfl, ?_⟩, fun w => rNeg_any h1.lx w⟩
  have hlx : X < pN := h1.lx
  exact ⟨Nat.mod_lt _ pos_pN, h1.ly, h1.lz, h1.nz, by
    show kk pN ((pN - X) % pN) = - P.x * kk pN Z
    have := h1.ex
    rw [kk_mod, kk_neg (Nat.le_of_lt hlx), show kk pN X = P.x * kk pN Z from this]
    exact f_neg_mul _ _, h1.ey⟩
theorem rBytes4 {L : List Nat} {P : Pt} (h : R4 L P) (w : World) : Gives 22 #[rt L] w (.agg (ints .u8 (encB P))) := by
  obtain ⟨r, rfl, h1⟩ := h
  exact rPBytes_any h1 w
theorem rDecode4 {b : List Nat} {P : Pt} (hb : b.length = 32) (db : Digs 256 b) (hP : encN P = val 256 b) : ∃ L, R4 L P ∧ ∀ w, Gives 20 #[.agg (ints .u8 b)] w (.tuple #[rt L, .bool true]) := by
  obtain ⟨r, h1, h2⟩ := rPDecode_yes hb db hP
  exact ⟨_, ⟨r, rfl, h1⟩, h2⟩
theorem rZero4 : R4 (rpL 0 1 1) pzero := ⟨(0, 1, 1), rfl, RRep_zero⟩
theorem rDecode4_no {b : List Nat} (hb : b.length = 32) (db : Digs 256 b) (h : ¬ isPt (val 256 b)) (w : World) : Gives 20 #[.agg (ints .u8 b)] w (.tuple #[rt (rpL 0 1 1), .bool false]) := rPDecode_no hb db h w
theorem rBase4 : ∃ L, R4 L baseP ∧ ∀ w, Gives 27 #[] w (rt L) := by
  obtain ⟨r, h1, h2⟩ := rPBase_any
  exact ⟨_, ⟨r, rfl, h1⟩, h2⟩

set_option maxHeartbeats 4000000 in
theorem two_any {b : List Nat} (hb : b.length = 32) (db : Digs 256 b) : ∃ p L, PRep p (smul (val 256 b) baseP) ∧ R4 L (smul (val 256 b) baseP) ∧ ∀ w, Gives 25 #[.agg (ints .u8 b)] w (.tuple #[pt p, rt L]) := by
  obtain ⟨g, hg, Gg⟩ := PBase_any
  obtain ⟨p, hp, Gp⟩ := PMul_any hg hb db
  obtain ⟨M, hM, GM⟩ := rBase4
  obtain ⟨L, hL, GL⟩ := rMul4 hM hb db
  refine ⟨p, L, hp, hL, fun w => ?_⟩
  have lg := hg.len
  have lp := hp.len
  have lM := hM.len
  have lL := hL.len
  have Hg := Lib.hid Gg
  clear Gg hg
  have Hp := Lib.hid Gp
  clear Gp hp
  have HM := Lib.hid GM
  clear GM hM
  have HL := Lib.hid GL
  clear GL hL
  clear db
  have hE0 := Env.nil w
  go_enter Try.func25, Try.ntmps25
  repeat ((fail_if_success with_reducible show wA ..); (fail_if_success with_reducible show wB ..); go_step)
  refine wl_step (st_boxA hE0 rfl rfl rfl ?_)
  intro g0 w1 hb1 hE1
  clear hE0
  simp only [Act.put, pA, pB, pC]
  refine wl_step (st_alloc (zs := ints .u64 (List.replicate 20 0)) hE1 rfl rfl (fun w => by kernel_rfl) ?_)
  intro g1 w2 hb2 hE2
  clear hE1
  simp only [Act.put, pA, pB, pC]
  refine wl_step (st_alloc (zs := ints .u32 (List.replicate 24 0)) hE2 rfl rfl (fun w => by kernel_rfl) ?_)
  intro g2 w3 hb3 hE3
  clear hE2
  simp only [Act.put, pA, pB, pC]
  repeat ((fail_if_success with_reducible show wA ..); (fail_if_success with_reducible show wB ..); go_step)
  refine wp_region_B (n := 8) 6 (by kernel_rfl) rfl hE3 ?_
  intro w4 hb4 hE4
  clear hE3
  refine wpB_take (i := 1) (by kernel_rfl) rfl (by kernel_rfl) (fun _ _ _ h => h) rfl (v_load (i := 2) hE4 rfl rfl rfl Try.underlying22 rfl (szA (n := 32))) ?_
  simp only [Act.put, pA, pB, pC]
  refine wpB_take (i := 4) (by kernel_rfl) rfl (by kernel_rfl) (fun _ _ _ h => h) rfl (v_load (i := 2) hE4 rfl rfl rfl Try.underlying22 rfl (szA (n := 32))) ?_
  simp only [Act.put, pA, pB, pC]
  refine wpB_step (i := 0) (by kernel_rfl) rfl (st_gives hE4 rfl (run_call rfl Try.call8) (Hg.out _) ?_)
  intro w5 hb5 hE5
  clear hE4
  refine ⟨fun _ => hb5, ?_⟩
  simp only [Act.put, pA, pB, pC]
  refine wpB_step (i := 2) (by kernel_rfl) rfl (st_gives hE5 rfl (run_call rfl Try.call9) (Hp.out _) ?_)
  intro w6 hb6 hE6
  clear hE5
  refine ⟨fun _ => hb6, ?_⟩
  simp only [Act.put, pA, pB, pC]
  refine wpB_step (i := 3) (by kernel_rfl) rfl (st_gives hE6 rfl (run_call rfl Try.call27) (HM.out _) ?_)
  intro w7 hb7 hE7
  clear hE6
  refine ⟨fun _ => hb7, ?_⟩
  simp only [Act.put, pA, pB, pC]
  refine wpB_step (i := 5) (by kernel_rfl) rfl (st_gives hE7 rfl (run_call rfl Try.call24) (HL.out _) ?_)
  intro w8 hb8 hE8
  clear hE7
  refine ⟨fun _ => hb8, ?_⟩
  simp only [Act.put, pA, pB, pC]
  refine wpB_step (i := 6) (by kernel_rfl) rfl (st_store (i := 1) hE8 rfl rfl rfl rfl rfl (szA (n := 20)) (by first | (simp only [ints_size, digs_length, List.length_replicate, List.length_cons, List.length_nil]; done) | (simp only [ints_size, digs_length, List.length_replicate, List.length_cons, List.length_nil, List.length_set, List.length_append]; omega) | rfl) (by first | exact ints_one _ _ | decide | simp [*]) ?_)
  intro w9 hE9
  clear hE8
  simp only [pB, pC] at hE9
  refine ⟨fun h => absurd h (by decide), ?_⟩
  simp only [Act.put, pA, pB, pC]
  refine wpB_step (i := 7) (by kernel_rfl) rfl (st_store (i := 0) hE9 rfl rfl rfl rfl rfl (szA (n := 24)) (by first | (simp only [ints_size, digs_length, List.length_replicate, List.length_cons, List.length_nil]; done) | (simp only [ints_size, digs_length, List.length_replicate, List.length_cons, List.length_nil, List.length_set, List.length_append]; omega) | rfl) (by first | exact ints_one _ _ | decide | simp [*]) ?_)
  intro w10 hE10
  clear hE9
  simp only [pB, pC] at hE10
  refine ⟨fun h => absurd h (by decide), ?_⟩
  simp only [Act.put, pA, pB, pC]
  refine wpB_done (by kernel_rfl) ?_ _
  repeat ((fail_if_success with_reducible show wA ..); (fail_if_success with_reducible show wB ..); go_step)
  refine bodyPost_ret (results_cc rfl _ _ _ _ _ _ _ _ (0, 0) (0, 0) _ _ rfl (hE10.get (i := 1) rfl) Try.underlying28 rfl (szA (n := 20)) rfl (hE10.get (i := 0) rfl) Try.underlying45 rfl (szA (n := 24))) rfl ⟨rfl, hE10.below⟩

/-- The sum of points, one by one. -/
noncomputable def sumL (rows : List (List Nat)) : Nat → List Nat
  | 0 => zeroL
  | k + 1 => addP (sumL rows k) (rows.getD k [])
def psum (f : Nat → Pt) : Nat → Pt
  | 0 => pzero
  | k + 1 => padd (psum f k) (f k)
theorem sumL_ok {rows : List (List Nat)} {f : Nat → Pt} (h : ∀ k, k < rows.length → PRep (rows.getD k []) (f k)) : ∀ k, k ≤ rows.length → PRep (sumL rows k) (psum f k)
  | 0, _ => PRep_zero
  | k + 1, hk => (addP_ok (sumL_ok h k (by omega)) (h k (by omega))).1
set_option maxRecDepth 100000 in
set_option maxHeartbeats 4000000 in
theorem Sum_walk {rows : List (List Nat)} {f : Nat → Pt} (h : ∀ k, k < rows.length → PRep (rows.getD k []) (f k)) (hn : rows.length < 4611686018427387904) {n : Nat} (hne : rows.length = n) {v : Value} {w : World}
    (hv : (v = .slice none 0 0 ∧ n = 0) ∨ ∃ g T, v = .slice (some ⟨g, 0, none⟩) n n ∧ w.heap[g]? = some (.cells (ints .u64 rows.flatten) T (0, 0))) : Gives 29 #[v] w (pt (sumL rows n)) := by
  obtain ⟨p, hp, hc⟩ : ∃ p, v = .slice p n n ∧ ∀ k, k < n → ∃ g, p = some ⟨g, 0, none⟩ ∧ w.rangeAt g (0 + k * 20) (ints .u64 (rows.getD k [])).toList := by
    rcases hv with ⟨rfl, rfl⟩ | ⟨g, T, rfl, hg⟩
    · exact ⟨none, rfl, fun k hk => absurd hk (Nat.not_lt_zero _)⟩
    · refine ⟨_, rfl, fun k hk => ⟨g, rfl, ?_⟩⟩
      have hr : ∀ r ∈ rows, r.length = 20 := fun r hr => by
        obtain ⟨i, hi, rfl⟩ := List.getElem_of_mem hr
        have := (h i hi).len
        rwa [List.getD_eq_getElem?_getD, List.getElem?_eq_getElem hi] at this
      have hk' : k < rows.length := by omega
      have hl := rows_length 20 rows hr
      have hg2 := rows_get 20 rows hr k hk'
      have h1 := World.rangeAt_of_block hg (k * 20) 20
      have e : ((ints .u64 rows.flatten).extract (k * 20) (k * 20 + 20)).toList = (ints .u64 (rows.getD k [])).toList := by
        have : (ints .u64 ((rows.flatten.drop (k * 20)).take 20)).toList = (ints .u64 (rows.getD k [])).toList := by
          rw [hg2, List.getD_eq_getElem?_getD, List.getElem?_eq_getElem hk']
          rfl
        rw [← this]
        simp [ints, List.map_take, List.map_drop]
      rw [e] at h1
      rwa [Nat.zero_add]
  subst hp
  have Hs := Lib.hid (fun k hk => sumL_ok h k hk)
  have Hr := Lib.hid h
  have Hc := Lib.hid hc
  have Hne := Lib.hid hne
  have HZ := Lib.hid PZero_any
  have lz : zeroL.length = 20 := rfl
  rw [hne] at hn
  clear hv h hc hne
  have hE0 := Env.nil w
  go_enter Try.func29, Try.ntmps29
  repeat ((fail_if_success with_reducible show wA ..); (fail_if_success with_reducible show wB ..); go_step)
  refine wl_step (st_alloc (zs := ints .u64 (List.replicate 20 0)) hE0 rfl rfl (fun w => by kernel_rfl) ?_)
  intro g0 w1 hb1 hE1
  clear hE0
  simp only [Act.put, pA, pB, pC]
  repeat ((fail_if_success with_reducible show wA ..); (fail_if_success with_reducible show wB ..); go_step)
  refine wl_step (st_gives hE1 rfl (run_call rfl Try.call12) (HZ.out _) ?_)
  intro w2 hb2 hE2
  clear hE1
  simp only [Act.put, pA, pB, pC]
  refine wl_step (st_alloc (zs := ints .u64 (List.replicate 20 0)) hE2 rfl rfl (fun w => by kernel_rfl) ?_)
  intro g1 w3 hb3 hE3
  clear hE2
  simp only [Act.put, pA, pB, pC]
  refine wl_step (st_store (i := 0) hE3 rfl rfl rfl rfl rfl (szA (n := 20)) (by first | (simp only [ints_size, digs_length, List.length_replicate, List.length_cons, List.length_nil]; done) | (simp only [ints_size, digs_length, List.length_replicate, List.length_cons, List.length_nil, List.length_set, List.length_append]; omega) | rfl) (by first | exact ints_one _ _ | decide | simp [*]) ?_)
  intro w4 hE4
  clear hE3
  simp only [pB, pC] at hE4
  simp only [Act.put, pA, pB, pC]
  repeat ((fail_if_success with_reducible show wA ..); (fail_if_success with_reducible show wB ..); go_step)
  refine wv (v_moveT (.inl rfl) rfl) ?_
  simp only [Act.put, pA, pB, pC]
  refine wv (v_len rfl rfl Try.underlying80 (by omega)) ?_
  simp only [Act.put, pA, pB, pC]
  refine wv (v_moveC (.inl rfl)) ?_
  simp only [Act.put, pA, pB, pC]
  go_wp2
  go_loopw [9] (fun i wr => ∃ K : Nat, K ≤ n ∧ i = .int .i64 K ∧ Env w [⟨g1, 28, ints .u64 (sumL rows K)⟩, ⟨g0, 28, ints .u64 (List.replicate 20 0)⟩] wr) (fun i _ => n - (intOf i).toNat)
  case atStart => exact ⟨0, Nat.zero_le _, rfl, hE4⟩
  case round =>
    clear hE4
    obtain ⟨K, hK, rfl, hE0⟩ := hrel
    have hX := Hs.out K (by rw [Hne.out]; exact hK)
    have lX := hX.len
    by_cases hlt : K < n
    · have hK' : K < rows.length := by rw [Hne.out]; exact hlt
      obtain ⟨g, rfl, hrow⟩ := Hc.out K hlt
      have hr := Hr.out K hK'
      have ha := addP_ok hX hr
      have e : addP (sumL rows K) (rows.getD K []) = sumL rows (K + 1) := rfl
      rw [e] at ha
      have lY := ha.1.len
      have lr := hr.len
      obtain ⟨X, hXe⟩ : ∃ X, sumL rows K = X := ⟨_, rfl⟩
      obtain ⟨Y, hYe⟩ : ∃ Y, sumL rows (K + 1) = Y := ⟨_, rfl⟩
      obtain ⟨r, hre⟩ : ∃ r, rows.getD K [] = r := ⟨_, rfl⟩
      rw [hXe] at hE0 ha lX
      rw [hYe] at ha lY
      rw [hre] at ha hrow lr
      have HA := Lib.hid ha.2
      have Hrow := Lib.hid hrow
      have HY := Lib.hid hYe
      clear hX hr ha e hXe hYe hre hrow hK'
      repeat ((fail_if_success with_reducible show wA ..); (fail_if_success with_reducible show wB ..); go_step)
      refine wv (v_lss rfl rfl rfl) ?_
      simp only [Act.put, pA, pB, pC]
      repeat ((fail_if_success with_reducible show wA ..); (fail_if_success with_reducible show wB ..); go_step)
      refine wv (v_indexSs (s := 20) rfl rfl rfl Try.underlying80 (by kernel_rfl) hlt) ?_
      simp only [Act.put, pA, pB, pC]
      refine wv (v_loadMid (cs := ints .u64 r) rfl rfl (fun w1 hb => range_below Hrow.out (hE0.below.trans (hb.mono hE0.below.size))) Try.underlying28 rfl (sz_of (n := 20) (by kernel_rfl) (by rw [ints_size, lr]))) ?_
      simp only [Act.put, pA, pB, pC]
      refine wl_step (st_alloc (zs := ints .u64 (List.replicate 20 0)) hE0 rfl rfl (fun w => by kernel_rfl) ?_)
      intro g2 w1 hb1 hE1
      clear hE0
      simp only [Act.put, pA, pB, pC]
      refine wl_step (st_store (i := 0) hE1 rfl rfl rfl rfl rfl (szA (n := 20)) (by first | (simp only [ints_size, digs_length, List.length_replicate, List.length_cons, List.length_nil]; done) | (simp only [ints_size, digs_length, List.length_replicate, List.length_cons, List.length_nil, List.length_set, List.length_append]; omega) | rfl) (by first | exact ints_one _ _ | decide | simp [*]) ?_)
      intro w2 hE2
      clear hE1
      simp only [pB, pC] at hE2
      simp only [Act.put, pA, pB, pC]
      repeat ((fail_if_success with_reducible show wA ..); (fail_if_success with_reducible show wB ..); go_step)
      refine wv (v_load (i := 1) hE2 rfl rfl rfl Try.underlying28 rfl (szA (n := 20))) ?_
      simp only [Act.put, pA, pB, pC]
      refine wv (v_load (i := 0) hE2 rfl rfl rfl Try.underlying28 rfl (szA (n := 20))) ?_
      simp only [Act.put, pA, pB, pC]
      refine wl_step (st_gives hE2 rfl (run_call rfl Try.call10) (HA.out _) ?_)
      intro w3 hb3 hE3
      clear hE2
      simp only [Act.put, pA, pB, pC]
      refine wl_step (st_store (i := 1) hE3 rfl rfl rfl rfl rfl (szA (n := 20)) (by first | (simp only [ints_size, digs_length, List.length_replicate, List.length_cons, List.length_nil]; done) | (simp only [ints_size, digs_length, List.length_replicate, List.length_cons, List.length_nil, List.length_set, List.length_append]; omega) | rfl) (by first | exact ints_one _ _ | decide | simp [*]) ?_)
      intro w4 hE4
      clear hE3
      simp only [pB, pC] at hE4
      simp only [Act.put, pA, pB, pC]
      repeat ((fail_if_success with_reducible show wA ..); (fail_if_success with_reducible show wB ..); go_step)
      refine wv (v_add (n := 1) rfl rfl rfl (w_i64 (by omega))) ?_
      simp only [Act.put, pA, pB, pC]
      refine wv (v_moveT (.inl rfl) rfl) ?_
      simp only [Act.put, pA, pB, pC]
      go_wp2
      go_roundw
      case rel => exact ⟨K + 1, by omega, rfl, by rw [HY.out]; exact (hE4).sub (List.sublist_cons_self _ _)⟩
      case measure => simp [intOf]; omega
    · have hK' : K = n := by omega
      subst hK'
      repeat ((fail_if_success with_reducible show wA ..); (fail_if_success with_reducible show wB ..); go_step)
      refine wv (v_lss rfl rfl rfl) ?_
      simp only [Act.put, pA, pB, pC]
      repeat ((fail_if_success with_reducible show wA ..); (fail_if_success with_reducible show wB ..); go_step)
      refine wv (v_load (i := 0) hE0 rfl rfl rfl Try.underlying28 rfl (szA (n := 20))) ?_
      simp only [Act.put, pA, pB, pC]
      refine wl_step (st_store (i := 1) hE0 rfl rfl rfl rfl rfl (szA (n := 20)) (by first | (simp only [ints_size, digs_length, List.length_replicate, List.length_cons, List.length_nil]; done) | (simp only [ints_size, digs_length, List.length_replicate, List.length_cons, List.length_nil, List.length_set, List.length_append]; omega) | rfl) (by first | exact ints_one _ _ | decide | simp [*]) ?_)
      intro w1 hE1
      clear hE0
      simp only [pB, pC] at hE1
      simp only [Act.put, pA, pB, pC]
      repeat ((fail_if_success with_reducible show wA ..); (fail_if_success with_reducible show wB ..); go_step)
      refine bodyPost_ret (results_cell_row rfl _ _ _ _ _ (0, 0) _ rfl (hE1.get (i := 1) rfl) Try.underlying28 rfl (szA (n := 20))) rfl ⟨rfl, hE1.below⟩
theorem Sum_any {rows : List (List Nat)} {f : Nat → Pt} (h : ∀ k, k < rows.length → PRep (rows.getD k []) (f k)) (hn : rows.length < 4611686018427387904) : ∃ c, PRep c (psum f rows.length) ∧ ∀ (v : Value) (w : World),
    ((v = .slice none 0 0 ∧ rows.length = 0) ∨ ∃ g T, v = .slice (some ⟨g, 0, none⟩) rows.length rows.length ∧ w.heap[g]? = some (.cells (ints .u64 rows.flatten) T (0, 0))) → Gives 29 #[v] w (pt c) :=
  ⟨_, sumL_ok h _ (Nat.le_refl _), fun v w hv => Sum_walk h hn rfl hv⟩
end Go.Proofs.Ytmebjoehmheknaa
namespace Go.Proofs.Ytmebjoehmheknaa
open Go.ChangeShapes Go.WideShapes Go.ChangeAt Go.RowKit
set_option linter.unusedVariables false
set_option linter.unusedSimpArgs false

section
variable {P : Program} {ops : Array Oper} {Q : Exit → Act → World → Prop} {a : Act} {w w0 : World} {l : List Blk} {o : Oper} {K : Act → World → Prop}
theorem st_buildPts {t e : TypeId} {n : Nat} {parts : List (Nat × Operand)} {z : Value} (rows : List (List Nat)) (hE : Env w0 l w) (hw : Region.wanted o (yielded ops a.tmps) = true) (ho : o.op = .buildSlice t n parts.toArray)
    (hp : parts.map (fun p => (p.1, a.eval p.2)) = (rows.map (ints .u64)).zipIdx.map fun x => (x.2, Value.agg x.1)) (hn : rows.length = n) (h0 : 0 < n) (h24 : n * 20 ≤ 2 ^ 24) (ht : P.underlying t = some (.slice e)) (hs : (P.info? e).map (·.size) = some 20)
    (hz : ∀ w, (zeroValue e).run P w = .ok z w) (hr : ∀ r ∈ rows, r.length = 20)
    (k : ∀ g w1, Below w.heap.size w w1 → Env w0 (⟨g, e, ints .u64 rows.flatten⟩ :: l) w1 → K (a.put o.dst (.slice (some ⟨g, 0, none⟩) n n)) w1) : Step P ops Q o K a w := by
  obtain ⟨r, hf, hl⟩ := fill_rows 20 (rows.map (ints .u64)) 0 ((Array.range (n * 20)).map fun i => z.cells[i % z.cells.size]!) (fun v hv => by
    obtain ⟨x, hx, rfl⟩ := List.mem_map.1 hv
    rw [ints_size, hr x hx]) (by simp [hn])
  have hre : r = ints .u64 rows.flatten := by
    apply Array.ext'
    rw [hl]
    simp [ints, List.map_flatten, Function.comp_def]
  subst hre
  refine st_run (w1 := w.alloc (.cells (ints .u64 rows.flatten) e)) (v := .slice (some ⟨w.heap.size, 0, none⟩) n n) hw ?_ (k _ _ ((Below.refl _ _).alloc (Nat.le_refl _) _) (hE.alloc e _))
  have h1 : ¬ n * 20 > 2 ^ 24 := by omega
  have h2 : ¬ n * 20 = 0 := by omega
  unfold execOp
  simp only [ho, List.map_toArray, hp, Instr.buildSlice, Sem.run_bind, run_underlying ht, size_run hs, Result.andThen_ok, if_neg h1, if_neg h2, hz, Sem.run_pure]
  rw [hf]
  simp [newRow, newObj, Sem.run, Sem.run_bind, Sem.run_pure]
end

set_option maxRecDepth 100000 in
set_option maxHeartbeats 16000000 in
theorem curveBoths_walk (a b c : List Nat) (ha : a.length = 32) (hb : b.length = 32) (hc : c.length = 32) (da : Digs 256 a) (db : Digs 256 b) (dc : Digs 256 c) (w : World) :
    Gives 7 #[.agg (ints .u8 a), .agg (ints .u8 b), .agg (ints .u8 c)] w (.bool true) := by
  have HW := Lib.hid (fun w => awake_any w)
  have hV : val 256 a < 115792089237316195423570985008687907853269984665640564039457584007913129639936 := by
    have := val_lt da
    rw [ha] at this
    exact this
  by_cases hpt : isPt (val 256 a)
  · obtain ⟨P, hP, _, _⟩ := pt_of hV hpt
    obtain ⟨p, hp, Gp⟩ := PDecode_yes ha da hP
    obtain ⟨L, hL, GL⟩ := rDecode4 ha da hP
    obtain ⟨x1, hx1, Gx1⟩ := rMul4 hL hb db
    obtain ⟨B, hB, GB⟩ := rBase4
    obtain ⟨x2, hx2, Gx2⟩ := rMul4 hB hc dc
    obtain ⟨x3, hx3, Gx3⟩ := rAdd4 hx1 hx2
    obtain ⟨y, hy, Gy⟩ := PBoth_any hp hb db hc dc
    obtain ⟨g, hg, Gg⟩ := PBase_any
    obtain ⟨z1, hz1, Gz1⟩ := PMul_any hp hb db
    obtain ⟨z2, hz2, Gz2⟩ := PMul_any hg hc dc
    have hrow : ∀ k, k < [z1, z2].length → PRep ([z1, z2].getD k []) ((fun k => if k = 0 then smul (val 256 b) P else smul (val 256 c) baseP) k) := fun k hk => by
      match k, hk with
      | 0, _ => exact hz1
      | 1, _ => exact hz2
    obtain ⟨s, hs, Gs⟩ := Sum_any hrow (show 2 < 4611686018427387904 by decide)
    have es : psum (fun k => if k = 0 then smul (val 256 b) P else smul (val 256 c) baseP) [z1, z2].length = padd (smul (val 256 b) P) (smul (val 256 c) baseP) := by
      show padd (padd pzero (smul (val 256 b) P)) (smul (val 256 c) baseP) = _
      rw [zero_padd]
    rw [es] at hs
    obtain ⟨e, he, Ge⟩ := Sum_any (rows := []) (f := fun _ => pzero) (fun k hk => absurd hk (Nat.not_lt_zero _)) (by decide)
    have ee : psum (fun _ => pzero) ([] : List (List Nat)).length = pzero := rfl
    rw [ee] at he
    obtain ⟨R, hRe⟩ : ∃ R, padd (smul (val 256 b) P) (smul (val 256 c) baseP) = R := ⟨_, rfl⟩
    rw [hRe] at hx3 hy hs
    have hB1 := fun w => PBytes_any hy w
    have hB2 := fun w => rBytes4 hx3 w
    have hS1 := fun w => PSame_any hs hy w
    rw [decide_eq_true rfl] at hS1
    have hS2 := fun w => PSame_any he PRep_zero w
    rw [decide_eq_true rfl] at hS2
    have lb := encB_len R
    obtain ⟨b1, hb1⟩ : ∃ b, encB R = b := ⟨_, rfl⟩
    rw [hb1] at hB1 hB2 lb
    have Gs' : ∀ (g : Nat) (T : TypeId) (w : World), w.heap[g]? = some (.cells (ints .u64 [z1, z2].flatten) T (0, 0)) → Gives 29 #[.slice (some ⟨g, 0, none⟩) 2 2] w (pt s) := fun g T w hg => Gs _ w (.inr ⟨g, T, rfl, hg⟩)
    have Ge' : ∀ (w : World), Gives 29 #[.slice none 0 0] w (pt e) := fun w => Ge _ w (.inl ⟨rfl, rfl⟩)
    have h20 : ∀ r ∈ [z1, z2], r.length = 20 := fun r hr => by
      simp only [List.mem_cons, List.not_mem_nil, or_false] at hr
      rcases hr with rfl | rfl
      · exact hz1.len
      · exact hz2.len
    have H20 := Lib.hid h20
    have KB1 := Lib.hid hB1
    clear hB1
    have KB2 := Lib.hid hB2
    clear hB2
    have KS1 := Lib.hid hS1
    clear hS1
    have KS2 := Lib.hid hS2
    clear hS2
    have lp := hp.len
    have Hp := Lib.hid Gp
    have lL := hL.len
    have HL := Lib.hid GL
    have lx1 := hx1.len
    have Hx1 := Lib.hid Gx1
    have lB := hB.len
    have HB := Lib.hid GB
    have lx2 := hx2.len
    have Hx2 := Lib.hid Gx2
    have lx3 := hx3.len
    have Hx3 := Lib.hid Gx3
    have ly := hy.len
    have Hy := Lib.hid Gy
    have lg := hg.len
    have Hg := Lib.hid Gg
    have lz1 := hz1.len
    have Hz1 := Lib.hid Gz1
    have lz2 := hz2.len
    have Hz2 := Lib.hid Gz2
    have ls := hs.len
    have Hs := Lib.hid Gs
    have le := he.len
    have He := Lib.hid Ge
    have HS := Lib.hid Gs'
    have HE := Lib.hid Ge'
    have HD := Lib.hid (fun w => rD_any w)
    have HZ := Lib.hid PZero_any
    have nd := nm_len dN
    have lz : zeroL.length = 20 := rfl
    clear Gs' Ge' h20 hrow hb1 hRe ee es hP hpt hV da db dc Hs He
    clear hp Gp
    clear hL GL
    clear hx1 Gx1
    clear hB GB
    clear hx2 Gx2
    clear hx3 Gx3
    clear hy Gy
    clear hg Gg
    clear hz1 Gz1
    clear hz2 Gz2
    clear hs Gs
    clear he Ge
    have hE0 := Env.nil w
    go_enter Try.func7, Try.ntmps7
    repeat ((fail_if_success with_reducible show wA ..); (fail_if_success with_reducible show wB ..); go_step)
    refine wl_step (st_boxA hE0 rfl rfl rfl ?_)
    intro g0 w1 hb1 hE1
    clear hE0
    simp only [Act.put, pA, pB, pC]
    refine wl_step (st_boxA hE1 rfl rfl rfl ?_)
    intro g1 w2 hb2 hE2
    clear hE1
    simp only [Act.put, pA, pB, pC]
    refine wl_step (st_boxA hE2 rfl rfl rfl ?_)
    intro g2 w3 hb3 hE3
    clear hE2
    simp only [Act.put, pA, pB, pC]
    refine wv (v_moveC (.inr rfl)) ?_
    simp only [Act.put, pA, pB, pC]
    repeat ((fail_if_success with_reducible show wA ..); (fail_if_success with_reducible show wB ..); go_step)
    refine wv (v_load (i := 2) hE3 rfl rfl rfl Try.underlying22 rfl (szA (n := 32))) ?_
    simp only [Act.put, pA, pB, pC]
    refine wl_step (st_gives hE3 rfl (run_call rfl Try.call19) (Hp.out _) ?_)
    intro w4 hb4 hE4
    clear hE3
    simp only [Act.put, pA, pB, pC]
    refine wv (v_moveT (.inl rfl) rfl) ?_
    simp only [Act.put, pA, pB, pC]
    refine wv (v_extract rfl rfl rfl) ?_
    simp only [Act.put, pA, pB, pC]
    refine wv (v_extract rfl rfl rfl) ?_
    simp only [Act.put, pA, pB, pC]
    refine wl_step (st_alloc (zs := ints .u64 (List.replicate 20 0)) hE4 rfl rfl (fun w => by kernel_rfl) ?_)
    intro g3 w5 hb5 hE5
    clear hE4
    simp only [Act.put, pA, pB, pC]
    refine wl_step (st_store (i := 0) hE5 rfl rfl rfl rfl rfl (szA (n := 20)) (by first | (simp only [ints_size, digs_length, List.length_replicate, List.length_cons, List.length_nil]; done) | (simp only [ints_size, digs_length, List.length_replicate, List.length_cons, List.length_nil, List.length_set, List.length_append]; omega) | rfl) (by first | exact ints_one _ _ | decide | simp [*]) ?_)
    intro w6 hE6
    clear hE5
    simp only [pB, pC] at hE6
    simp only [Act.put, pA, pB, pC]
    refine wv (v_moveT (.inr rfl) rfl) ?_
    simp only [Act.put, pA, pB, pC]
    repeat ((fail_if_success with_reducible show wA ..); (fail_if_success with_reducible show wB ..); go_step)
    refine wv (v_moveT (.inl rfl) rfl) ?_
    simp only [Act.put, pA, pB, pC]
    refine wv (v_not rfl rfl) ?_
    simp only [Act.put, pA, pB, pC]
    repeat ((fail_if_success with_reducible show wA ..); (fail_if_success with_reducible show wB ..); (fail_if_success (with_reducible show Code.wp _ (Code.cond _ _ _) _ _ _)); go_step)
    refine wp_cond_false (by first | rfl | exact congrArg Value.bool (decide_eq_false (by omega))) ?_
    skip
    repeat ((fail_if_success with_reducible show wA ..); (fail_if_success with_reducible show wB ..); go_step)
    refine wv (v_load (i := 3) hE6 rfl rfl rfl Try.underlying22 rfl (szA (n := 32))) ?_
    simp only [Act.put, pA, pB, pC]
    refine wl_step (st_gives hE6 rfl (run_call rfl Try.call20) (HL.out _) ?_)
    intro w7 hb7 hE7
    clear hE6
    simp only [Act.put, pA, pB, pC]
    refine wv (v_moveT (.inl rfl) rfl) ?_
    simp only [Act.put, pA, pB, pC]
    refine wv (v_extract rfl rfl rfl) ?_
    simp only [Act.put, pA, pB, pC]
    refine wv (v_extract rfl rfl rfl) ?_
    simp only [Act.put, pA, pB, pC]
    refine wl_step (st_alloc (zs := ints .u32 (List.replicate 24 0)) hE7 rfl rfl (fun w => by kernel_rfl) ?_)
    intro g4 w8 hb8 hE8
    clear hE7
    simp only [Act.put, pA, pB, pC]
    refine wl_step (st_store (i := 0) hE8 rfl rfl rfl rfl rfl (szA (n := 24)) (by first | (simp only [ints_size, digs_length, List.length_replicate, List.length_cons, List.length_nil]; done) | (simp only [ints_size, digs_length, List.length_replicate, List.length_cons, List.length_nil, List.length_set, List.length_append]; omega) | rfl) (by first | exact ints_one _ _ | decide | simp [*]) ?_)
    intro w9 hE9
    clear hE8
    simp only [pB, pC] at hE9
    simp only [Act.put, pA, pB, pC]
    refine wv (v_moveT (.inr rfl) rfl) ?_
    simp only [Act.put, pA, pB, pC]
    repeat ((fail_if_success with_reducible show wA ..); (fail_if_success with_reducible show wB ..); go_step)
    refine wp_region_env 9 (by kernel_rfl) (by kernel_rfl) (fun _ _ d _ _ h => by cases d <;> exact h) hE9 ?_
    refine hv (fun _ hW => (v_load (i := 0) hW rfl rfl rfl Try.underlying45 rfl (szA (n := 24)))) ?_
    simp only [Act.put, pA, pB, pC]
    refine hv (fun _ hW => (v_load (i := 3) hW rfl rfl rfl Try.underlying22 rfl (szA (n := 32)))) ?_
    simp only [Act.put, pA, pB, pC]
    refine headRun_call (fun w1 => run_call rfl Try.call24) (fun w1 hW => Hx1.out _) ?_
    simp only [Act.put, pA, pB, pC]
    refine headRun_call (fun w1 => run_call rfl Try.call27) (fun w1 hW => HB.out _) ?_
    simp only [Act.put, pA, pB, pC]
    refine hv (fun _ hW => (v_load (i := 2) hW rfl rfl rfl Try.underlying22 rfl (szA (n := 32)))) ?_
    simp only [Act.put, pA, pB, pC]
    refine headRun_call (fun w1 => run_call rfl Try.call24) (fun w1 hW => Hx2.out _) ?_
    simp only [Act.put, pA, pB, pC]
    refine headRun_call (fun w1 => run_call rfl Try.call21) (fun w1 hW => HD.out _) ?_
    simp only [Act.put, pA, pB, pC]
    refine headRun_call (fun w1 => run_call rfl Try.call23) (fun w1 hW => Hx3.out _) ?_
    simp only [Act.put, pA, pB, pC]
    refine headRun_alloc (zs := ints .u32 (List.replicate 24 0)) rfl rfl (fun w => by kernel_rfl) ?_
    simp only [Act.put, pA, pB, pC]
    refine headRun_nil (endK1 ?_)
    intro g5 w10 hE10
    clear hE9
    simp only [List.drop_succ_cons, List.drop_zero, Act.put, pA, pB, pC]
    refine wl_step (st_store (i := 0) hE10 rfl rfl rfl rfl rfl (szA (n := 24)) (by first | (simp only [ints_size, digs_length, List.length_replicate, List.length_cons, List.length_nil]; done) | (simp only [ints_size, digs_length, List.length_replicate, List.length_cons, List.length_nil, List.length_set, List.length_append]; omega) | rfl) (by first | exact ints_one _ _ | decide | simp [*]) ?_)
    intro w11 hE11
    clear hE10
    simp only [pB, pC] at hE11
    simp only [Act.put, pA, pB, pC]
    repeat ((fail_if_success with_reducible show wA ..); (fail_if_success with_reducible show wB ..); go_step)
    refine wv (v_load (i := 4) hE11 rfl rfl rfl Try.underlying22 rfl (szA (n := 32))) ?_
    simp only [Act.put, pA, pB, pC]
    refine wv (v_load (i := 2) hE11 rfl rfl rfl Try.underlying28 rfl (szA (n := 20))) ?_
    simp only [Act.put, pA, pB, pC]
    refine wv (v_load (i := 3) hE11 rfl rfl rfl Try.underlying22 rfl (szA (n := 32))) ?_
    simp only [Act.put, pA, pB, pC]
    refine wl_step (st_gives hE11 rfl (run_call rfl Try.call28) (Hy.out _) ?_)
    intro w12 hb12 hE12
    clear hE11
    simp only [Act.put, pA, pB, pC]
    refine wl_step (st_alloc (zs := ints .u64 (List.replicate 20 0)) hE12 rfl rfl (fun w => by kernel_rfl) ?_)
    intro g6 w13 hb13 hE13
    clear hE12
    simp only [Act.put, pA, pB, pC]
    refine wl_step (st_store (i := 0) hE13 rfl rfl rfl rfl rfl (szA (n := 20)) (by first | (simp only [ints_size, digs_length, List.length_replicate, List.length_cons, List.length_nil]; done) | (simp only [ints_size, digs_length, List.length_replicate, List.length_cons, List.length_nil, List.length_set, List.length_append]; omega) | rfl) (by first | exact ints_one _ _ | decide | simp [*]) ?_)
    intro w14 hE14
    clear hE13
    simp only [pB, pC] at hE14
    simp only [Act.put, pA, pB, pC]
    repeat ((fail_if_success with_reducible show wA ..); (fail_if_success with_reducible show wB ..); go_step)
    refine wp_region_B (n := 26) 25 (by kernel_rfl) rfl hE14 ?_
    intro w15 hb15 hE15
    clear hE14
    refine wpB_take (i := 0) (by kernel_rfl) rfl (by kernel_rfl) (fun _ _ _ h => h) rfl (v_load (i := 0) hE15 rfl rfl rfl Try.underlying28 rfl (szA (n := 20))) ?_
    simp only [Act.put, pA, pB, pC]
    refine wpB_take (i := 2) (by kernel_rfl) rfl (by kernel_rfl) (fun _ _ _ h => h) rfl (v_load (i := 1) hE15 rfl rfl rfl Try.underlying45 rfl (szA (n := 24))) ?_
    simp only [Act.put, pA, pB, pC]
    refine wpB_step (i := 1) (by kernel_rfl) rfl (st_gives hE15 rfl (run_call rfl Try.call15) (KB1.out _) ?_)
    intro w16 hb16 hE16
    clear hE15
    refine ⟨fun _ => hb16, ?_⟩
    simp only [Act.put, pA, pB, pC]
    refine wpB_step (i := 3) (by kernel_rfl) rfl (st_gives hE16 rfl (run_call rfl Try.call22) (KB2.out _) ?_)
    intro w17 hb17 hE17
    clear hE16
    refine ⟨fun _ => hb17, ?_⟩
    simp only [Act.put, pA, pB, pC]
    refine wpB_take (i := 4) (by kernel_rfl) rfl (by kernel_rfl) (fun _ _ _ h => h) rfl (v_eq32s rfl rfl rfl lb) ?_
    simp only [Act.put, pA, pB, pC]
    refine wpB_take (i := 5) (by kernel_rfl) rfl (by kernel_rfl) (fun _ _ _ h => h) rfl (v_moveT (.inl rfl) rfl) ?_
    simp only [Act.put, pA, pB, pC]
    refine wpB_take (i := 6) (by kernel_rfl) rfl (by kernel_rfl) (fun _ _ _ h => h) rfl (v_load (i := 3) hE17 rfl rfl rfl Try.underlying28 rfl (szA (n := 20))) ?_
    simp only [Act.put, pA, pB, pC]
    refine wpB_take (i := 7) (by kernel_rfl) rfl (by kernel_rfl) (fun _ _ _ h => h) rfl (v_load (i := 5) hE17 rfl rfl rfl Try.underlying22 rfl (szA (n := 32))) ?_
    simp only [Act.put, pA, pB, pC]
    refine wpB_take (i := 10) (by kernel_rfl) rfl (by kernel_rfl) (fun _ _ _ h => h) rfl (v_load (i := 4) hE17 rfl rfl rfl Try.underlying22 rfl (szA (n := 32))) ?_
    simp only [Act.put, pA, pB, pC]
    refine wpB_take (i := 14) (by kernel_rfl) rfl (by kernel_rfl) (fun _ _ _ h => h) rfl (v_load (i := 0) hE17 rfl rfl rfl Try.underlying28 rfl (szA (n := 20))) ?_
    simp only [Act.put, pA, pB, pC]
    refine wpB_step (i := 8) (by kernel_rfl) rfl (st_gives hE17 rfl (run_call rfl Try.call9) (Hz1.out _) ?_)
    intro w18 hb18 hE18
    clear hE17
    refine ⟨fun _ => hb18, ?_⟩
    simp only [Act.put, pA, pB, pC]
    refine wpB_step (i := 9) (by kernel_rfl) rfl (st_gives hE18 rfl (run_call rfl Try.call8) (Hg.out _) ?_)
    intro w19 hb19 hE19
    clear hE18
    refine ⟨fun _ => hb19, ?_⟩
    simp only [Act.put, pA, pB, pC]
    refine wpB_step (i := 11) (by kernel_rfl) rfl (st_gives hE19 rfl (run_call rfl Try.call9) (Hz2.out _) ?_)
    intro w20 hb20 hE20
    clear hE19
    refine ⟨fun _ => hb20, ?_⟩
    simp only [Act.put, pA, pB, pC]
    refine wpB_step (i := 12) (by kernel_rfl) rfl (st_buildPts [z1, z2] hE20 rfl rfl (by simp only [List.map_cons, List.map_nil, List.zipIdx_cons, List.zipIdx_nil]; rfl) rfl (by decide) (by decide) Try.underlying80 (by kernel_rfl) Try.zeroValue28 (H20.out) ?_)
    intro g7 w21 hb21 hE21
    clear hE20
    refine ⟨fun _ => hb21, ?_⟩
    simp only [Act.put, pA, pB, pC]
    refine wpB_step (i := 13) (by kernel_rfl) rfl (st_gives hE21 rfl (run_call rfl Try.call29) (HS.out _ _ _ (hE21.get (i := 0) rfl)) ?_)
    intro w22 hb22 hE22
    clear hE21
    refine ⟨fun _ => hb22, ?_⟩
    simp only [Act.put, pA, pB, pC]
    refine wpB_step (i := 15) (by kernel_rfl) rfl (st_gives hE22 rfl (run_call rfl Try.call11) (KS1.out _) ?_)
    intro w23 hb23 hE23
    clear hE22
    refine ⟨fun _ => hb23, ?_⟩
    simp only [Act.put, pA, pB, pC]
    refine wpB_take (i := 16) (by kernel_rfl) rfl (by kernel_rfl) (fun _ _ _ h => h) rfl (v_and rfl rfl (fun _ => rfl)) ?_
    simp only [Act.put, pA, pB, pC]
    refine wpB_take (i := 17) (by kernel_rfl) rfl (by kernel_rfl) (fun _ _ _ h => h) rfl (v_moveT (.inl rfl) rfl) ?_
    simp only [Act.put, pA, pB, pC]
    refine wpB_step (i := 18) (by kernel_rfl) rfl (st_gives hE23 rfl (run_call rfl Try.call29) (HE.out _) ?_)
    intro w24 hb24 hE24
    clear hE23
    refine ⟨fun _ => hb24, ?_⟩
    simp only [Act.put, pA, pB, pC]
    refine wpB_step (i := 19) (by kernel_rfl) rfl (st_gives hE24 rfl (run_call rfl Try.call12) (HZ.out _) ?_)
    intro w25 hb25 hE25
    clear hE24
    refine ⟨fun _ => hb25, ?_⟩
    simp only [Act.put, pA, pB, pC]
    refine wpB_step (i := 20) (by kernel_rfl) rfl (st_gives hE25 rfl (run_call rfl Try.call11) (KS2.out _) ?_)
    intro w26 hb26 hE26
    clear hE25
    refine ⟨fun _ => hb26, ?_⟩
    simp only [Act.put, pA, pB, pC]
    refine wpB_take (i := 21) (by kernel_rfl) rfl (by kernel_rfl) (fun _ _ _ h => h) rfl (v_and rfl rfl (fun _ => rfl)) ?_
    simp only [Act.put, pA, pB, pC]
    refine wpB_take (i := 22) (by kernel_rfl) rfl (by kernel_rfl) (fun _ _ _ h => h) rfl (v_moveT (.inl rfl) rfl) ?_
    simp only [Act.put, pA, pB, pC]
    refine wpB_step (i := 23) (by kernel_rfl) rfl (st_gives hE26 rfl (run_call rfl Try.call18) (HW.out _) ?_)
    intro w27 hb27 hE27
    clear hE26
    refine ⟨fun _ => hb27, ?_⟩
    simp only [Act.put, pA, pB, pC]
    refine wpB_take (i := 24) (by kernel_rfl) rfl (by kernel_rfl) (fun _ _ _ h => h) rfl (v_and rfl rfl (fun _ => rfl)) ?_
    simp only [Act.put, pA, pB, pC]
    refine wpB_step (i := 25) (by kernel_rfl) rfl (st_val rfl (v_moveT (.inr rfl) rfl) ?_)
    refine ⟨fun _ => Below.refl _ _, ?_⟩
    simp only [Act.put, pA, pB, pC]
    refine wpB_done (by kernel_rfl) ?_ _
    repeat ((fail_if_success with_reducible show wA ..); (fail_if_success with_reducible show wB ..); go_step)
    go_returns
    exact ⟨rfl, hE27.below⟩
  · have hC := fun w => PDecode_no ha da hpt w
    have HC := Lib.hid hC
    have lz : zeroL.length = 20 := rfl
    clear hC hpt hV da db dc
    have hE0 := Env.nil w
    go_enter Try.func7, Try.ntmps7
    repeat ((fail_if_success with_reducible show wA ..); (fail_if_success with_reducible show wB ..); go_step)
    refine wl_step (st_boxA hE0 rfl rfl rfl ?_)
    intro g0 w1 hb1 hE1
    clear hE0
    simp only [Act.put, pA, pB, pC]
    refine wl_step (st_boxA hE1 rfl rfl rfl ?_)
    intro g1 w2 hb2 hE2
    clear hE1
    simp only [Act.put, pA, pB, pC]
    refine wl_step (st_boxA hE2 rfl rfl rfl ?_)
    intro g2 w3 hb3 hE3
    clear hE2
    simp only [Act.put, pA, pB, pC]
    refine wv (v_moveC (.inr rfl)) ?_
    simp only [Act.put, pA, pB, pC]
    repeat ((fail_if_success with_reducible show wA ..); (fail_if_success with_reducible show wB ..); go_step)
    refine wv (v_load (i := 2) hE3 rfl rfl rfl Try.underlying22 rfl (szA (n := 32))) ?_
    simp only [Act.put, pA, pB, pC]
    refine wl_step (st_gives hE3 rfl (run_call rfl Try.call19) (HC.out _) ?_)
    intro w4 hb4 hE4
    clear hE3
    simp only [Act.put, pA, pB, pC]
    refine wv (v_moveT (.inl rfl) rfl) ?_
    simp only [Act.put, pA, pB, pC]
    refine wv (v_extract rfl rfl rfl) ?_
    simp only [Act.put, pA, pB, pC]
    refine wv (v_extract rfl rfl rfl) ?_
    simp only [Act.put, pA, pB, pC]
    refine wl_step (st_alloc (zs := ints .u64 (List.replicate 20 0)) hE4 rfl rfl (fun w => by kernel_rfl) ?_)
    intro g3 w5 hb5 hE5
    clear hE4
    simp only [Act.put, pA, pB, pC]
    refine wl_step (st_store (i := 0) hE5 rfl rfl rfl rfl rfl (szA (n := 20)) (by first | (simp only [ints_size, digs_length, List.length_replicate, List.length_cons, List.length_nil]; done) | (simp only [ints_size, digs_length, List.length_replicate, List.length_cons, List.length_nil, List.length_set, List.length_append]; omega) | rfl) (by first | exact ints_one _ _ | decide | simp [*]) ?_)
    intro w6 hE6
    clear hE5
    simp only [pB, pC] at hE6
    simp only [Act.put, pA, pB, pC]
    refine wv (v_moveT (.inr rfl) rfl) ?_
    simp only [Act.put, pA, pB, pC]
    repeat ((fail_if_success with_reducible show wA ..); (fail_if_success with_reducible show wB ..); go_step)
    refine wv (v_moveT (.inl rfl) rfl) ?_
    simp only [Act.put, pA, pB, pC]
    refine wv (v_not rfl rfl) ?_
    simp only [Act.put, pA, pB, pC]
    repeat ((fail_if_success with_reducible show wA ..); (fail_if_success with_reducible show wB ..); (fail_if_success (with_reducible show Code.wp _ (Code.cond _ _ _) _ _ _)); go_step)
    refine wp_cond_true (by first | rfl | exact congrArg Value.bool (decide_eq_true (by omega))) ?_
    skip
    repeat ((fail_if_success with_reducible show wA ..); (fail_if_success with_reducible show wB ..); go_step)
    refine wl_step (st_gives hE6 rfl (run_call rfl Try.call18) (HW.out _) ?_)
    intro w7 hb7 hE7
    clear hE6
    simp only [Act.put, pA, pB, pC]
    refine wv (v_moveT (.inr rfl) rfl) ?_
    simp only [Act.put, pA, pB, pC]
    repeat ((fail_if_success with_reducible show wA ..); (fail_if_success with_reducible show wB ..); go_step)
    go_returns
    exact ⟨rfl, hE7.below⟩
set_option maxRecDepth 100000 in
theorem curveBoths_lifted (os : Os) (started : os.Started) (H : Type) (enc : TypeId × Value → H) :
    ReturnsInHanded {} Try.checked os 7 .any (Rows.curveBothsSpec.pre6 enc Try.prog Try.f7 Rows.curveBothsRow.domain false) (Rows.curveBothsSpec.post enc Try.prog Try.f7 false true false false) := by
  refine returnsInHanded_of_change (C := Try.checked) own started (by kernel_rfl) Try.func7
    (ChangeSpec.witness6 (enc := enc) (C := Try.checked) false ⟨#[], #[.agg (ints .u8 (List.replicate 32 0)), .agg (ints .u8 (List.replicate 32 0)), .agg (ints .u8 (List.replicate 32 0))], []⟩ 8 (by kernel_rfl) (by kernel_rfl) (by kernel_rfl) (by kernel_rfl)) ?_
  intro W base args ds gs before hval0 hW hcnd _
  have hval : ∀ (j : Nat) t v, Try.f7.params[j]? = some t → args[j]? = some v → Value.okWide Try.prog W .any base t v := hval0
  have hW' := hW
  obtain ⟨p, q, hA0, hV, rfl, hfz, hnd⟩ := hW
  have hA : DataW.TrodAll enc Try.prog W 0 (fun _ => true) true Try.f7.params.toList args.toList ds p := hA0
  rw [Try.params7] at hA hval
  obtain ⟨v0, vs0, d0, ds0, p0, q0, hargs, rfl, rfl, h0, r0⟩ := trodAll_cons hA
  obtain ⟨v1, vs1, d1, ds1, p1, q1, rfl, rfl, rfl, h1, r1⟩ := trodAll_cons r0
  obtain ⟨v2, vs2, d2, ds2, p2, q2, rfl, rfl, rfl, h2, r2⟩ := trodAll_cons r1
  obtain ⟨rfl, rfl, rfl⟩ := trodAll_nil r2
  obtain rfl : args = #[v0, v1, v2] := by cases args; simp_all
  obtain ⟨rfl, rfl⟩ := trodVars_none hV
  have k0 := h0
  have lt0 : ∀ x ∈ p0, x.block < W.heap.size := by obtain ⟨m, hm⟩ := k0; exact DataW.trod_lt m _ _ _ hm
  have k1 := h1
  have lt1 : ∀ x ∈ p1, x.block < W.heap.size := by obtain ⟨m, hm⟩ := k1; exact DataW.trod_lt m _ _ _ hm
  have k2 := h2
  have lt2 : ∀ x ∈ p2, x.block < W.heap.size := by obtain ⟨m, hm⟩ := k2; exact DataW.trod_lt m _ _ _ hm
  obtain ⟨l0, rfl, hl0, dl0⟩ := open_u8s Try.underlying22 Try.underlying5 (by kernel_rfl) (by kernel_rfl) (hval 0 22 v0 rfl rfl) h0
  obtain ⟨l1, rfl, hl1, dl1⟩ := open_u8s Try.underlying22 Try.underlying5 (by kernel_rfl) (by kernel_rfl) (hval 1 22 v1 rfl rfl) h1
  obtain ⟨l2, rfl, hl2, dl2⟩ := open_u8s Try.underlying22 Try.underlying5 (by kernel_rfl) (by kernel_rfl) (hval 2 22 v2 rfl rfl) h2
  clear hA0 hval0
  refine (curveBoths_walk l0 l1 l2 hl0 hl1 hl2 dl0 dl1 dl2 W).mono fun e W' ⟨he, bel⟩ => ?_
  subst he
  exact ⟨_, rfl, _, _, _, [], _, [], hW', trodAll_mk1 (shut_bool Try.underlying4 _), (trodAll_cons_mk (Below.trod laidOut (by kernel_rfl) (of_decide_eq_true (by kernel_rfl)) k0 bel lt0) (trodAll_cons_mk (Below.trod laidOut (by kernel_rfl) (of_decide_eq_true (by kernel_rfl)) k1 bel lt1) (trodAll_cons_mk (Below.trod laidOut (by kernel_rfl) (of_decide_eq_true (by kernel_rfl)) k2 bel lt2) trodAll_mk0))), rfl, bel.frame _, fun h => by cases h⟩

theorem curveBoths_over : Rows.curveBothsRow.holds Try.pinned (OpenSpec.ofChange Rows.curveBothsSpec) :=
  OpenClaim.holds_of_wide 7 Try.f7 rfl rfl rfl rfl rfl rfl rfl ⟨rfl, rfl, rfl, rfl, rfl⟩ rfl rfl rfl rfl rfl (by kernel_rfl) Try.func7 (by kernel_rfl)
    (of_decide_eq_true (by kernel_rfl)) (by unfold Func.isWrapper; first | (rw [if_pos (by decide +kernel)]; kernel_rfl) | (rw [if_neg (by decide +kernel)]; exact ⟨rfl, rfl⟩))
    (fun os started H enc _ => curveBoths_lifted os started H enc)

theorem curveBoths_holds : Rows.CurveBothsSaid := curveBoths_over

#print axioms curveBoths_holds
end Go.Proofs.Ytmebjoehmheknaa
