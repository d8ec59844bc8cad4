/-
  Layer 6: the document's points by their digits; both multiples of the base; the sum of points.
  Layer 6: 'CurveAdds': the sum of any two points that bytes tell, and any multiple of one. No condition.
-/
import Derived.Test.YtmebjoehmheknaaJ25
import Derived.Test.YtmebjoehmheknaaJ26
import Derived.Test.YtmebjoehmheknaaJ27
namespace Go.Proofs.Ytmebjoehmheknaa
open Go.RowKit
set_option linter.unusedVariables false
set_option linter.unusedSimpArgs false

theorem f_neg_mul {n : Nat} [NeZero n] (x z : Fin n) : -(x * z) = -x * z := by grobner
/-- These digits tell a point, as the document has it. -/
def R4 (L : List Nat) (P : Pt) : Prop := ∃ r : P3, L = rpL r.1 r.2.1 r.2.2 ∧ R3 r P
abbrev rt (L : List Nat) : Value := .agg (ints .u32 L)
theorem R4.len {L : List Nat} {P : Pt} (h : R4 L P) : L.length = 24 := by
  obtain ⟨r, rfl, _⟩ := h
  exact rpL_len _ _ _
theorem rAdd4 {L M : List Nat} {P Q : Pt} (h : R4 L P) (h' : R4 M Q) : ∃ N, R4 N (padd P Q) ∧ ∀ w, Gives 23 #[rt L, rt M, nm dN] w (rt N) := by
  obtain ⟨r, rfl, h1⟩ := h
  obtain ⟨s, rfl, h2⟩ := h'
  exact ⟨_, ⟨add3 r s, rfl, add3_ok h1 h2⟩, fun w => add3_any h1 h2 w⟩
theorem rMul4 {L b : List Nat} {P : Pt} (h : R4 L P) (hb : b.length = 32) (db : Digs 256 b) : ∃ N, R4 N (smul (val 256 b) P) ∧ ∀ w, Gives 24 #[rt L, .agg (ints .u8 b)] w (rt N) := by
  obtain ⟨r, rfl, h1⟩ := h
  obtain ⟨s, hs, hg⟩ := rPMul_any h1 hb db
  exact ⟨_, ⟨s, rfl, hs⟩, hg⟩
theorem rNeg4 {L : List Nat} {P : Pt} (h : R4 L P) : ∃ N, R4 N (pneg P) ∧ ∀ w, Gives 26 #[rt L] w (rt N) := by
  obtain ⟨⟨X, Y, Z⟩, rfl, h1⟩ := h
  refine ⟨_, ⟨((pN - X) % pN, Y, Z), rfl, ?_⟩, fun w => rNeg_any h1.lx w⟩
  have hlx : X < pN := h1.lx
  exact ⟨Nat.mod_lt _ pos_pN, h1.ly, h1.lz, h1.nz, by
    show kk pN ((pN - X) % pN) = - P.x * kk pN Z
    have := h1.ex
    rw [kk_mod, kk_neg (Nat.le_of_lt hlx), show kk pN X = P.x * kk pN Z from this]
    exact f_neg_mul _ _, h1.ey⟩
theorem rBytes4 {L : List Nat} {P : Pt} (h : R4 L P) (w : World) : Gives 22 #[rt L] w (.agg (ints .u8 (encB P))) := by
  obtain ⟨r, rfl, h1⟩ := h
  exact rPBytes_any h1 w
theorem rDecode4 {b : List Nat} {P : Pt} (hb : b.length = 32) (db : Digs 256 b) (hP : encN P = val 256 b) : ∃ L, R4 L P ∧ ∀ w, Gives 20 #[.agg (ints .u8 b)] w (.tuple #[rt L, .bool true]) := by
  obtain ⟨r, h1, h2⟩ := rPDecode_yes hb db hP
  exact ⟨_, ⟨r, rfl, h1⟩, h2⟩
theorem rZero4 : R4 (rpL 0 1 1) pzero := ⟨(0, 1, 1), rfl, RRep_zero⟩
theorem rDecode4_no {b : List Nat} (hb : b.length = 32) (db : Digs 256 b) (h : ¬ isPt (val 256 b)) (w : World) : Gives 20 #[.agg (ints .u8 b)] w (.tuple #[rt (rpL 0 1 1), .bool false]) := rPDecode_no hb db h w
theorem rBase4 : ∃ L, R4 L baseP ∧ ∀ w, Gives 27 #[] w (rt L) := by
  obtain ⟨r, h1, h2⟩ := rPBase_any
  exact ⟨_, ⟨r, rfl, h1⟩, h2⟩

set_option maxHeartbeats 4000000 in
theorem two_any {b : List Nat} (hb : b.length = 32) (db : Digs 256 b) : ∃ p L, PRep p (smul (val 256 b) baseP) ∧ R4 L (smul (val 256 b) baseP) ∧ ∀ w, Gives 25 #[.agg (ints .u8 b)] w (.tuple #[pt p, rt L]) := by
  obtain ⟨g, hg, Gg⟩ := PBase_any
  obtain ⟨p, hp, Gp⟩ := PMul_any hg hb db
  obtain ⟨M, hM, GM⟩ := rBase4
  obtain ⟨L, hL, GL⟩ := rMul4 hM hb db
  refine ⟨p, L, hp, hL, fun w => ?_⟩
  have lg := hg.len
  have lp := hp.len
  have lM := hM.len
  have lL := hL.len
  have Hg := Lib.hid Gg
  clear Gg hg
  have Hp := Lib.hid Gp
  clear Gp hp
  have HM := Lib.hid GM
  clear GM hM
  have HL := Lib.hid GL
  clear GL hL
  clear db
  have hE0 := Env.nil w
  go_enter Try.func25, Try.ntmps25
  repeat ((fail_if_success with_reducible show wA ..); (fail_if_success with_reducible show wB ..); go_step)
  refine wl_step (st_boxA hE0 rfl rfl rfl ?_)
  intro g0 w1 hb1 hE1
  clear hE0
  simp only [Act.put, pA, pB, pC]
  refine wl_step (st_alloc (zs := ints .u64 (List.replicate 20 0)) hE1 rfl rfl (fun w => by kernel_rfl) ?_)
  intro g1 w2 hb2 hE2
  clear hE1
  simp only [Act.put, pA, pB, pC]
  refine wl_step (st_alloc (zs := ints .u32 (List.replicate 24 0)) hE2 rfl rfl (fun w => by kernel_rfl) ?_)
  intro g2 w3 hb3 hE3
  clear hE2
  simp only [Act.put, pA, pB, pC]
  repeat ((fail_if_success with_reducible show wA ..); (fail_if_success with_reducible show wB ..); go_step)
  refine wp_region_B (n := 8) 6 (by kernel_rfl) rfl hE3 ?_
  intro w4 hb4 hE4
  clear hE3
  refine wpB_take (i := 1) (by kernel_rfl) rfl (by kernel_rfl) (fun _ _ _ h => h) rfl (v_load (i := 2) hE4 rfl rfl rfl Try.underlying22 rfl (szA (n := 32))) ?_
  simp only [Act.put, pA, pB, pC]
  refine wpB_take (i := 4) (by kernel_rfl) rfl (by kernel_rfl) (fun _ _ _ h => h) rfl (v_load (i := 2) hE4 rfl rfl rfl Try.underlying22 rfl (szA (n := 32))) ?_
  simp only [Act.put, pA, pB, pC]
  refine wpB_step (i := 0) (by kernel_rfl) rfl (st_gives hE4 rfl (run_call rfl Try.call8) (Hg.out _) ?_)
  intro w5 hb5 hE5
  clear hE4
  refine ⟨fun _ => hb5, ?_⟩
  simp only [Act.put, pA, pB, pC]
  refine wpB_step (i := 2) (by kernel_rfl) rfl (st_gives hE5 rfl (run_call rfl Try.call9) (Hp.out _) ?_)
  intro w6 hb6 hE6
  clear hE5
  refine ⟨fun _ => hb6, ?_⟩
  simp only [Act.put, pA, pB, pC]
  refine wpB_step (i := 3) (by kernel_rfl) rfl (st_gives hE6 rfl (run_call rfl Try.call27) (HM.out _) ?_)
  intro w7 hb7 hE7
  clear hE6
  refine ⟨fun _ => hb7, ?_⟩
  simp only [Act.put, pA, pB, pC]
  refine wpB_step (i := 5) (by kernel_rfl) rfl (st_gives hE7 rfl (run_call rfl Try.call24) (HL.out _) ?_)
  intro w8 hb8 hE8
  clear hE7
  refine ⟨fun _ => hb8, ?_⟩
  simp only [Act.put, pA, pB, pC]
  refine wpB_step (i := 6) (by kernel_rfl) rfl (st_store (i := 1) hE8 rfl rfl rfl rfl rfl (szA (n := 20)) (by first | (simp only [ints_size, digs_length, List.length_replicate, List.length_cons, List.length_nil]; done) | (simp only [ints_size, digs_length, List.length_replicate, List.length_cons, List.length_nil, List.length_set, List.length_append]; omega) | rfl) (by first | exact ints_one _ _ | decide | simp [*]) ?_)
  intro w9 hE9
  clear hE8
  simp only [pB, pC] at hE9
  refine ⟨fun h => absurd h (by decide), ?_⟩
  simp only [Act.put, pA, pB, pC]
  refine wpB_step (i := 7) (by kernel_rfl) rfl (st_store (i := 0) hE9 rfl rfl rfl rfl rfl (szA (n := 24)) (by first | (simp only [ints_size, digs_length, List.length_replicate, List.length_cons, List.length_nil]; done) | (simp only [ints_size, digs_length, List.length_replicate, List.length_cons, List.length_nil, List.length_set, List.length_append]; omega) | rfl) (by first | exact ints_one _ _ | decide | simp [*]) ?_)
  intro w10 hE10
  clear hE9
  simp only [pB, pC] at hE10
  refine ⟨fun h => absurd h (by decide), ?_⟩
  simp only [Act.put, pA, pB, pC]
  refine wpB_done (by kernel_rfl) ?_ _
  repeat ((fail_if_success with_reducible show wA ..); (fail_if_success with_reducible show wB ..); go_step)
  refine bodyPost_ret (results_cc rfl _ _ _ _ _ _ _ _ (0, 0) (0, 0) _ _ rfl (hE10.get (i := 1) rfl) Try.underlying28 rfl (szA (n := 20)) rfl (hE10.get (i := 0) rfl) Try.underlying45 rfl (szA (n := 24))) rfl ⟨rfl, hE10.below⟩

/-- The sum of points, one by one. -/
noncomputable def sumL (rows : List (List Nat)) : Nat → List Nat
  | 0 => zeroL
  | k + 1 => addP (sumL rows k) (rows.getD k [])
def psum (f : Nat → Pt) : Nat → Pt
  | 0 => pzero
  | k + 1 => padd (psum f k) (f k)
theorem sumL_ok {rows : List (List Nat)} {f : Nat → Pt} (h : ∀ k, k < rows.length → PRep (rows.getD k []) (f k)) : ∀ k, k ≤ rows.length → PRep (sumL rows k) (psum f k)
  | 0, _ => PRep_zero
  | k + 1, hk => (addP_ok (sumL_ok h k (by omega)) (h k (by omega))).1
set_option maxRecDepth 100000 in
set_option maxHeartbeats 4000000 in
theorem Sum_walk {rows : List (List Nat)} {f : Nat → Pt} (h : ∀ k, k < rows.length → PRep (rows.getD k []) (f k)) (hn : rows.length < 4611686018427387904) {n : Nat} (hne : rows.length = n) {v : Value} {w : World}
    (hv : (v = .slice none 0 0 ∧ n = 0) ∨ ∃ g T, v = .slice (some ⟨g, 0, none⟩) n n ∧ w.heap[g]? = some (.cells (ints .u64 rows.flatten) T (0, 0))) : Gives 29 #[v] w (pt (sumL rows n)) := by
  obtain ⟨p, hp, hc⟩ : ∃ p, v = .slice p n n ∧ ∀ k, k < n → ∃ g, p = some ⟨g, 0, none⟩ ∧ w.rangeAt g (0 + k * 20) (ints .u64 (rows.getD k [])).toList := by
    rcases hv with ⟨rfl, rfl⟩ | ⟨g, T, rfl, hg⟩
    · exact ⟨none, rfl, fun k hk => absurd hk (Nat.not_lt_zero _)⟩
    · refine ⟨_, rfl, fun k hk => ⟨g, rfl, ?_⟩⟩
      have hr : ∀ r ∈ rows, r.length = 20 := fun r hr => by
        obtain ⟨i, hi, rfl⟩ := List.getElem_of_mem hr
        have := (h i hi).len
        rwa [List.getD_eq_getElem?_getD, List.getElem?_eq_getElem hi] at this
      have hk' : k < rows.length := by omega
      have hl := rows_length 20 rows hr
      have hg2 := rows_get 20 rows hr k hk'
      have h1 := World.rangeAt_of_block hg (k * 20) 20
      have e : ((ints .u64 rows.flatten).extract (k * 20) (k * 20 + 20)).toList = (ints .u64 (rows.getD k [])).toList := by
        have : (ints .u64 ((rows.flatten.drop (k * 20)).take 20)).toList = (ints .u64 (rows.getD k [])).toList := by
          rw [hg2, List.getD_eq_getElem?_getD, List.getElem?_eq_getElem hk']
          rfl
        rw [← this]
        simp [ints, List.map_take, List.map_drop]
      rw [e] at h1
      rwa [Nat.zero_add]
  subst hp
  have Hs := Lib.hid (fun k hk => sumL_ok h k hk)
  have Hr := Lib.hid h
  have Hc := Lib.hid hc
  have Hne := Lib.hid hne
  have HZ := Lib.hid PZero_any
  have lz : zeroL.length = 20 := rfl
  rw [hne] at hn
  clear hv h hc hne
  have hE0 := Env.nil w
  go_enter Try.func29, Try.ntmps29
  repeat ((fail_if_success with_reducible show wA ..); (fail_if_success with_reducible show wB ..); go_step)
  refine wl_step (st_alloc (zs := ints .u64 (List.replicate 20 0)) hE0 rfl rfl (fun w => by kernel_rfl) ?_)
  intro g0 w1 hb1 hE1
  clear hE0
  simp only [Act.put, pA, pB, pC]
  repeat ((fail_if_success with_reducible show wA ..); (fail_if_success with_reducible show wB ..); go_step)
  refine wl_step (st_gives hE1 rfl (run_call rfl Try.call12) (HZ.out _) ?_)
  intro w2 hb2 hE2
  clear hE1
  simp only [Act.put, pA, pB, pC]
  refine wl_step (st_alloc (zs := ints .u64 (List.replicate 20 0)) hE2 rfl rfl (fun w => by kernel_rfl) ?_)
  intro g1 w3 hb3 hE3
  clear hE2
  simp only [Act.put, pA, pB, pC]
  refine wl_step (st_store (i := 0) hE3 rfl rfl rfl rfl rfl (szA (n := 20)) (by first | (simp only [ints_size, digs_length, List.length_replicate, List.length_cons, List.length_nil]; done) | (simp only [ints_size, digs_length, List.length_replicate, List.length_cons, List.length_nil, List.length_set, List.length_append]; omega) | rfl) (by first | exact ints_one _ _ | decide | simp [*]) ?_)
  intro w4 hE4
  clear hE3
  simp only [pB, pC] at hE4
  simp only [Act.put, pA, pB, pC]
  repeat ((fail_if_success with_reducible show wA ..); (fail_if_success with_reducible show wB ..); go_step)
  refine wv (v_moveT (.inl rfl) rfl) ?_
  simp only [Act.put, pA, pB, pC]
  refine wv (v_len rfl rfl Try.underlying80 (by omega)) ?_
  simp only [Act.put, pA, pB, pC]
  refine wv (v_moveC (.inl rfl)) ?_
  simp only [Act.put, pA, pB, pC]
  go_wp2
  go_loopw [9] (fun i wr => ∃ K : Nat, K ≤ n ∧ i = .int .i64 K ∧ Env w [⟨g1, 28, ints .u64 (sumL rows K)⟩, ⟨g0, 28, ints .u64 (List.replicate 20 0)⟩] wr) (fun i _ => n - (intOf i).toNat)
  case atStart => exact ⟨0, Nat.zero_le _, rfl, hE4⟩
  case round =>
    clear hE4
    obtain ⟨K, hK, rfl, hE0⟩ := hrel
    have hX := Hs.out K (by rw [Hne.out]; exact hK)
    have lX := hX.len
    by_cases hlt : K < n
    · have hK' : K < rows.length := by rw [Hne.out]; exact hlt
      obtain ⟨g, rfl, hrow⟩ := Hc.out K hlt
      have hr := Hr.out K hK'
      have ha := addP_ok hX hr
      have e : addP (sumL rows K) (rows.getD K []) = sumL rows (K + 1) := rfl
      rw [e] at ha
      have lY := ha.1.len
      have lr := hr.len
      obtain ⟨X, hXe⟩ : ∃ X, sumL rows K = X := ⟨_, rfl⟩
      obtain ⟨Y, hYe⟩ : ∃ Y, sumL rows (K + 1) = Y := ⟨_, rfl⟩
      obtain ⟨r, hre⟩ : ∃ r, rows.getD K [] = r := ⟨_, rfl⟩
      rw [hXe] at hE0 ha lX
      rw [hYe] at ha lY
      rw [hre] at ha hrow lr
      have HA := Lib.hid ha.2
      have Hrow := Lib.hid hrow
      have HY := Lib.hid hYe
      clear hX hr ha e hXe hYe hre hrow hK'
      repeat ((fail_if_success with_reducible show wA ..); (fail_if_success with_reducible show wB ..); go_step)
      refine wv (v_lss rfl rfl rfl) ?_
      simp only [Act.put, pA, pB, pC]
      repeat ((fail_if_success with_reducible show wA ..); (fail_if_success with_reducible show wB ..); go_step)
      refine wv (v_indexSs (s := 20) rfl rfl rfl Try.underlying80 (by kernel_rfl) hlt) ?_
      simp only [Act.put, pA, pB, pC]
      refine wv (v_loadMid (cs := ints .u64 r) rfl rfl (fun w1 hb => range_below Hrow.out (hE0.below.trans (hb.mono hE0.below.size))) Try.underlying28 rfl (sz_of (n := 20) (by kernel_rfl) (by rw [ints_size, lr]))) ?_
      simp only [Act.put, pA, pB, pC]
      refine wl_step (st_alloc (zs := ints .u64 (List.replicate 20 0)) hE0 rfl rfl (fun w => by kernel_rfl) ?_)
      intro g2 w1 hb1 hE1
      clear hE0
      simp only [Act.put, pA, pB, pC]
      refine wl_step (st_store (i := 0) hE1 rfl rfl rfl rfl rfl (szA (n := 20)) (by first | (simp only [ints_size, digs_length, List.length_replicate, List.length_cons, List.length_nil]; done) | (simp only [ints_size, digs_length, List.length_replicate, List.length_cons, List.length_nil, List.length_set, List.length_append]; omega) | rfl) (by first | exact ints_one _ _ | decide | simp [*]) ?_)
      intro w2 hE2
      clear hE1
      simp only [pB, pC] at hE2
      simp only [Act.put, pA, pB, pC]
      repeat ((fail_if_success with_reducible show wA ..); (fail_if_success with_reducible show wB ..); go_step)
      refine wv (v_load (i := 1) hE2 rfl rfl rfl Try.underlying28 rfl (szA (n := 20))) ?_
      simp only [Act.put, pA, pB, pC]
      refine wv (v_load (i := 0) hE2 rfl rfl rfl Try.underlying28 rfl (szA (n := 20))) ?_
      simp only [Act.put, pA, pB, pC]
      refine wl_step (st_gives hE2 rfl (run_call rfl Try.call10) (HA.out _) ?_)
      intro w3 hb3 hE3
      clear hE2
      simp only [Act.put, pA, pB, pC]
      refine wl_step (st_store (i := 1) hE3 rfl rfl rfl rfl rfl (szA (n := 20)) (by first | (simp only [ints_size, digs_length, List.length_replicate, List.length_cons, List.length_nil]; done) | (simp only [ints_size, digs_length, List.length_replicate, List.length_cons, List.length_nil, List.length_set, List.length_append]; omega) | rfl) (by first | exact ints_one _ _ | decide | simp [*]) ?_)
      intro w4 hE4
      clear hE3
      simp only [pB, pC] at hE4
      simp only [Act.put, pA, pB, pC]
      repeat ((fail_if_success with_reducible show wA ..); (fail_if_success with_reducible show wB ..); go_step)
      refine wv (v_add (n := 1) rfl rfl rfl (w_i64 (by omega))) ?_
      simp only [Act.put, pA, pB, pC]
      refine wv (v_moveT (.inl rfl) rfl) ?_
      simp only [Act.put, pA, pB, pC]
      go_wp2
      go_roundw
      case rel => exact ⟨K + 1, by omega, rfl, by rw [HY.out]; exact (hE4).sub (List.sublist_cons_self _ _)⟩
      case measure => simp [intOf]; omega
    · have hK' : K = n := by omega
      subst hK'
      repeat ((fail_if_success with_reducible show wA ..); (fail_if_success with_reducible show wB ..); go_step)
      refine wv (v_lss rfl rfl rfl) ?_
      simp only [Act.put, pA, pB, pC]
      repeat ((fail_if_success with_reducible show wA ..); (fail_if_success with_reducible show wB ..); go_step)
      refine wv (v_load (i := 0) hE0 rfl rfl rfl Try.underlying28 rfl (szA (n := 20))) ?_
      simp only [Act.put, pA, pB, pC]
      refine wl_step (st_store (i := 1) hE0 rfl rfl rfl rfl rfl (szA (n := 20)) (by first | (simp only [ints_size, digs_length, List.length_replicate, List.length_cons, List.length_nil]; done) | (simp only [ints_size, digs_length, List.length_replicate, List.length_cons, List.length_nil, List.length_set, List.length_append]; omega) | rfl) (by first | exact ints_one _ _ | decide | simp [*]) ?_)
      intro w1 hE1
      clear hE0
      simp only [pB, pC] at hE1
      simp only [Act.put, pA, pB, pC]
      repeat ((fail_if_success with_reducible show wA ..); (fail_if_success with_reducible show wB ..); go_step)
      refine bodyPost_ret (results_cell_row rfl _ _ _ _ _ (0, 0) _ rfl (hE1.get (i := 1) rfl) Try.underlying28 rfl (szA (n := 20))) rfl ⟨rfl, hE1.below⟩
theorem Sum_any {rows : List (List Nat)} {f : Nat → Pt} (h : ∀ k, k < rows.length → PRep (rows.getD k []) (f k)) (hn : rows.length < 4611686018427387904) : ∃ c, PRep c (psum f rows.length) ∧ ∀ (v : Value) (w : World),
    ((v = .slice none 0 0 ∧ rows.length = 0) ∨ ∃ g T, v = .slice (some ⟨g, 0, none⟩) rows.length rows.length ∧ w.heap[g]? = some (.cells (ints .u64 rows.flatten) T (0, 0))) → Gives 29 #[v] w (pt c) :=
  ⟨_, sumL_ok h _ (Nat.le_refl _), fun v w hv => Sum_walk h hn rfl hv⟩
end Go.Proofs.Ytmebjoehmheknaa
namespace Go.Proofs.Ytmebjoehmheknaa
open Go.ChangeShapes Go.WideShapes Go.ChangeAt Go.RowKit
set_option linter.unusedVariables false
set_option linter.unusedSimpArgs false

set_option maxRecDepth 100000 in
set_option maxHeartbeats 16000000 in
theorem curveAdds_walk (a b c : List Nat) (ha : a.length = 32) (hb : b.length = 32) (hc : c.length = 32) (da : Digs 256 a) (db : Digs 256 b) (dc : Digs 256 c) (w : World) :
    Gives 5 #[.agg (ints .u8 a), .agg (ints .u8 b), .agg (ints .u8 c)] w (.bool true) := by
  have HW := Lib.hid (fun w => awake_any w)
  have hV : val 256 a < 115792089237316195423570985008687907853269984665640564039457584007913129639936 := by
    have := val_lt da
    rw [ha] at this
    exact this
  have hV' : val 256 b < 115792089237316195423570985008687907853269984665640564039457584007913129639936 := by
    have := val_lt db
    rw [hb] at this
    exact this
  have lz : zeroL.length = 20 := rfl
  by_cases hpt : isPt (val 256 a)
  · obtain ⟨P, hP, _, _⟩ := pt_of hV hpt
    obtain ⟨p, hp, Gp⟩ := PDecode_yes ha da hP
    by_cases hqt : isPt (val 256 b)
    · obtain ⟨Q, hQ, _, _⟩ := pt_of hV' hqt
      obtain ⟨q, hq, Gq⟩ := PDecode_yes hb db hQ
      obtain ⟨L, hL, GL⟩ := rDecode4 ha da hP
      obtain ⟨M, hM, GM⟩ := rDecode4 hb db hQ
      obtain ⟨s, hs, Gs⟩ := PAdd_any hp hq
      obtain ⟨t, ht, Gt⟩ := rAdd4 hL hM
      obtain ⟨d, hd, Gd⟩ := PDouble_any hp
      obtain ⟨e, he, Ge⟩ := rAdd4 hL hL
      obtain ⟨m, hm, Gm⟩ := PMul_any hp hc dc
      obtain ⟨n, hn, Gn⟩ := rMul4 hL hc dc
      have hB1 := fun w => PBytes_any hs w
      have hB2 := fun w => rBytes4 ht w
      have hB3 := fun w => PBytes_any hd w
      have hB4 := fun w => rBytes4 he w
      have hB5 := fun w => PBytes_any hm w
      have hB6 := fun w => rBytes4 hn w
      have lb1 := encB_len (padd P Q)
      have lb2 := encB_len (padd P P)
      have lb3 := encB_len (smul (val 256 c) P)
      obtain ⟨b1, hb1⟩ : ∃ b, encB (padd P Q) = b := ⟨_, rfl⟩
      obtain ⟨b2, hb2⟩ : ∃ b, encB (padd P P) = b := ⟨_, rfl⟩
      obtain ⟨b3, hb3⟩ : ∃ b, encB (smul (val 256 c) P) = b := ⟨_, rfl⟩
      rw [hb1] at hB1 hB2 lb1
      rw [hb2] at hB3 hB4 lb2
      rw [hb3] at hB5 hB6 lb3
      have HB1 := Lib.hid hB1
      clear hB1
      have HB2 := Lib.hid hB2
      clear hB2
      have HB3 := Lib.hid hB3
      clear hB3
      have HB4 := Lib.hid hB4
      clear hB4
      have HB5 := Lib.hid hB5
      clear hB5
      have HB6 := Lib.hid hB6
      clear hB6
      have lp := hp.len
      have Kp := Lib.hid Gp
      clear Gp
      have lq := hq.len
      have Kq := Lib.hid Gq
      clear Gq
      have lL := hL.len
      have KL := Lib.hid GL
      clear GL
      have lM := hM.len
      have KM := Lib.hid GM
      clear GM
      have ls := hs.len
      have Ks := Lib.hid Gs
      clear Gs
      have lt := ht.len
      have Kt := Lib.hid Gt
      clear Gt
      have ld := hd.len
      have Kd := Lib.hid Gd
      clear Gd
      have le := he.len
      have Ke := Lib.hid Ge
      clear Ge
      have lm := hm.len
      have Km := Lib.hid Gm
      clear Gm
      have ln := hn.len
      have Kn := Lib.hid Gn
      clear Gn
      have HD := Lib.hid (fun w => rD_any w)
      have nd := nm_len dN
      clear hp hq hL hM hs ht hd he hm hn hb1 hb2 hb3 da db dc hP hQ hpt hqt hV hV'
      have hE0 := Env.nil w
      go_enter Try.func5, Try.ntmps5
      repeat ((fail_if_success with_reducible show wA ..); (fail_if_success with_reducible show wB ..); go_step)
      refine wl_step (st_boxA hE0 rfl rfl rfl ?_)
      intro g0 w1 hb1 hE1
      clear hE0
      simp only [Act.put, pA, pB, pC]
      refine wl_step (st_boxA hE1 rfl rfl rfl ?_)
      intro g1 w2 hb2 hE2
      clear hE1
      simp only [Act.put, pA, pB, pC]
      refine wl_step (st_boxA hE2 rfl rfl rfl ?_)
      intro g2 w3 hb3 hE3
      clear hE2
      simp only [Act.put, pA, pB, pC]
      refine wv (v_moveC (.inr rfl)) ?_
      simp only [Act.put, pA, pB, pC]
      repeat ((fail_if_success with_reducible show wA ..); (fail_if_success with_reducible show wB ..); go_step)
      refine wv (v_load (i := 2) hE3 rfl rfl rfl Try.underlying22 rfl (szA (n := 32))) ?_
      simp only [Act.put, pA, pB, pC]
      refine wl_step (st_gives hE3 rfl (run_call rfl Try.call19) (Kp.out _) ?_)
      intro w4 hb4 hE4
      clear hE3
      simp only [Act.put, pA, pB, pC]
      refine wv (v_moveT (.inl rfl) rfl) ?_
      simp only [Act.put, pA, pB, pC]
      refine wv (v_extract rfl rfl rfl) ?_
      simp only [Act.put, pA, pB, pC]
      refine wv (v_extract rfl rfl rfl) ?_
      simp only [Act.put, pA, pB, pC]
      refine wl_step (st_alloc (zs := ints .u64 (List.replicate 20 0)) hE4 rfl rfl (fun w => by kernel_rfl) ?_)
      intro g3 w5 hb5 hE5
      clear hE4
      simp only [Act.put, pA, pB, pC]
      refine wl_step (st_store (i := 0) hE5 rfl rfl rfl rfl rfl (szA (n := 20)) (by first | (simp only [ints_size, digs_length, List.length_replicate, List.length_cons, List.length_nil]; done) | (simp only [ints_size, digs_length, List.length_replicate, List.length_cons, List.length_nil, List.length_set, List.length_append]; omega) | rfl) (by first | exact ints_one _ _ | decide | simp [*]) ?_)
      intro w6 hE6
      clear hE5
      simp only [pB, pC] at hE6
      simp only [Act.put, pA, pB, pC]
      refine wv (v_moveT (.inr rfl) rfl) ?_
      simp only [Act.put, pA, pB, pC]
      repeat ((fail_if_success with_reducible show wA ..); (fail_if_success with_reducible show wB ..); go_step)
      refine wv (v_load (i := 2) hE6 rfl rfl rfl Try.underlying22 rfl (szA (n := 32))) ?_
      simp only [Act.put, pA, pB, pC]
      refine wl_step (st_gives hE6 rfl (run_call rfl Try.call19) (Kq.out _) ?_)
      intro w7 hb7 hE7
      clear hE6
      simp only [Act.put, pA, pB, pC]
      refine wv (v_moveT (.inl rfl) rfl) ?_
      simp only [Act.put, pA, pB, pC]
      refine wv (v_extract rfl rfl rfl) ?_
      simp only [Act.put, pA, pB, pC]
      refine wv (v_extract rfl rfl rfl) ?_
      simp only [Act.put, pA, pB, pC]
      refine wl_step (st_alloc (zs := ints .u64 (List.replicate 20 0)) hE7 rfl rfl (fun w => by kernel_rfl) ?_)
      intro g4 w8 hb8 hE8
      clear hE7
      simp only [Act.put, pA, pB, pC]
      refine wl_step (st_store (i := 0) hE8 rfl rfl rfl rfl rfl (szA (n := 20)) (by first | (simp only [ints_size, digs_length, List.length_replicate, List.length_cons, List.length_nil]; done) | (simp only [ints_size, digs_length, List.length_replicate, List.length_cons, List.length_nil, List.length_set, List.length_append]; omega) | rfl) (by first | exact ints_one _ _ | decide | simp [*]) ?_)
      intro w9 hE9
      clear hE8
      simp only [pB, pC] at hE9
      simp only [Act.put, pA, pB, pC]
      refine wv (v_moveT (.inr rfl) rfl) ?_
      simp only [Act.put, pA, pB, pC]
      repeat ((fail_if_success with_reducible show wA ..); (fail_if_success with_reducible show wB ..); go_step)
      refine wv (v_moveT (.inl rfl) rfl) ?_
      simp only [Act.put, pA, pB, pC]
      refine wv (v_not rfl rfl) ?_
      simp only [Act.put, pA, pB, pC]
      refine wv (v_moveT (.inl rfl) rfl) ?_
      simp only [Act.put, pA, pB, pC]
      refine wv (v_moveT (.inl rfl) rfl) ?_
      simp only [Act.put, pA, pB, pC]
      refine wv (v_not rfl rfl) ?_
      simp only [Act.put, pA, pB, pC]
      refine wv (v_or rfl rfl (fun _ => rfl)) ?_
      simp only [Act.put, pA, pB, pC]
      repeat ((fail_if_success with_reducible show wA ..); (fail_if_success with_reducible show wB ..); (fail_if_success (with_reducible show Code.wp _ (Code.cond _ _ _) _ _ _)); go_step)
      refine wp_cond_false (by first | rfl | exact congrArg Value.bool (decide_eq_false (by omega))) ?_
      skip
      repeat ((fail_if_success with_reducible show wA ..); (fail_if_success with_reducible show wB ..); go_step)
      refine wv (v_load (i := 4) hE9 rfl rfl rfl Try.underlying22 rfl (szA (n := 32))) ?_
      simp only [Act.put, pA, pB, pC]
      refine wl_step (st_gives hE9 rfl (run_call rfl Try.call20) (KL.out _) ?_)
      intro w10 hb10 hE10
      clear hE9
      simp only [Act.put, pA, pB, pC]
      refine wv (v_moveT (.inl rfl) rfl) ?_
      simp only [Act.put, pA, pB, pC]
      refine wv (v_extract rfl rfl rfl) ?_
      simp only [Act.put, pA, pB, pC]
      refine wv (v_extract rfl rfl rfl) ?_
      simp only [Act.put, pA, pB, pC]
      refine wl_step (st_alloc (zs := ints .u32 (List.replicate 24 0)) hE10 rfl rfl (fun w => by kernel_rfl) ?_)
      intro g5 w11 hb11 hE11
      clear hE10
      simp only [Act.put, pA, pB, pC]
      refine wl_step (st_store (i := 0) hE11 rfl rfl rfl rfl rfl (szA (n := 24)) (by first | (simp only [ints_size, digs_length, List.length_replicate, List.length_cons, List.length_nil]; done) | (simp only [ints_size, digs_length, List.length_replicate, List.length_cons, List.length_nil, List.length_set, List.length_append]; omega) | rfl) (by first | exact ints_one _ _ | decide | simp [*]) ?_)
      intro w12 hE12
      clear hE11
      simp only [pB, pC] at hE12
      simp only [Act.put, pA, pB, pC]
      refine wv (v_moveT (.inr rfl) rfl) ?_
      simp only [Act.put, pA, pB, pC]
      repeat ((fail_if_success with_reducible show wA ..); (fail_if_success with_reducible show wB ..); go_step)
      refine wv (v_load (i := 4) hE12 rfl rfl rfl Try.underlying22 rfl (szA (n := 32))) ?_
      simp only [Act.put, pA, pB, pC]
      refine wl_step (st_gives hE12 rfl (run_call rfl Try.call20) (KM.out _) ?_)
      intro w13 hb13 hE13
      clear hE12
      simp only [Act.put, pA, pB, pC]
      refine wv (v_moveT (.inl rfl) rfl) ?_
      simp only [Act.put, pA, pB, pC]
      refine wv (v_extract rfl rfl rfl) ?_
      simp only [Act.put, pA, pB, pC]
      refine wv (v_extract rfl rfl rfl) ?_
      simp only [Act.put, pA, pB, pC]
      refine wl_step (st_alloc (zs := ints .u32 (List.replicate 24 0)) hE13 rfl rfl (fun w => by kernel_rfl) ?_)
      intro g6 w14 hb14 hE14
      clear hE13
      simp only [Act.put, pA, pB, pC]
      refine wl_step (st_store (i := 0) hE14 rfl rfl rfl rfl rfl (szA (n := 24)) (by first | (simp only [ints_size, digs_length, List.length_replicate, List.length_cons, List.length_nil]; done) | (simp only [ints_size, digs_length, List.length_replicate, List.length_cons, List.length_nil, List.length_set, List.length_append]; omega) | rfl) (by first | exact ints_one _ _ | decide | simp [*]) ?_)
      intro w15 hE15
      clear hE14
      simp only [pB, pC] at hE15
      simp only [Act.put, pA, pB, pC]
      refine wv (v_moveT (.inr rfl) rfl) ?_
      simp only [Act.put, pA, pB, pC]
      repeat ((fail_if_success with_reducible show wA ..); (fail_if_success with_reducible show wB ..); go_step)
      refine wl_step (st_gives hE15 rfl (run_call rfl Try.call21) (HD.out _) ?_)
      intro w16 hb16 hE16
      clear hE15
      simp only [Act.put, pA, pB, pC]
      refine wl_step (st_alloc (zs := ints .u32 (List.replicate 8 0)) hE16 rfl rfl (fun w => by kernel_rfl) ?_)
      intro g7 w17 hb17 hE17
      clear hE16
      simp only [Act.put, pA, pB, pC]
      refine wl_step (st_store (i := 0) hE17 rfl rfl rfl rfl rfl (szA (n := 8)) (by first | (simp only [ints_size, digs_length, List.length_replicate, List.length_cons, List.length_nil]; done) | (simp only [ints_size, digs_length, List.length_replicate, List.length_cons, List.length_nil, List.length_set, List.length_append]; omega) | rfl) (by first | exact ints_one _ _ | decide | simp [*]) ?_)
      intro w18 hE18
      clear hE17
      simp only [pB, pC] at hE18
      simp only [Act.put, pA, pB, pC]
      repeat ((fail_if_success with_reducible show wA ..); (fail_if_success with_reducible show wB ..); go_step)
      refine wp_region_B (n := 36) 35 (by kernel_rfl) rfl hE18 ?_
      intro w19 hb19 hE19
      clear hE18
      refine wpB_take (i := 0) (by kernel_rfl) rfl (by kernel_rfl) (fun _ _ _ h => h) rfl (v_load (i := 4) hE19 rfl rfl rfl Try.underlying28 rfl (szA (n := 20))) ?_
      simp only [Act.put, pA, pB, pC]
      refine wpB_take (i := 1) (by kernel_rfl) rfl (by kernel_rfl) (fun _ _ _ h => h) rfl (v_load (i := 3) hE19 rfl rfl rfl Try.underlying28 rfl (szA (n := 20))) ?_
      simp only [Act.put, pA, pB, pC]
      refine wpB_take (i := 4) (by kernel_rfl) rfl (by kernel_rfl) (fun _ _ _ h => h) rfl (v_load (i := 2) hE19 rfl rfl rfl Try.underlying45 rfl (szA (n := 24))) ?_
      simp only [Act.put, pA, pB, pC]
      refine wpB_take (i := 5) (by kernel_rfl) rfl (by kernel_rfl) (fun _ _ _ h => h) rfl (v_load (i := 1) hE19 rfl rfl rfl Try.underlying45 rfl (szA (n := 24))) ?_
      simp only [Act.put, pA, pB, pC]
      refine wpB_take (i := 6) (by kernel_rfl) rfl (by kernel_rfl) (fun _ _ _ h => h) rfl (v_load (i := 0) hE19 rfl rfl rfl Try.underlying43 rfl (szA (n := 8))) ?_
      simp only [Act.put, pA, pB, pC]
      refine wpB_step (i := 2) (by kernel_rfl) rfl (st_gives hE19 rfl (run_call rfl Try.call10) (Ks.out _) ?_)
      intro w20 hb20 hE20
      clear hE19
      refine ⟨fun _ => hb20, ?_⟩
      simp only [Act.put, pA, pB, pC]
      refine wpB_step (i := 3) (by kernel_rfl) rfl (st_gives hE20 rfl (run_call rfl Try.call15) (HB1.out _) ?_)
      intro w21 hb21 hE21
      clear hE20
      refine ⟨fun _ => hb21, ?_⟩
      simp only [Act.put, pA, pB, pC]
      refine wpB_step (i := 7) (by kernel_rfl) rfl (st_gives hE21 rfl (run_call rfl Try.call23) (Kt.out _) ?_)
      intro w22 hb22 hE22
      clear hE21
      refine ⟨fun _ => hb22, ?_⟩
      simp only [Act.put, pA, pB, pC]
      refine wpB_step (i := 8) (by kernel_rfl) rfl (st_gives hE22 rfl (run_call rfl Try.call22) (HB2.out _) ?_)
      intro w23 hb23 hE23
      clear hE22
      refine ⟨fun _ => hb23, ?_⟩
      simp only [Act.put, pA, pB, pC]
      refine wpB_take (i := 9) (by kernel_rfl) rfl (by kernel_rfl) (fun _ _ _ h => h) rfl (v_eq32s rfl rfl rfl lb1) ?_
      simp only [Act.put, pA, pB, pC]
      refine wpB_take (i := 10) (by kernel_rfl) rfl (by kernel_rfl) (fun _ _ _ h => h) rfl (v_moveT (.inl rfl) rfl) ?_
      simp only [Act.put, pA, pB, pC]
      refine wpB_take (i := 11) (by kernel_rfl) rfl (by kernel_rfl) (fun _ _ _ h => h) rfl (v_load (i := 4) hE23 rfl rfl rfl Try.underlying28 rfl (szA (n := 20))) ?_
      simp only [Act.put, pA, pB, pC]
      refine wpB_take (i := 14) (by kernel_rfl) rfl (by kernel_rfl) (fun _ _ _ h => h) rfl (v_load (i := 2) hE23 rfl rfl rfl Try.underlying45 rfl (szA (n := 24))) ?_
      simp only [Act.put, pA, pB, pC]
      refine wpB_take (i := 15) (by kernel_rfl) rfl (by kernel_rfl) (fun _ _ _ h => h) rfl (v_load (i := 2) hE23 rfl rfl rfl Try.underlying45 rfl (szA (n := 24))) ?_
      simp only [Act.put, pA, pB, pC]
      refine wpB_take (i := 16) (by kernel_rfl) rfl (by kernel_rfl) (fun _ _ _ h => h) rfl (v_load (i := 0) hE23 rfl rfl rfl Try.underlying43 rfl (szA (n := 8))) ?_
      simp only [Act.put, pA, pB, pC]
      refine wpB_step (i := 12) (by kernel_rfl) rfl (st_gives hE23 rfl (run_call rfl Try.call14) (Kd.out _) ?_)
      intro w24 hb24 hE24
      clear hE23
      refine ⟨fun _ => hb24, ?_⟩
      simp only [Act.put, pA, pB, pC]
      refine wpB_step (i := 13) (by kernel_rfl) rfl (st_gives hE24 rfl (run_call rfl Try.call15) (HB3.out _) ?_)
      intro w25 hb25 hE25
      clear hE24
      refine ⟨fun _ => hb25, ?_⟩
      simp only [Act.put, pA, pB, pC]
      refine wpB_step (i := 17) (by kernel_rfl) rfl (st_gives hE25 rfl (run_call rfl Try.call23) (Ke.out _) ?_)
      intro w26 hb26 hE26
      clear hE25
      refine ⟨fun _ => hb26, ?_⟩
      simp only [Act.put, pA, pB, pC]
      refine wpB_step (i := 18) (by kernel_rfl) rfl (st_gives hE26 rfl (run_call rfl Try.call22) (HB4.out _) ?_)
      intro w27 hb27 hE27
      clear hE26
      refine ⟨fun _ => hb27, ?_⟩
      simp only [Act.put, pA, pB, pC]
      refine wpB_take (i := 19) (by kernel_rfl) rfl (by kernel_rfl) (fun _ _ _ h => h) rfl (v_eq32s rfl rfl rfl lb2) ?_
      simp only [Act.put, pA, pB, pC]
      refine wpB_take (i := 20) (by kernel_rfl) rfl (by kernel_rfl) (fun _ _ _ h => h) rfl (v_and rfl rfl (fun _ => rfl)) ?_
      simp only [Act.put, pA, pB, pC]
      refine wpB_take (i := 21) (by kernel_rfl) rfl (by kernel_rfl) (fun _ _ _ h => h) rfl (v_moveT (.inl rfl) rfl) ?_
      simp only [Act.put, pA, pB, pC]
      refine wpB_take (i := 22) (by kernel_rfl) rfl (by kernel_rfl) (fun _ _ _ h => h) rfl (v_load (i := 4) hE27 rfl rfl rfl Try.underlying28 rfl (szA (n := 20))) ?_
      simp only [Act.put, pA, pB, pC]
      refine wpB_take (i := 23) (by kernel_rfl) rfl (by kernel_rfl) (fun _ _ _ h => h) rfl (v_load (i := 5) hE27 rfl rfl rfl Try.underlying22 rfl (szA (n := 32))) ?_
      simp only [Act.put, pA, pB, pC]
      refine wpB_take (i := 26) (by kernel_rfl) rfl (by kernel_rfl) (fun _ _ _ h => h) rfl (v_load (i := 2) hE27 rfl rfl rfl Try.underlying45 rfl (szA (n := 24))) ?_
      simp only [Act.put, pA, pB, pC]
      refine wpB_take (i := 27) (by kernel_rfl) rfl (by kernel_rfl) (fun _ _ _ h => h) rfl (v_load (i := 5) hE27 rfl rfl rfl Try.underlying22 rfl (szA (n := 32))) ?_
      simp only [Act.put, pA, pB, pC]
      refine wpB_step (i := 24) (by kernel_rfl) rfl (st_gives hE27 rfl (run_call rfl Try.call9) (Km.out _) ?_)
      intro w28 hb28 hE28
      clear hE27
      refine ⟨fun _ => hb28, ?_⟩
      simp only [Act.put, pA, pB, pC]
      refine wpB_step (i := 25) (by kernel_rfl) rfl (st_gives hE28 rfl (run_call rfl Try.call15) (HB5.out _) ?_)
      intro w29 hb29 hE29
      clear hE28
      refine ⟨fun _ => hb29, ?_⟩
      simp only [Act.put, pA, pB, pC]
      refine wpB_step (i := 28) (by kernel_rfl) rfl (st_gives hE29 rfl (run_call rfl Try.call24) (Kn.out _) ?_)
      intro w30 hb30 hE30
      clear hE29
      refine ⟨fun _ => hb30, ?_⟩
      simp only [Act.put, pA, pB, pC]
      refine wpB_step (i := 29) (by kernel_rfl) rfl (st_gives hE30 rfl (run_call rfl Try.call22) (HB6.out _) ?_)
      intro w31 hb31 hE31
      clear hE30
      refine ⟨fun _ => hb31, ?_⟩
      simp only [Act.put, pA, pB, pC]
      refine wpB_take (i := 30) (by kernel_rfl) rfl (by kernel_rfl) (fun _ _ _ h => h) rfl (v_eq32s rfl rfl rfl lb3) ?_
      simp only [Act.put, pA, pB, pC]
      refine wpB_take (i := 31) (by kernel_rfl) rfl (by kernel_rfl) (fun _ _ _ h => h) rfl (v_and rfl rfl (fun _ => rfl)) ?_
      simp only [Act.put, pA, pB, pC]
      refine wpB_take (i := 32) (by kernel_rfl) rfl (by kernel_rfl) (fun _ _ _ h => h) rfl (v_moveT (.inl rfl) rfl) ?_
      simp only [Act.put, pA, pB, pC]
      refine wpB_step (i := 33) (by kernel_rfl) rfl (st_gives hE31 rfl (run_call rfl Try.call18) (HW.out _) ?_)
      intro w32 hb32 hE32
      clear hE31
      refine ⟨fun _ => hb32, ?_⟩
      simp only [Act.put, pA, pB, pC]
      refine wpB_take (i := 34) (by kernel_rfl) rfl (by kernel_rfl) (fun _ _ _ h => h) rfl (v_and rfl rfl (fun _ => rfl)) ?_
      simp only [Act.put, pA, pB, pC]
      refine wpB_step (i := 35) (by kernel_rfl) rfl (st_val rfl (v_moveT (.inr rfl) rfl) ?_)
      refine ⟨fun _ => Below.refl _ _, ?_⟩
      simp only [Act.put, pA, pB, pC]
      refine wpB_done (by kernel_rfl) ?_ _
      repeat ((fail_if_success with_reducible show wA ..); (fail_if_success with_reducible show wB ..); go_step)
      go_returns
      exact ⟨rfl, hE32.below⟩
    · have hC := fun w => PDecode_no hb db hqt w
      have HC := Lib.hid hC
      have lp := hp.len
      have Kp := Lib.hid Gp
      clear hC hqt hp Gp hP hpt hV hV' da db dc
      have hE0 := Env.nil w
      go_enter Try.func5, Try.ntmps5
      repeat ((fail_if_success with_reducible show wA ..); (fail_if_success with_reducible show wB ..); go_step)
      refine wl_step (st_boxA hE0 rfl rfl rfl ?_)
      intro g0 w1 hb1 hE1
      clear hE0
      simp only [Act.put, pA, pB, pC]
      refine wl_step (st_boxA hE1 rfl rfl rfl ?_)
      intro g1 w2 hb2 hE2
      clear hE1
      simp only [Act.put, pA, pB, pC]
      refine wl_step (st_boxA hE2 rfl rfl rfl ?_)
      intro g2 w3 hb3 hE3
      clear hE2
      simp only [Act.put, pA, pB, pC]
      refine wv (v_moveC (.inr rfl)) ?_
      simp only [Act.put, pA, pB, pC]
      repeat ((fail_if_success with_reducible show wA ..); (fail_if_success with_reducible show wB ..); go_step)
      refine wv (v_load (i := 2) hE3 rfl rfl rfl Try.underlying22 rfl (szA (n := 32))) ?_
      simp only [Act.put, pA, pB, pC]
      refine wl_step (st_gives hE3 rfl (run_call rfl Try.call19) (Kp.out _) ?_)
      intro w4 hb4 hE4
      clear hE3
      simp only [Act.put, pA, pB, pC]
      refine wv (v_moveT (.inl rfl) rfl) ?_
      simp only [Act.put, pA, pB, pC]
      refine wv (v_extract rfl rfl rfl) ?_
      simp only [Act.put, pA, pB, pC]
      refine wv (v_extract rfl rfl rfl) ?_
      simp only [Act.put, pA, pB, pC]
      refine wl_step (st_alloc (zs := ints .u64 (List.replicate 20 0)) hE4 rfl rfl (fun w => by kernel_rfl) ?_)
      intro g3 w5 hb5 hE5
      clear hE4
      simp only [Act.put, pA, pB, pC]
      refine wl_step (st_store (i := 0) hE5 rfl rfl rfl rfl rfl (szA (n := 20)) (by first | (simp only [ints_size, digs_length, List.length_replicate, List.length_cons, List.length_nil]; done) | (simp only [ints_size, digs_length, List.length_replicate, List.length_cons, List.length_nil, List.length_set, List.length_append]; omega) | rfl) (by first | exact ints_one _ _ | decide | simp [*]) ?_)
      intro w6 hE6
      clear hE5
      simp only [pB, pC] at hE6
      simp only [Act.put, pA, pB, pC]
      refine wv (v_moveT (.inr rfl) rfl) ?_
      simp only [Act.put, pA, pB, pC]
      repeat ((fail_if_success with_reducible show wA ..); (fail_if_success with_reducible show wB ..); go_step)
      refine wv (v_load (i := 2) hE6 rfl rfl rfl Try.underlying22 rfl (szA (n := 32))) ?_
      simp only [Act.put, pA, pB, pC]
      refine wl_step (st_gives hE6 rfl (run_call rfl Try.call19) (HC.out _) ?_)
      intro w7 hb7 hE7
      clear hE6
      simp only [Act.put, pA, pB, pC]
      refine wv (v_moveT (.inl rfl) rfl) ?_
      simp only [Act.put, pA, pB, pC]
      refine wv (v_extract rfl rfl rfl) ?_
      simp only [Act.put, pA, pB, pC]
      refine wv (v_extract rfl rfl rfl) ?_
      simp only [Act.put, pA, pB, pC]
      refine wl_step (st_alloc (zs := ints .u64 (List.replicate 20 0)) hE7 rfl rfl (fun w => by kernel_rfl) ?_)
      intro g4 w8 hb8 hE8
      clear hE7
      simp only [Act.put, pA, pB, pC]
      refine wl_step (st_store (i := 0) hE8 rfl rfl rfl rfl rfl (szA (n := 20)) (by first | (simp only [ints_size, digs_length, List.length_replicate, List.length_cons, List.length_nil]; done) | (simp only [ints_size, digs_length, List.length_replicate, List.length_cons, List.length_nil, List.length_set, List.length_append]; omega) | rfl) (by first | exact ints_one _ _ | decide | simp [*]) ?_)
      intro w9 hE9
      clear hE8
      simp only [pB, pC] at hE9
      simp only [Act.put, pA, pB, pC]
      refine wv (v_moveT (.inr rfl) rfl) ?_
      simp only [Act.put, pA, pB, pC]
      repeat ((fail_if_success with_reducible show wA ..); (fail_if_success with_reducible show wB ..); go_step)
      refine wv (v_moveT (.inl rfl) rfl) ?_
      simp only [Act.put, pA, pB, pC]
      refine wv (v_not rfl rfl) ?_
      simp only [Act.put, pA, pB, pC]
      refine wv (v_moveT (.inl rfl) rfl) ?_
      simp only [Act.put, pA, pB, pC]
      refine wv (v_moveT (.inl rfl) rfl) ?_
      simp only [Act.put, pA, pB, pC]
      refine wv (v_not rfl rfl) ?_
      simp only [Act.put, pA, pB, pC]
      refine wv (v_or rfl rfl (fun _ => rfl)) ?_
      simp only [Act.put, pA, pB, pC]
      repeat ((fail_if_success with_reducible show wA ..); (fail_if_success with_reducible show wB ..); (fail_if_success (with_reducible show Code.wp _ (Code.cond _ _ _) _ _ _)); go_step)
      refine wp_cond_true (by first | rfl | exact congrArg Value.bool (decide_eq_true (by omega))) ?_
      skip
      repeat ((fail_if_success with_reducible show wA ..); (fail_if_success with_reducible show wB ..); go_step)
      refine wl_step (st_gives hE9 rfl (run_call rfl Try.call18) (HW.out _) ?_)
      intro w10 hb10 hE10
      clear hE9
      simp only [Act.put, pA, pB, pC]
      refine wv (v_moveT (.inr rfl) rfl) ?_
      simp only [Act.put, pA, pB, pC]
      repeat ((fail_if_success with_reducible show wA ..); (fail_if_success with_reducible show wB ..); go_step)
      go_returns
      exact ⟨rfl, hE10.below⟩
  · have hC := fun w => PDecode_no ha da hpt w
    have HC := Lib.hid hC
    have hd : ∃ (l : List Nat) (k : Bool), l.length = 20 ∧ ∀ w, Gives 19 #[.agg (ints .u8 b)] w (.tuple #[pt l, .bool k]) := by
      by_cases hqt : isPt (val 256 b)
      · obtain ⟨Q, hQ, _, _⟩ := pt_of hV' hqt
        obtain ⟨q, hq, Gq⟩ := PDecode_yes hb db hQ
        exact ⟨q, true, hq.len, Gq⟩
      · exact ⟨zeroL, false, rfl, fun w => PDecode_no hb db hqt w⟩
    obtain ⟨q, k, lq, Gq⟩ := hd
    have Kq := Lib.hid Gq
    clear hC hpt hV hV' da db dc Gq
    have hE0 := Env.nil w
    go_enter Try.func5, Try.ntmps5
    repeat ((fail_if_success with_reducible show wA ..); (fail_if_success with_reducible show wB ..); go_step)
    refine wl_step (st_boxA hE0 rfl rfl rfl ?_)
    intro g0 w1 hb1 hE1
    clear hE0
    simp only [Act.put, pA, pB, pC]
    refine wl_step (st_boxA hE1 rfl rfl rfl ?_)
    intro g1 w2 hb2 hE2
    clear hE1
    simp only [Act.put, pA, pB, pC]
    refine wl_step (st_boxA hE2 rfl rfl rfl ?_)
    intro g2 w3 hb3 hE3
    clear hE2
    simp only [Act.put, pA, pB, pC]
    refine wv (v_moveC (.inr rfl)) ?_
    simp only [Act.put, pA, pB, pC]
    repeat ((fail_if_success with_reducible show wA ..); (fail_if_success with_reducible show wB ..); go_step)
    refine wv (v_load (i := 2) hE3 rfl rfl rfl Try.underlying22 rfl (szA (n := 32))) ?_
    simp only [Act.put, pA, pB, pC]
    refine wl_step (st_gives hE3 rfl (run_call rfl Try.call19) (HC.out _) ?_)
    intro w4 hb4 hE4
    clear hE3
    simp only [Act.put, pA, pB, pC]
    refine wv (v_moveT (.inl rfl) rfl) ?_
    simp only [Act.put, pA, pB, pC]
    refine wv (v_extract rfl rfl rfl) ?_
    simp only [Act.put, pA, pB, pC]
    refine wv (v_extract rfl rfl rfl) ?_
    simp only [Act.put, pA, pB, pC]
    refine wl_step (st_alloc (zs := ints .u64 (List.replicate 20 0)) hE4 rfl rfl (fun w => by kernel_rfl) ?_)
    intro g3 w5 hb5 hE5
    clear hE4
    simp only [Act.put, pA, pB, pC]
    refine wl_step (st_store (i := 0) hE5 rfl rfl rfl rfl rfl (szA (n := 20)) (by first | (simp only [ints_size, digs_length, List.length_replicate, List.length_cons, List.length_nil]; done) | (simp only [ints_size, digs_length, List.length_replicate, List.length_cons, List.length_nil, List.length_set, List.length_append]; omega) | rfl) (by first | exact ints_one _ _ | decide | simp [*]) ?_)
    intro w6 hE6
    clear hE5
    simp only [pB, pC] at hE6
    simp only [Act.put, pA, pB, pC]
    refine wv (v_moveT (.inr rfl) rfl) ?_
    simp only [Act.put, pA, pB, pC]
    repeat ((fail_if_success with_reducible show wA ..); (fail_if_success with_reducible show wB ..); go_step)
    refine wv (v_load (i := 2) hE6 rfl rfl rfl Try.underlying22 rfl (szA (n := 32))) ?_
    simp only [Act.put, pA, pB, pC]
    refine wl_step (st_gives hE6 rfl (run_call rfl Try.call19) (Kq.out _) ?_)
    intro w7 hb7 hE7
    clear hE6
    simp only [Act.put, pA, pB, pC]
    refine wv (v_moveT (.inl rfl) rfl) ?_
    simp only [Act.put, pA, pB, pC]
    refine wv (v_extract rfl rfl rfl) ?_
    simp only [Act.put, pA, pB, pC]
    refine wv (v_extract rfl rfl rfl) ?_
    simp only [Act.put, pA, pB, pC]
    refine wl_step (st_alloc (zs := ints .u64 (List.replicate 20 0)) hE7 rfl rfl (fun w => by kernel_rfl) ?_)
    intro g4 w8 hb8 hE8
    clear hE7
    simp only [Act.put, pA, pB, pC]
    refine wl_step (st_store (i := 0) hE8 rfl rfl rfl rfl rfl (szA (n := 20)) (by first | (simp only [ints_size, digs_length, List.length_replicate, List.length_cons, List.length_nil]; done) | (simp only [ints_size, digs_length, List.length_replicate, List.length_cons, List.length_nil, List.length_set, List.length_append]; omega) | rfl) (by first | exact ints_one _ _ | decide | simp [*]) ?_)
    intro w9 hE9
    clear hE8
    simp only [pB, pC] at hE9
    simp only [Act.put, pA, pB, pC]
    refine wv (v_moveT (.inr rfl) rfl) ?_
    simp only [Act.put, pA, pB, pC]
    repeat ((fail_if_success with_reducible show wA ..); (fail_if_success with_reducible show wB ..); go_step)
    refine wv (v_moveT (.inl rfl) rfl) ?_
    simp only [Act.put, pA, pB, pC]
    refine wv (v_not rfl rfl) ?_
    simp only [Act.put, pA, pB, pC]
    refine wv (v_moveT (.inl rfl) rfl) ?_
    simp only [Act.put, pA, pB, pC]
    refine wl_step (st_skip rfl ?_)
    simp only [Act.put, pA, pB, pC]
    refine wl_step (st_skip rfl ?_)
    simp only [Act.put, pA, pB, pC]
    refine wv (v_orT rfl rfl) ?_
    simp only [Act.put, pA, pB, pC]
    repeat ((fail_if_success with_reducible show wA ..); (fail_if_success with_reducible show wB ..); (fail_if_success (with_reducible show Code.wp _ (Code.cond _ _ _) _ _ _)); go_step)
    refine wp_cond_true (by first | rfl | exact congrArg Value.bool (decide_eq_true (by omega))) ?_
    skip
    repeat ((fail_if_success with_reducible show wA ..); (fail_if_success with_reducible show wB ..); go_step)
    refine wl_step (st_gives hE9 rfl (run_call rfl Try.call18) (HW.out _) ?_)
    intro w10 hb10 hE10
    clear hE9
    simp only [Act.put, pA, pB, pC]
    refine wv (v_moveT (.inr rfl) rfl) ?_
    simp only [Act.put, pA, pB, pC]
    repeat ((fail_if_success with_reducible show wA ..); (fail_if_success with_reducible show wB ..); go_step)
    go_returns
    exact ⟨rfl, hE10.below⟩
set_option maxRecDepth 100000 in
theorem curveAdds_lifted (os : Os) (started : os.Started) (H : Type) (enc : TypeId × Value → H) :
    ReturnsInHanded {} Try.checked os 5 .any (Rows.curveAddsSpec.pre6 enc Try.prog Try.f5 Rows.curveAddsRow.domain false) (Rows.curveAddsSpec.post enc Try.prog Try.f5 false true false false) := by
  refine returnsInHanded_of_change (C := Try.checked) own started (by kernel_rfl) Try.func5
    (ChangeSpec.witness6 (enc := enc) (C := Try.checked) false ⟨#[], #[.agg (ints .u8 (List.replicate 32 0)), .agg (ints .u8 (List.replicate 32 0)), .agg (ints .u8 (List.replicate 32 0))], []⟩ 8 (by kernel_rfl) (by kernel_rfl) (by kernel_rfl) (by kernel_rfl)) ?_
  intro W base args ds gs before hval0 hW hcnd _
  have hval : ∀ (j : Nat) t v, Try.f5.params[j]? = some t → args[j]? = some v → Value.okWide Try.prog W .any base t v := hval0
  have hW' := hW
  obtain ⟨p, q, hA0, hV, rfl, hfz, hnd⟩ := hW
  have hA : DataW.TrodAll enc Try.prog W 0 (fun _ => true) true Try.f5.params.toList args.toList ds p := hA0
  rw [Try.params5] at hA hval
  obtain ⟨v0, vs0, d0, ds0, p0, q0, hargs, rfl, rfl, h0, r0⟩ := trodAll_cons hA
  obtain ⟨v1, vs1, d1, ds1, p1, q1, rfl, rfl, rfl, h1, r1⟩ := trodAll_cons r0
  obtain ⟨v2, vs2, d2, ds2, p2, q2, rfl, rfl, rfl, h2, r2⟩ := trodAll_cons r1
  obtain ⟨rfl, rfl, rfl⟩ := trodAll_nil r2
  obtain rfl : args = #[v0, v1, v2] := by cases args; simp_all
  obtain ⟨rfl, rfl⟩ := trodVars_none hV
  have k0 := h0
  have lt0 : ∀ x ∈ p0, x.block < W.heap.size := by obtain ⟨m, hm⟩ := k0; exact DataW.trod_lt m _ _ _ hm
  have k1 := h1
  have lt1 : ∀ x ∈ p1, x.block < W.heap.size := by obtain ⟨m, hm⟩ := k1; exact DataW.trod_lt m _ _ _ hm
  have k2 := h2
  have lt2 : ∀ x ∈ p2, x.block < W.heap.size := by obtain ⟨m, hm⟩ := k2; exact DataW.trod_lt m _ _ _ hm
  obtain ⟨l0, rfl, hl0, dl0⟩ := open_u8s Try.underlying22 Try.underlying5 (by kernel_rfl) (by kernel_rfl) (hval 0 22 v0 rfl rfl) h0
  obtain ⟨l1, rfl, hl1, dl1⟩ := open_u8s Try.underlying22 Try.underlying5 (by kernel_rfl) (by kernel_rfl) (hval 1 22 v1 rfl rfl) h1
  obtain ⟨l2, rfl, hl2, dl2⟩ := open_u8s Try.underlying22 Try.underlying5 (by kernel_rfl) (by kernel_rfl) (hval 2 22 v2 rfl rfl) h2
  clear hA0 hval0
  refine (curveAdds_walk l0 l1 l2 hl0 hl1 hl2 dl0 dl1 dl2 W).mono fun e W' ⟨he, bel⟩ => ?_
  subst he
  exact ⟨_, rfl, _, _, _, [], _, [], hW', trodAll_mk1 (shut_bool Try.underlying4 _), (trodAll_cons_mk (Below.trod laidOut (by kernel_rfl) (of_decide_eq_true (by kernel_rfl)) k0 bel lt0) (trodAll_cons_mk (Below.trod laidOut (by kernel_rfl) (of_decide_eq_true (by kernel_rfl)) k1 bel lt1) (trodAll_cons_mk (Below.trod laidOut (by kernel_rfl) (of_decide_eq_true (by kernel_rfl)) k2 bel lt2) trodAll_mk0))), rfl, bel.frame _, fun h => by cases h⟩

theorem curveAdds_over : Rows.curveAddsRow.holds Try.pinned (OpenSpec.ofChange Rows.curveAddsSpec) :=
  OpenClaim.holds_of_wide 5 Try.f5 rfl rfl rfl rfl rfl rfl rfl ⟨rfl, rfl, rfl, rfl, rfl⟩ rfl rfl rfl rfl rfl (by kernel_rfl) Try.func5 (by kernel_rfl)
    (of_decide_eq_true (by kernel_rfl)) (by unfold Func.isWrapper; first | (rw [if_pos (by decide +kernel)]; kernel_rfl) | (rw [if_neg (by decide +kernel)]; exact ⟨rfl, rfl⟩))
    (fun os started H enc _ => curveAdds_lifted os started H enc)

theorem curveAdds_holds : Rows.CurveAddsSaid := curveAdds_over

#print axioms curveAdds_holds
end Go.Proofs.Ytmebjoehmheknaa
