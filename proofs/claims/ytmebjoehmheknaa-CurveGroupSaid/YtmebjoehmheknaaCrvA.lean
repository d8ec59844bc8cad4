/-
  Layer 6: points: what four numbers tell a point; zero, the curve's number, the negative, the sum.
-/
import Derived.Test.YtmebjoehmheknaaKon
import Derived.Test.YtmebjoehmheknaaCrvM
import Derived.Test.YtmebjoehmheknaaBld
import Derived.Test.YtmebjoehmheknaaEnd
namespace Go.Proofs.Ytmebjoehmheknaa
open Go.RowKit
set_option linter.unusedVariables false
set_option linter.unusedSimpArgs false

section
variable {a : Act} {w : World} {o : Oper}
theorem v_point {parts : List (Nat × Operand)} {L : List Nat} (rows : List (List Nat)) (hL : rows.flatten = L) (ho : o.op = .build 28 parts.toArray)
    (hp : parts.map (fun p => (p.1, a.eval p.2)) = (rows.map (ints .u64)).zipIdx.map fun x => (x.2, Value.agg x.1)) (hn : rows.length = 4) (hr : ∀ r ∈ rows, r.length = 5) : Val Try.prog o a (.agg (ints .u64 L)) w := by
  subst hL
  exact v_buildRows (n := 4) (s := 5) rows ho (by kernel_rfl : _ = some Try.t28) Try.underlying28 rfl (by kernel_rfl) (by kernel_rfl) hp hn hr
end

/-- A point's value. -/
abbrev pt (l : List Nat) : Value := .agg (ints .u64 l)
/-- Four numbers tell a point. -/
structure PRep (l : List Nat) (P : Pt) : Prop where
  len : l.length = 20
  fx : Fe ((l.drop 0).take 5)
  fy : Fe ((l.drop 5).take 5)
  fz : Fe ((l.drop 10).take 5)
  ft : Fe ((l.drop 15).take 5)
  nz : fk ((l.drop 10).take 5) ≠ 0
  ex : fk ((l.drop 0).take 5) = P.x * fk ((l.drop 10).take 5)
  ey : fk ((l.drop 5).take 5) = P.y * fk ((l.drop 10).take 5)
  et : fk ((l.drop 15).take 5) = P.x * P.y * fk ((l.drop 10).take 5)
theorem PRep_mk {x y z t : List Nat} {P : Pt} (fx : Fe x) (fy : Fe y) (fz : Fe z) (ft : Fe t) (nz : fk z ≠ 0) (ex : fk x = P.x * fk z) (ey : fk y = P.y * fk z) (et : fk t = P.x * P.y * fk z) : PRep [x, y, z, t].flatten P := by
  have lx := fx.1
  have ly := fy.1
  have lz := fz.1
  have lt := ft.1
  have e : [x, y, z, t].flatten = x ++ (y ++ (z ++ t)) := by simp
  have e0 : ((x ++ (y ++ (z ++ t))).drop 0).take 5 = x := by
    rw [List.drop_zero, List.take_left' lx]
  have e1 : ((x ++ (y ++ (z ++ t))).drop 5).take 5 = y := by
    rw [List.drop_left' lx, List.take_left' ly]
  have e2 : ((x ++ (y ++ (z ++ t))).drop 10).take 5 = z := by
    rw [show (10 : Nat) = 5 + 5 from rfl, ← List.drop_drop, List.drop_left' lx, List.drop_left' ly, List.take_left' lz]
  have e3 : ((x ++ (y ++ (z ++ t))).drop 15).take 5 = t := by
    rw [show (15 : Nat) = 5 + (5 + 5) from rfl, ← List.drop_drop, ← List.drop_drop, List.drop_left' lx, List.drop_left' ly, List.drop_left' lz, List.take_of_length_le (by omega)]
  rw [e]
  exact ⟨by simp only [List.length_append]; omega, by rwa [e0], by rwa [e1], by rwa [e2], by rwa [e3], by rwa [e2], by rwa [e0, e2], by rwa [e1, e2], by rwa [e3, e2]⟩
theorem rows5 {a b c d : List Nat} (ha : a.length = 5) (hb : b.length = 5) (hc : c.length = 5) (hd : d.length = 5) : ∀ r ∈ [a, b, c, d], r.length = 5 := by
  intro r hr
  simp only [List.mem_cons, List.not_mem_nil, or_false] at hr
  rcases hr with rfl | rfl | rfl | rfl <;> assumption

/-- Zero's numbers. -/
def zeroL : List Nat := [0, 0, 0, 0, 0, 1, 0, 0, 0, 0, 1, 0, 0, 0, 0, 0, 0, 0, 0, 0]
theorem PRep_zero : PRep zeroL pzero := by
  have e : zeroL = [List.replicate 5 0, [1, 0, 0, 0, 0], [1, 0, 0, 0, 0], List.replicate 5 0].flatten := rfl
  have h1 := Small_K (n := 1) (by decide)
  have hz : fk (List.replicate 5 0) = 0 := by
    unfold fk
    rw [show fval (List.replicate 5 0) = 0 from val_replicate _ _, kk_zero]
  have h2 : fk [1, 0, 0, 0, 0] = 1 := h1.2.1
  rw [e]
  refine PRep_mk Fe_zero h1.1 h1.1 Fe_zero (by rw [h2]; exact one_ne) ?_ ?_ ?_
  · rw [hz, h2]; show (0 : Fin pN) = 0 * 1; grind
  · rw [h2]; show (1 : Fin pN) = 1 * 1; grind
  · rw [hz, h2]; show (0 : Fin pN) = 0 * 1 * 1; grind
set_option maxHeartbeats 1000000 in
theorem PZero_any (w : World) : Gives 12 #[] w (pt zeroL) := by
  have lz : zeroL.length = 20 := rfl
  have HS := Lib.hid (Small_any (n := 1) (by decide)).2.2
  have hE0 := Env.nil w
  go_enter Try.func12, Try.ntmps12
  repeat ((fail_if_success (with_reducible show wpList _ _ _ (List.cons _ _) _ _)); (fail_if_success (with_reducible show Code.wp _ (Code.region _ _ true) _ _ _)); go_step)
  refine wl_step (st_alloc (zs := ints .u64 (List.replicate 20 0)) hE0 rfl rfl (fun w => by kernel_rfl) ?_)
  intro g0 w1 hb1 hE1
  clear hE0
  simp only [Act.put, List.setIfInBounds_toArray, List.set_cons_zero, List.set_cons_succ]
  repeat ((fail_if_success (with_reducible show wpList _ _ _ (List.cons _ _) _ _)); (fail_if_success (with_reducible show Code.wp _ (Code.region _ _ true) _ _ _)); go_step)
  refine wl_step (st_gives hE1 rfl (run_call rfl Try.call38) (HS.out _) ?_)
  intro w2 hb2 hE2
  clear hE1
  simp only [Act.put, List.setIfInBounds_toArray, List.set_cons_zero, List.set_cons_succ]
  refine wl_step (st_gives hE2 rfl (run_call rfl Try.call38) (HS.out _) ?_)
  intro w3 hb3 hE3
  clear hE2
  simp only [Act.put, List.setIfInBounds_toArray, List.set_cons_zero, List.set_cons_succ]
  refine wl_step (st_val rfl (v_built (k := .u64) (l := zeroL) rfl (fun w => by kernel_rfl)) ?_)
  simp only [Act.put, List.setIfInBounds_toArray, List.set_cons_zero, List.set_cons_succ]
  refine wl_step (st_store (i := 0) hE3 rfl rfl rfl rfl rfl (sz_of (n := 20) (by kernel_rfl) (by first | (simp only [ints_size, digs_length, List.length_replicate, List.length_cons, List.length_nil]; done) | (simp only [ints_size, digs_length, List.length_replicate, List.length_cons, List.length_nil, List.length_set, List.length_append]; omega) | rfl)) (by first | (simp only [ints_size, digs_length, List.length_replicate, List.length_cons, List.length_nil]; done) | (simp only [ints_size, digs_length, List.length_replicate, List.length_cons, List.length_nil, List.length_set, List.length_append]; omega) | rfl) (by first | exact ints_one _ _ | decide | simp [*]) ?_)
  intro w4 hE4
  clear hE3
  simp only [List.set_cons_zero, List.set_cons_succ] at hE4
  simp only [Act.put, List.setIfInBounds_toArray, List.set_cons_zero, List.set_cons_succ]
  repeat ((fail_if_success (with_reducible show wpList _ _ _ (List.cons _ _) _ _)); (fail_if_success (with_reducible show Code.wp _ (Code.region _ _ true) _ _ _)); go_step)
  refine bodyPost_ret (results_cell_row rfl _ _ _ _ _ (0, 0) _ rfl (hE4.get (i := 0) rfl) Try.underlying28 rfl (sz_of (n := 20) (by kernel_rfl) (by first | (simp only [ints_size, digs_length, List.length_replicate, List.length_cons, List.length_nil]; done) | (simp only [ints_size, digs_length, List.length_replicate, List.length_cons, List.length_nil, List.length_set, List.length_append]; omega) | rfl))) rfl ⟨rfl, hE4.below⟩

/-- The curve's number, its bytes. -/
def dB : List Nat := [0xa3, 0x78, 0x59, 0x13, 0xca, 0x4d, 0xeb, 0x75, 0xab, 0xd8, 0x41, 0x41, 0x4d, 0x0a, 0x70, 0x00, 0x98, 0xe8, 0x79, 0x77, 0x79, 0x40, 0xc7, 0x8c, 0x73, 0xfe, 0x6f, 0x2b, 0xee, 0x6c, 0x03, 0x52]
theorem dB_val : val 256 dB = dN := by kernel_rfl
theorem of_fk {V : Nat} (h : V < pN) : fk (digs 2251799813685248 5 V) = kk pN V := by
  unfold fk
  rw [digs_fval, Nat.mod_eq_of_lt (Nat.lt_trans h (by decide))]
set_option maxHeartbeats 1000000 in
theorem once_any : ∃ c, Fe c ∧ fk c = dK ∧ ∀ w, Gives 46 #[] w (elem c) := by
  refine ⟨_, digs_Fe dN, of_fk dN_lt, fun w => ?_⟩
  have hO := Lib.hid (fun w => dB_val ▸ Of_any dB rfl (by unfold Digs dB; decide) w)
  have hdl : (digs 2251799813685248 5 dN).length = 5 := digs_length _ _ _
  have hE0 := Env.nil w
  go_enter Try.func46, Try.ntmps46
  repeat ((fail_if_success (with_reducible show wpList _ _ _ (List.cons _ _) _ _)); (fail_if_success (with_reducible show Code.wp _ (Code.region _ _ true) _ _ _)); go_step)
  refine wl_step (st_alloc (zs := ints .u64 (List.replicate 5 0)) hE0 rfl rfl (fun w => by kernel_rfl) ?_)
  intro g0 w1 hb1 hE1
  clear hE0
  simp only [Act.put, List.setIfInBounds_toArray, List.set_cons_zero, List.set_cons_succ]
  repeat ((fail_if_success (with_reducible show wpList _ _ _ (List.cons _ _) _ _)); (fail_if_success (with_reducible show Code.wp _ (Code.region _ _ true) _ _ _)); go_step)
  refine wl_step (st_val rfl (v_built (k := .u8) (l := dB) rfl (fun w => by kernel_rfl)) ?_)
  simp only [Act.put, List.setIfInBounds_toArray, List.set_cons_zero, List.set_cons_succ]
  refine wl_step (st_gives hE1 rfl (run_call rfl Try.call31) (hO.out _) ?_)
  intro w2 hb2 hE2
  clear hE1
  simp only [Act.put, List.setIfInBounds_toArray, List.set_cons_zero, List.set_cons_succ]
  refine wl_step (st_store (i := 0) hE2 rfl rfl rfl rfl rfl (sz_of (n := 5) (by kernel_rfl) (by first | (simp only [ints_size, digs_length, List.length_replicate, List.length_cons, List.length_nil]; done) | (simp only [ints_size, digs_length, List.length_replicate, List.length_cons, List.length_nil, List.length_set, List.length_append]; omega) | rfl)) (by first | (simp only [ints_size, digs_length, List.length_replicate, List.length_cons, List.length_nil]; done) | (simp only [ints_size, digs_length, List.length_replicate, List.length_cons, List.length_nil, List.length_set, List.length_append]; omega) | rfl) (by first | exact ints_one _ _ | decide | simp [*]) ?_)
  intro w3 hE3
  clear hE2
  simp only [List.set_cons_zero, List.set_cons_succ] at hE3
  simp only [Act.put, List.setIfInBounds_toArray, List.set_cons_zero, List.set_cons_succ]
  repeat ((fail_if_success (with_reducible show wpList _ _ _ (List.cons _ _) _ _)); (fail_if_success (with_reducible show Code.wp _ (Code.region _ _ true) _ _ _)); go_step)
  refine bodyPost_ret (results_cell_row rfl _ _ _ _ _ (0, 0) _ rfl (hE3.get (i := 0) rfl) Try.underlying26 rfl (sz_of (n := 5) (by kernel_rfl) (by first | (simp only [ints_size, digs_length, List.length_replicate, List.length_cons, List.length_nil]; done) | (simp only [ints_size, digs_length, List.length_replicate, List.length_cons, List.length_nil, List.length_set, List.length_append]; omega) | rfl))) rfl ⟨rfl, hE3.below⟩
set_option maxHeartbeats 1000000 in
theorem factor_any : ∃ c, Fe c ∧ fk c = dK + dK ∧ ∀ w, Gives 36 #[] w (elem c) := by
  obtain ⟨d, f1, e1, G1⟩ := once_any
  obtain ⟨c, f2, e2, G2⟩ := Add_K f1 f1
  refine ⟨c, f2, by rw [e2, e1], fun w => ?_⟩
  have l1 := f1.1
  have l2 := f2.1
  have H1 := Lib.hid G1
  have H2 := Lib.hid G2
  clear f1 e1 G1 f2 e2 G2
  have hE0 := Env.nil w
  go_enter Try.func36, Try.ntmps36
  repeat ((fail_if_success (with_reducible show wpList _ _ _ (List.cons _ _) _ _)); (fail_if_success (with_reducible show Code.wp _ (Code.region _ _ true) _ _ _)); go_step)
  refine wl_step (st_alloc (zs := ints .u64 (List.replicate 5 0)) hE0 rfl rfl (fun w => by kernel_rfl) ?_)
  intro g0 w1 hb1 hE1
  clear hE0
  simp only [Act.put, List.setIfInBounds_toArray, List.set_cons_zero, List.set_cons_succ]
  repeat ((fail_if_success (with_reducible show wpList _ _ _ (List.cons _ _) _ _)); (fail_if_success (with_reducible show Code.wp _ (Code.region _ _ true) _ _ _)); go_step)
  refine wl_step (st_gives hE1 rfl (run_call rfl Try.call46) (H1.out _) ?_)
  intro w2 hb2 hE2
  clear hE1
  simp only [Act.put, List.setIfInBounds_toArray, List.set_cons_zero, List.set_cons_succ]
  refine wl_step (st_gives hE2 rfl (run_call rfl Try.call46) (H1.out _) ?_)
  intro w3 hb3 hE3
  clear hE2
  simp only [Act.put, List.setIfInBounds_toArray, List.set_cons_zero, List.set_cons_succ]
  refine wl_step (st_gives hE3 rfl (run_call rfl Try.call35) (H2.out _) ?_)
  intro w4 hb4 hE4
  clear hE3
  simp only [Act.put, List.setIfInBounds_toArray, List.set_cons_zero, List.set_cons_succ]
  refine wl_step (st_store (i := 0) hE4 rfl rfl rfl rfl rfl (sz_of (n := 5) (by kernel_rfl) (by first | (simp only [ints_size, digs_length, List.length_replicate, List.length_cons, List.length_nil]; done) | (simp only [ints_size, digs_length, List.length_replicate, List.length_cons, List.length_nil, List.length_set, List.length_append]; omega) | rfl)) (by first | (simp only [ints_size, digs_length, List.length_replicate, List.length_cons, List.length_nil]; done) | (simp only [ints_size, digs_length, List.length_replicate, List.length_cons, List.length_nil, List.length_set, List.length_append]; omega) | rfl) (by first | exact ints_one _ _ | decide | simp [*]) ?_)
  intro w5 hE5
  clear hE4
  simp only [List.set_cons_zero, List.set_cons_succ] at hE5
  simp only [Act.put, List.setIfInBounds_toArray, List.set_cons_zero, List.set_cons_succ]
  repeat ((fail_if_success (with_reducible show wpList _ _ _ (List.cons _ _) _ _)); (fail_if_success (with_reducible show Code.wp _ (Code.region _ _ true) _ _ _)); go_step)
  refine bodyPost_ret (results_cell_row rfl _ _ _ _ _ (0, 0) _ rfl (hE5.get (i := 0) rfl) Try.underlying26 rfl (sz_of (n := 5) (by kernel_rfl) (by first | (simp only [ints_size, digs_length, List.length_replicate, List.length_cons, List.length_nil]; done) | (simp only [ints_size, digs_length, List.length_replicate, List.length_cons, List.length_nil, List.length_set, List.length_append]; omega) | rfl))) rfl ⟨rfl, hE5.below⟩

set_option maxHeartbeats 2000000 in
theorem PNeg_any {l : List Nat} {P : Pt} (h : PRep l P) : ∃ c, PRep c (pneg P) ∧ ∀ w, Gives 13 #[pt l] w (pt c) := by
  obtain ⟨len, fx, fy, fz, ft, nz, ex, ey, et⟩ := h
  obtain ⟨x, hx⟩ : ∃ x, (l.drop 0).take 5 = x := ⟨_, rfl⟩
  obtain ⟨y, hy⟩ : ∃ y, (l.drop 5).take 5 = y := ⟨_, rfl⟩
  obtain ⟨z, hz⟩ : ∃ z, (l.drop 10).take 5 = z := ⟨_, rfl⟩
  obtain ⟨t, ht⟩ : ∃ t, (l.drop 15).take 5 = t := ⟨_, rfl⟩
  rw [hx] at fx ex
  rw [hy] at fy ey
  rw [hz] at fz nz ex ey et
  rw [ht] at ft et
  obtain ⟨x', fx', ex', Gx⟩ := Neg_K fx
  obtain ⟨t', ft', et', Gt⟩ := Neg_K ft
  have hR : PRep [x', y, z, t'].flatten (pneg P) := PRep_mk fx' fy fz ft' nz (by
    show fk x' = - P.x * fk z
    rw [ex', ex]; grobner) ey (by
    show fk t' = - P.x * P.y * fk z
    rw [et', et]; grobner)
  have hr5 := rows5 fx'.1 fy.1 fz.1 ft'.1
  obtain ⟨L, hL⟩ : ∃ L, [x', y, z, t'].flatten = L := ⟨_, rfl⟩
  rw [hL] at hR
  refine ⟨L, hR, fun w => ?_⟩
  have lL := hR.len
  have lx := fx.1
  have ly := fy.1
  have lz := fz.1
  have lt := ft.1
  have HX := Lib.hid hx
  have HY := Lib.hid hy
  have HZ := Lib.hid hz
  have HT := Lib.hid ht
  have HL := Lib.hid hL
  have H5 := Lib.hid hr5
  have H1 := Lib.hid Gx
  have H2 := Lib.hid Gt
  clear hx hy hz ht hL hr5 Gx Gt hR ex ey et ex' et' fx fy fz ft fx' ft' nz
  have hE0 := Env.nil w
  go_enter Try.func13, Try.ntmps13
  repeat ((fail_if_success (with_reducible show wpList _ _ _ (List.cons _ _) _ _)); (fail_if_success (with_reducible show Code.wp _ (Code.region _ _ true) _ _ _)); go_step)
  refine wl_step (st_boxA hE0 rfl rfl rfl ?_)
  intro g0 w1 hb1 hE1
  clear hE0
  simp only [Act.put, List.setIfInBounds_toArray, List.set_cons_zero, List.set_cons_succ]
  refine wl_step (st_alloc (zs := ints .u64 (List.replicate 20 0)) hE1 rfl rfl (fun w => by kernel_rfl) ?_)
  intro g1 w2 hb2 hE2
  clear hE1
  simp only [Act.put, List.setIfInBounds_toArray, List.set_cons_zero, List.set_cons_succ]
  repeat ((fail_if_success (with_reducible show wpList _ _ _ (List.cons _ _) _ _)); (fail_if_success (with_reducible show Code.wp _ (Code.region _ _ true) _ _ _)); go_step)
  refine wp_region_B (n := 12) 11 (by kernel_rfl) rfl hE2 ?_
  intro w3 hb3 hE3
  clear hE2
  refine wpB_take (i := 0) (by kernel_rfl) rfl (by kernel_rfl) (fun _ _ _ h => h) rfl (v_field0 (s := 4) rfl rfl Try.underlying28 rfl (by kernel_rfl) rfl) ?_
  simp only [Act.put, List.setIfInBounds_toArray, List.set_cons_zero, List.set_cons_succ]
  refine wpB_take (i := 1) (by kernel_rfl) rfl (by kernel_rfl) (fun _ _ _ h => h) rfl (v_loadPartE (i := 1) (n := 5) HX.out hE3 rfl rfl rfl Try.underlying26 rfl (by kernel_rfl) (by omega)) ?_
  simp only [Act.put, List.setIfInBounds_toArray, List.set_cons_zero, List.set_cons_succ]
  refine wpB_take (i := 3) (by kernel_rfl) rfl (by kernel_rfl) (fun _ _ _ h => h) rfl (v_fieldB (s := 4) rfl rfl Try.underlying28 rfl (by kernel_rfl) rfl) ?_
  simp only [Act.put, List.setIfInBounds_toArray, List.set_cons_zero, List.set_cons_succ]
  refine wpB_take (i := 4) (by kernel_rfl) rfl (by kernel_rfl) (fun _ _ _ h => h) rfl (v_loadPartE (i := 1) (n := 5) HY.out hE3 rfl rfl rfl Try.underlying26 rfl (by kernel_rfl) (by omega)) ?_
  simp only [Act.put, List.setIfInBounds_toArray, List.set_cons_zero, List.set_cons_succ]
  refine wpB_take (i := 5) (by kernel_rfl) rfl (by kernel_rfl) (fun _ _ _ h => h) rfl (v_fieldB (s := 4) rfl rfl Try.underlying28 rfl (by kernel_rfl) rfl) ?_
  simp only [Act.put, List.setIfInBounds_toArray, List.set_cons_zero, List.set_cons_succ]
  refine wpB_take (i := 6) (by kernel_rfl) rfl (by kernel_rfl) (fun _ _ _ h => h) rfl (v_loadPartE (i := 1) (n := 5) HZ.out hE3 rfl rfl rfl Try.underlying26 rfl (by kernel_rfl) (by omega)) ?_
  simp only [Act.put, List.setIfInBounds_toArray, List.set_cons_zero, List.set_cons_succ]
  refine wpB_take (i := 7) (by kernel_rfl) rfl (by kernel_rfl) (fun _ _ _ h => h) rfl (v_fieldB (s := 4) rfl rfl Try.underlying28 rfl (by kernel_rfl) rfl) ?_
  simp only [Act.put, List.setIfInBounds_toArray, List.set_cons_zero, List.set_cons_succ]
  refine wpB_take (i := 8) (by kernel_rfl) rfl (by kernel_rfl) (fun _ _ _ h => h) rfl (v_loadPartE (i := 1) (n := 5) HT.out hE3 rfl rfl rfl Try.underlying26 rfl (by kernel_rfl) (by omega)) ?_
  simp only [Act.put, List.setIfInBounds_toArray, List.set_cons_zero, List.set_cons_succ]
  refine wpB_step (i := 2) (by kernel_rfl) rfl (st_gives hE3 rfl (run_call rfl Try.call39) (H1.out _) ?_)
  intro w4 hb4 hE4
  clear hE3
  refine ⟨fun _ => hb4, ?_⟩
  simp only [Act.put, List.setIfInBounds_toArray, List.set_cons_zero, List.set_cons_succ]
  refine wpB_step (i := 9) (by kernel_rfl) rfl (st_gives hE4 rfl (run_call rfl Try.call39) (H2.out _) ?_)
  intro w5 hb5 hE5
  clear hE4
  refine ⟨fun _ => hb5, ?_⟩
  simp only [Act.put, List.setIfInBounds_toArray, List.set_cons_zero, List.set_cons_succ]
  refine wpB_take (i := 10) (by kernel_rfl) rfl (by kernel_rfl) (fun _ _ _ h => h) rfl (v_point [x', y, z, t'] HL.out rfl (by simp only [List.map_cons, List.map_nil, List.zipIdx_cons, List.zipIdx_nil]; rfl) rfl H5.out) ?_
  simp only [Act.put, List.setIfInBounds_toArray, List.set_cons_zero, List.set_cons_succ]
  refine wpB_step (i := 11) (by kernel_rfl) rfl (st_store (i := 0) hE5 rfl rfl rfl rfl rfl (sz_of (n := 20) (by kernel_rfl) (by first | (simp only [ints_size, digs_length, List.length_replicate, List.length_cons, List.length_nil]; done) | (simp only [ints_size, digs_length, List.length_replicate, List.length_cons, List.length_nil, List.length_set, List.length_append]; omega) | rfl)) (by first | (simp only [ints_size, digs_length, List.length_replicate, List.length_cons, List.length_nil]; done) | (simp only [ints_size, digs_length, List.length_replicate, List.length_cons, List.length_nil, List.length_set, List.length_append]; omega) | rfl) (by first | exact ints_one _ _ | decide | simp [*]) ?_)
  intro w6 hE6
  clear hE5
  simp only [List.set_cons_zero, List.set_cons_succ] at hE6
  refine ⟨fun h => absurd h (by decide), ?_⟩
  simp only [Act.put, List.setIfInBounds_toArray, List.set_cons_zero, List.set_cons_succ]
  refine wpB_done (by kernel_rfl) ?_ _
  repeat ((fail_if_success (with_reducible show wpList _ _ _ (List.cons _ _) _ _)); (fail_if_success (with_reducible show Code.wp _ (Code.region _ _ true) _ _ _)); go_step)
  refine bodyPost_ret (results_cell_row rfl _ _ _ _ _ (0, 0) _ rfl (hE6.get (i := 0) rfl) Try.underlying28 rfl (sz_of (n := 20) (by kernel_rfl) (by first | (simp only [ints_size, digs_length, List.length_replicate, List.length_cons, List.length_nil]; done) | (simp only [ints_size, digs_length, List.length_replicate, List.length_cons, List.length_nil, List.length_set, List.length_append]; omega) | rfl))) rfl ⟨rfl, hE6.below⟩
end Go.Proofs.Ytmebjoehmheknaa
