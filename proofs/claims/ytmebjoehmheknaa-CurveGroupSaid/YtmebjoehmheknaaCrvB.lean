/-
  Layer 6: points: the sum, twice a point.
-/
import Derived.Test.YtmebjoehmheknaaCrvA
namespace Go.Proofs.Ytmebjoehmheknaa
open Go.RowKit
set_option linter.unusedVariables false
set_option linter.unusedSimpArgs false

set_option maxRecDepth 100000 in
set_option maxHeartbeats 8000000 in
theorem PAdd_any {l m : List Nat} {P Q : Pt} (h : PRep l P) (h' : PRep m Q) : ∃ c, PRep c (padd P Q) ∧ ∀ w, Gives 10 #[pt l, pt m] w (pt c) := by
  obtain ⟨len, fx, fy, fz, ft, nz, ex, ey, et⟩ := h
  obtain ⟨len', fx', fy', fz', ft', nz', ex', ey', et'⟩ := h'
  obtain ⟨x, hx⟩ : ∃ x, (l.drop 0).take 5 = x := ⟨_, rfl⟩
  obtain ⟨y, hy⟩ : ∃ y, (l.drop 5).take 5 = y := ⟨_, rfl⟩
  obtain ⟨z, hz⟩ : ∃ z, (l.drop 10).take 5 = z := ⟨_, rfl⟩
  obtain ⟨t, ht⟩ : ∃ t, (l.drop 15).take 5 = t := ⟨_, rfl⟩
  obtain ⟨x', hx'⟩ : ∃ x, (m.drop 0).take 5 = x := ⟨_, rfl⟩
  obtain ⟨y', hy'⟩ : ∃ y, (m.drop 5).take 5 = y := ⟨_, rfl⟩
  obtain ⟨z', hz'⟩ : ∃ z, (m.drop 10).take 5 = z := ⟨_, rfl⟩
  obtain ⟨t', ht'⟩ : ∃ t, (m.drop 15).take 5 = t := ⟨_, rfl⟩
  rw [hx] at fx ex
  rw [hy] at fy ey
  rw [hz] at fz nz ex ey et
  rw [ht] at ft et
  rw [hx'] at fx' ex'
  rw [hy'] at fy' ey'
  rw [hz'] at fz' nz' ex' ey' et'
  rw [ht'] at ft' et'
  obtain ⟨a1, fa1, ea1, Ga1⟩ := Sub_K fy fx
  obtain ⟨a2, fa2, ea2, Ga2⟩ := Sub_K fy' fx'
  obtain ⟨a, fa, ea, Ga⟩ := Mul_K fa1 fa2
  obtain ⟨b1, fb1, eb1, Gb1⟩ := Add_K fy fx
  obtain ⟨b2, fb2, eb2, Gb2⟩ := Add_K fy' fx'
  obtain ⟨b, fb, eb, Gb⟩ := Mul_K fb1 fb2
  obtain ⟨k, fk', ek, Gk⟩ := factor_any
  obtain ⟨c1, fc1, ec1, Gc1⟩ := Mul_K ft fk'
  obtain ⟨c, fc, ec, Gc⟩ := Mul_K fc1 ft'
  obtain ⟨d1, fd1, ed1, Gd1⟩ := Add_K fz fz
  obtain ⟨d, fd, ed, Gd⟩ := Mul_K fd1 fz'
  obtain ⟨e, fe, ee, Ge⟩ := Sub_K fb fa
  obtain ⟨f, ff, ef, Gf⟩ := Sub_K fd fc
  obtain ⟨g, fg, eg, Gg⟩ := Add_K fd fc
  obtain ⟨hh, fh, eh, Gh⟩ := Add_K fb fa
  obtain ⟨X, fX, eX, GX⟩ := Mul_K fe ff
  obtain ⟨Y, fY, eY, GY⟩ := Mul_K fg fh
  obtain ⟨Z, fZ, eZ, GZ⟩ := Mul_K ff fg
  obtain ⟨T, fT, eT, GT⟩ := Mul_K fe fh
  have hR : PRep [X, Y, Z, T].flatten (padd P Q) := by
    rw [ea1, ea2, ex, ey, ex', ey'] at ea
    rw [eb1, eb2, ex, ey, ex', ey'] at eb
    rw [ec1, ek, et, et'] at ec
    rw [ed1] at ed
    obtain ⟨k1, k2⟩ := xadd_fg ec ed ef eg
    have hf0 : fk f ≠ 0 := by rw [k1]; exact K_mul_ne (z2_ne nz nz') (den_sub P Q)
    have hg0 : fk g ≠ 0 := by rw [k2]; exact K_mul_ne (z2_ne nz nz') (den_add P Q)
    have hX : fk X = (padd P Q).x * fk Z := by rw [eX, eZ]; exact xadd_x (padd_x P Q) ea eb ec ed ee ef eg eh
    have hY : fk Y = (padd P Q).y * fk Z := by rw [eY, eZ]; exact xadd_y (padd_y P Q) ea eb ec ed ee ef eg eh
    have hZ0 : fk Z ≠ 0 := by rw [eZ]; exact K_mul_ne hf0 hg0
    refine PRep_mk fX fY fZ fT hZ0 hX hY ?_
    refine K_cancel hZ0 ?_
    have h1 : fk T * fk Z = fk X * fk Y := by
      rw [eT, eZ, eX, eY]
      generalize fk e = E
      generalize fk f = F
      generalize fk g = G
      generalize fk hh = H
      clear ea eb ec ed ee ef eg eh
      grobner
    rw [h1, hX, hY]
    generalize (padd P Q).x = x3
    generalize (padd P Q).y = y3
    generalize fk Z = z3
    clear ea eb ec ed ee ef eg eh
    grobner
  have hr5 := rows5 fX.1 fY.1 fZ.1 fT.1
  obtain ⟨L, hL⟩ : ∃ L, [X, Y, Z, T].flatten = L := ⟨_, rfl⟩
  rw [hL] at hR
  refine ⟨L, hR, fun w => ?_⟩
  have lL := hR.len
  have lx := fx.1
  have Hx := Lib.hid hx
  clear hx fx
  have ly := fy.1
  have Hy := Lib.hid hy
  clear hy fy
  have lz := fz.1
  have Hz := Lib.hid hz
  clear hz fz
  have lt := ft.1
  have Ht := Lib.hid ht
  clear ht ft
  have lx' := fx'.1
  have Hx' := Lib.hid hx'
  clear hx' fx'
  have ly' := fy'.1
  have Hy' := Lib.hid hy'
  clear hy' fy'
  have lz' := fz'.1
  have Hz' := Lib.hid hz'
  clear hz' fz'
  have lt' := ft'.1
  have Ht' := Lib.hid ht'
  clear ht' ft'
  clear ex ey et ex' ey' et'
  have lk := fk'.1
  have HGk := Lib.hid Gk
  have la1 := fa1.1
  have HGa1 := Lib.hid Ga1
  clear Ga1 fa1 ea1
  have la2 := fa2.1
  have HGa2 := Lib.hid Ga2
  clear Ga2 fa2 ea2
  have la := fa.1
  have HGa := Lib.hid Ga
  clear Ga fa ea
  have lb1 := fb1.1
  have HGb1 := Lib.hid Gb1
  clear Gb1 fb1 eb1
  have lb2 := fb2.1
  have HGb2 := Lib.hid Gb2
  clear Gb2 fb2 eb2
  have lb := fb.1
  have HGb := Lib.hid Gb
  clear Gb fb eb
  have lc1 := fc1.1
  have HGc1 := Lib.hid Gc1
  clear Gc1 fc1 ec1
  have lc := fc.1
  have HGc := Lib.hid Gc
  clear Gc fc ec
  have ld1 := fd1.1
  have HGd1 := Lib.hid Gd1
  clear Gd1 fd1 ed1
  have ld := fd.1
  have HGd := Lib.hid Gd
  clear Gd fd ed
  have le := fe.1
  have HGe := Lib.hid Ge
  clear Ge fe ee
  have lf := ff.1
  have HGf := Lib.hid Gf
  clear Gf ff ef
  have lg := fg.1
  have HGg := Lib.hid Gg
  clear Gg fg eg
  have lh := fh.1
  have HGh := Lib.hid Gh
  clear Gh fh eh
  have lX := fX.1
  have HGX := Lib.hid GX
  clear GX fX eX
  have lY := fY.1
  have HGY := Lib.hid GY
  clear GY fY eY
  have lZ := fZ.1
  have HGZ := Lib.hid GZ
  clear GZ fZ eZ
  have lT := fT.1
  have HGT := Lib.hid GT
  clear GT fT eT
  have HL := Lib.hid hL
  have H5 := Lib.hid hr5
  clear hL hr5 hR nz nz' Gk fk' ek
  have hE0 := Env.nil w
  go_enter Try.func10, Try.ntmps10
  repeat ((fail_if_success (with_reducible show wpList _ _ _ (List.cons _ _) _ _)); (fail_if_success (with_reducible show Code.wp _ (Code.region _ _ true) _ _ _)); go_step)
  refine wl_step (st_boxA hE0 rfl rfl rfl ?_)
  intro g0 w1 hb1 hE1
  clear hE0
  simp only [Act.put, List.setIfInBounds_toArray, List.set_cons_zero, List.set_cons_succ]
  refine wl_step (st_boxA hE1 rfl rfl rfl ?_)
  intro g1 w2 hb2 hE2
  clear hE1
  simp only [Act.put, List.setIfInBounds_toArray, List.set_cons_zero, List.set_cons_succ]
  refine wl_step (st_alloc (zs := ints .u64 (List.replicate 20 0)) hE2 rfl rfl (fun w => by kernel_rfl) ?_)
  intro g2 w3 hb3 hE3
  clear hE2
  simp only [Act.put, List.setIfInBounds_toArray, List.set_cons_zero, List.set_cons_succ]
  repeat ((fail_if_success (with_reducible show wpList _ _ _ (List.cons _ _) _ _)); (fail_if_success (with_reducible show Code.wp _ (Code.region _ _ true) _ _ _)); go_step)
  refine wp_region_env 12 (by kernel_rfl) (by kernel_rfl) (fun _ _ d _ _ h => by cases d <;> exact h) hE3 ?_
  refine headRun_val (fun w9 hW => (v_fieldB (s := 4) rfl rfl Try.underlying28 rfl (by kernel_rfl) rfl) w9 (Below.refl _ _)) ?_
  simp only [Act.put, List.setIfInBounds_toArray, List.set_cons_zero, List.set_cons_succ]
  refine headRun_val (fun w9 hW => (v_loadPartE (i := 2) (n := 5) Hy.out hW rfl rfl rfl Try.underlying26 rfl (by kernel_rfl) (by omega)) w9 (Below.refl _ _)) ?_
  simp only [Act.put, List.setIfInBounds_toArray, List.set_cons_zero, List.set_cons_succ]
  refine headRun_val (fun w9 hW => (v_field0 (s := 4) rfl rfl Try.underlying28 rfl (by kernel_rfl) rfl) w9 (Below.refl _ _)) ?_
  simp only [Act.put, List.setIfInBounds_toArray, List.set_cons_zero, List.set_cons_succ]
  refine headRun_val (fun w9 hW => (v_loadPartE (i := 2) (n := 5) Hx.out hW rfl rfl rfl Try.underlying26 rfl (by kernel_rfl) (by omega)) w9 (Below.refl _ _)) ?_
  simp only [Act.put, List.setIfInBounds_toArray, List.set_cons_zero, List.set_cons_succ]
  refine headRun_call (fun w1 => run_call rfl Try.call33) (fun w1 hW => HGa1.out _) ?_
  simp only [Act.put, List.setIfInBounds_toArray, List.set_cons_zero, List.set_cons_succ]
  refine headRun_val (fun w9 hW => (v_fieldB (s := 4) rfl rfl Try.underlying28 rfl (by kernel_rfl) rfl) w9 (Below.refl _ _)) ?_
  simp only [Act.put, List.setIfInBounds_toArray, List.set_cons_zero, List.set_cons_succ]
  refine headRun_val (fun w9 hW => (v_loadPartE (i := 1) (n := 5) Hy'.out hW rfl rfl rfl Try.underlying26 rfl (by kernel_rfl) (by omega)) w9 (Below.refl _ _)) ?_
  simp only [Act.put, List.setIfInBounds_toArray, List.set_cons_zero, List.set_cons_succ]
  refine headRun_val (fun w9 hW => (v_field0 (s := 4) rfl rfl Try.underlying28 rfl (by kernel_rfl) rfl) w9 (Below.refl _ _)) ?_
  simp only [Act.put, List.setIfInBounds_toArray, List.set_cons_zero, List.set_cons_succ]
  refine headRun_val (fun w9 hW => (v_loadPartE (i := 1) (n := 5) Hx'.out hW rfl rfl rfl Try.underlying26 rfl (by kernel_rfl) (by omega)) w9 (Below.refl _ _)) ?_
  simp only [Act.put, List.setIfInBounds_toArray, List.set_cons_zero, List.set_cons_succ]
  refine headRun_call (fun w1 => run_call rfl Try.call33) (fun w1 hW => HGa2.out _) ?_
  simp only [Act.put, List.setIfInBounds_toArray, List.set_cons_zero, List.set_cons_succ]
  refine headRun_call (fun w1 => run_call rfl Try.call34) (fun w1 hW => HGa.out _) ?_
  simp only [Act.put, List.setIfInBounds_toArray, List.set_cons_zero, List.set_cons_succ]
  refine headRun_alloc (zs := ints .u64 (List.replicate 5 0)) rfl rfl (fun w => by kernel_rfl) ?_
  simp only [Act.put, List.setIfInBounds_toArray, List.set_cons_zero, List.set_cons_succ]
  refine headRun_nil (endK1 ?_)
  intro g3 w4 hE4
  clear hE3
  simp only [List.drop_succ_cons, List.drop_zero, Act.put, List.setIfInBounds_toArray, List.set_cons_zero, List.set_cons_succ]
  refine wl_step (st_store (i := 0) hE4 rfl rfl rfl rfl rfl (sz_of (n := 5) (by kernel_rfl) (by first | (simp only [ints_size, digs_length, List.length_replicate, List.length_cons, List.length_nil]; done) | (simp only [ints_size, digs_length, List.length_replicate, List.length_cons, List.length_nil, List.length_set, List.length_append]; omega) | rfl)) (by first | (simp only [ints_size, digs_length, List.length_replicate, List.length_cons, List.length_nil]; done) | (simp only [ints_size, digs_length, List.length_replicate, List.length_cons, List.length_nil, List.length_set, List.length_append]; omega) | rfl) (by first | exact ints_one _ _ | decide | simp [*]) ?_)
  intro w5 hE5
  clear hE4
  simp only [List.set_cons_zero, List.set_cons_succ] at hE5
  simp only [Act.put, List.setIfInBounds_toArray, List.set_cons_zero, List.set_cons_succ]
  repeat ((fail_if_success (with_reducible show wpList _ _ _ (List.cons _ _) _ _)); (fail_if_success (with_reducible show Code.wp _ (Code.region _ _ true) _ _ _)); go_step)
  refine wp_region_env 12 (by kernel_rfl) (by kernel_rfl) (fun _ _ d _ _ h => by cases d <;> exact h) hE5 ?_
  refine headRun_val (fun w9 hW => (v_fieldB (s := 4) rfl rfl Try.underlying28 rfl (by kernel_rfl) rfl) w9 (Below.refl _ _)) ?_
  simp only [Act.put, List.setIfInBounds_toArray, List.set_cons_zero, List.set_cons_succ]
  refine headRun_val (fun w9 hW => (v_loadPartE (i := 3) (n := 5) Hy.out hW rfl rfl rfl Try.underlying26 rfl (by kernel_rfl) (by omega)) w9 (Below.refl _ _)) ?_
  simp only [Act.put, List.setIfInBounds_toArray, List.set_cons_zero, List.set_cons_succ]
  refine headRun_val (fun w9 hW => (v_field0 (s := 4) rfl rfl Try.underlying28 rfl (by kernel_rfl) rfl) w9 (Below.refl _ _)) ?_
  simp only [Act.put, List.setIfInBounds_toArray, List.set_cons_zero, List.set_cons_succ]
  refine headRun_val (fun w9 hW => (v_loadPartE (i := 3) (n := 5) Hx.out hW rfl rfl rfl Try.underlying26 rfl (by kernel_rfl) (by omega)) w9 (Below.refl _ _)) ?_
  simp only [Act.put, List.setIfInBounds_toArray, List.set_cons_zero, List.set_cons_succ]
  refine headRun_call (fun w1 => run_call rfl Try.call35) (fun w1 hW => HGb1.out _) ?_
  simp only [Act.put, List.setIfInBounds_toArray, List.set_cons_zero, List.set_cons_succ]
  refine headRun_val (fun w9 hW => (v_fieldB (s := 4) rfl rfl Try.underlying28 rfl (by kernel_rfl) rfl) w9 (Below.refl _ _)) ?_
  simp only [Act.put, List.setIfInBounds_toArray, List.set_cons_zero, List.set_cons_succ]
  refine headRun_val (fun w9 hW => (v_loadPartE (i := 2) (n := 5) Hy'.out hW rfl rfl rfl Try.underlying26 rfl (by kernel_rfl) (by omega)) w9 (Below.refl _ _)) ?_
  simp only [Act.put, List.setIfInBounds_toArray, List.set_cons_zero, List.set_cons_succ]
  refine headRun_val (fun w9 hW => (v_field0 (s := 4) rfl rfl Try.underlying28 rfl (by kernel_rfl) rfl) w9 (Below.refl _ _)) ?_
  simp only [Act.put, List.setIfInBounds_toArray, List.set_cons_zero, List.set_cons_succ]
  refine headRun_val (fun w9 hW => (v_loadPartE (i := 2) (n := 5) Hx'.out hW rfl rfl rfl Try.underlying26 rfl (by kernel_rfl) (by omega)) w9 (Below.refl _ _)) ?_
  simp only [Act.put, List.setIfInBounds_toArray, List.set_cons_zero, List.set_cons_succ]
  refine headRun_call (fun w1 => run_call rfl Try.call35) (fun w1 hW => HGb2.out _) ?_
  simp only [Act.put, List.setIfInBounds_toArray, List.set_cons_zero, List.set_cons_succ]
  refine headRun_call (fun w1 => run_call rfl Try.call34) (fun w1 hW => HGb.out _) ?_
  simp only [Act.put, List.setIfInBounds_toArray, List.set_cons_zero, List.set_cons_succ]
  refine headRun_alloc (zs := ints .u64 (List.replicate 5 0)) rfl rfl (fun w => by kernel_rfl) ?_
  simp only [Act.put, List.setIfInBounds_toArray, List.set_cons_zero, List.set_cons_succ]
  refine headRun_nil (endK1 ?_)
  intro g4 w6 hE6
  clear hE5
  simp only [List.drop_succ_cons, List.drop_zero, Act.put, List.setIfInBounds_toArray, List.set_cons_zero, List.set_cons_succ]
  refine wl_step (st_store (i := 0) hE6 rfl rfl rfl rfl rfl (sz_of (n := 5) (by kernel_rfl) (by first | (simp only [ints_size, digs_length, List.length_replicate, List.length_cons, List.length_nil]; done) | (simp only [ints_size, digs_length, List.length_replicate, List.length_cons, List.length_nil, List.length_set, List.length_append]; omega) | rfl)) (by first | (simp only [ints_size, digs_length, List.length_replicate, List.length_cons, List.length_nil]; done) | (simp only [ints_size, digs_length, List.length_replicate, List.length_cons, List.length_nil, List.length_set, List.length_append]; omega) | rfl) (by first | exact ints_one _ _ | decide | simp [*]) ?_)
  intro w7 hE7
  clear hE6
  simp only [List.set_cons_zero, List.set_cons_succ] at hE7
  simp only [Act.put, List.setIfInBounds_toArray, List.set_cons_zero, List.set_cons_succ]
  repeat ((fail_if_success (with_reducible show wpList _ _ _ (List.cons _ _) _ _)); (fail_if_success (with_reducible show Code.wp _ (Code.region _ _ true) _ _ _)); go_step)
  refine wp_region_env 8 (by kernel_rfl) (by kernel_rfl) (fun _ _ d _ _ h => by cases d <;> exact h) hE7 ?_
  refine headRun_val (fun w9 hW => (v_fieldB (s := 4) rfl rfl Try.underlying28 rfl (by kernel_rfl) rfl) w9 (Below.refl _ _)) ?_
  simp only [Act.put, List.setIfInBounds_toArray, List.set_cons_zero, List.set_cons_succ]
  refine headRun_val (fun w9 hW => (v_loadPartE (i := 4) (n := 5) Ht.out hW rfl rfl rfl Try.underlying26 rfl (by kernel_rfl) (by omega)) w9 (Below.refl _ _)) ?_
  simp only [Act.put, List.setIfInBounds_toArray, List.set_cons_zero, List.set_cons_succ]
  refine headRun_call (fun w1 => run_call rfl Try.call36) (fun w1 hW => HGk.out _) ?_
  simp only [Act.put, List.setIfInBounds_toArray, List.set_cons_zero, List.set_cons_succ]
  refine headRun_call (fun w1 => run_call rfl Try.call34) (fun w1 hW => HGc1.out _) ?_
  simp only [Act.put, List.setIfInBounds_toArray, List.set_cons_zero, List.set_cons_succ]
  refine headRun_val (fun w9 hW => (v_fieldB (s := 4) rfl rfl Try.underlying28 rfl (by kernel_rfl) rfl) w9 (Below.refl _ _)) ?_
  simp only [Act.put, List.setIfInBounds_toArray, List.set_cons_zero, List.set_cons_succ]
  refine headRun_val (fun w9 hW => (v_loadPartE (i := 3) (n := 5) Ht'.out hW rfl rfl rfl Try.underlying26 rfl (by kernel_rfl) (by omega)) w9 (Below.refl _ _)) ?_
  simp only [Act.put, List.setIfInBounds_toArray, List.set_cons_zero, List.set_cons_succ]
  refine headRun_call (fun w1 => run_call rfl Try.call34) (fun w1 hW => HGc.out _) ?_
  simp only [Act.put, List.setIfInBounds_toArray, List.set_cons_zero, List.set_cons_succ]
  refine headRun_alloc (zs := ints .u64 (List.replicate 5 0)) rfl rfl (fun w => by kernel_rfl) ?_
  simp only [Act.put, List.setIfInBounds_toArray, List.set_cons_zero, List.set_cons_succ]
  refine headRun_nil (endK1 ?_)
  intro g5 w8 hE8
  clear hE7
  simp only [List.drop_succ_cons, List.drop_zero, Act.put, List.setIfInBounds_toArray, List.set_cons_zero, List.set_cons_succ]
  refine wl_step (st_store (i := 0) hE8 rfl rfl rfl rfl rfl (sz_of (n := 5) (by kernel_rfl) (by first | (simp only [ints_size, digs_length, List.length_replicate, List.length_cons, List.length_nil]; done) | (simp only [ints_size, digs_length, List.length_replicate, List.length_cons, List.length_nil, List.length_set, List.length_append]; omega) | rfl)) (by first | (simp only [ints_size, digs_length, List.length_replicate, List.length_cons, List.length_nil]; done) | (simp only [ints_size, digs_length, List.length_replicate, List.length_cons, List.length_nil, List.length_set, List.length_append]; omega) | rfl) (by first | exact ints_one _ _ | decide | simp [*]) ?_)
  intro w9 hE9
  clear hE8
  simp only [List.set_cons_zero, List.set_cons_succ] at hE9
  simp only [Act.put, List.setIfInBounds_toArray, List.set_cons_zero, List.set_cons_succ]
  repeat ((fail_if_success (with_reducible show wpList _ _ _ (List.cons _ _) _ _)); (fail_if_success (with_reducible show Code.wp _ (Code.region _ _ true) _ _ _)); go_step)
  refine wp_region_env 9 (by kernel_rfl) (by kernel_rfl) (fun _ _ d _ _ h => by cases d <;> exact h) hE9 ?_
  refine headRun_val (fun w9 hW => (v_fieldB (s := 4) rfl rfl Try.underlying28 rfl (by kernel_rfl) rfl) w9 (Below.refl _ _)) ?_
  simp only [Act.put, List.setIfInBounds_toArray, List.set_cons_zero, List.set_cons_succ]
  refine headRun_val (fun w9 hW => (v_loadPartE (i := 5) (n := 5) Hz.out hW rfl rfl rfl Try.underlying26 rfl (by kernel_rfl) (by omega)) w9 (Below.refl _ _)) ?_
  simp only [Act.put, List.setIfInBounds_toArray, List.set_cons_zero, List.set_cons_succ]
  refine headRun_val (fun w9 hW => (v_fieldB (s := 4) rfl rfl Try.underlying28 rfl (by kernel_rfl) rfl) w9 (Below.refl _ _)) ?_
  simp only [Act.put, List.setIfInBounds_toArray, List.set_cons_zero, List.set_cons_succ]
  refine headRun_val (fun w9 hW => (v_loadPartE (i := 5) (n := 5) Hz.out hW rfl rfl rfl Try.underlying26 rfl (by kernel_rfl) (by omega)) w9 (Below.refl _ _)) ?_
  simp only [Act.put, List.setIfInBounds_toArray, List.set_cons_zero, List.set_cons_succ]
  refine headRun_call (fun w1 => run_call rfl Try.call35) (fun w1 hW => HGd1.out _) ?_
  simp only [Act.put, List.setIfInBounds_toArray, List.set_cons_zero, List.set_cons_succ]
  refine headRun_val (fun w9 hW => (v_fieldB (s := 4) rfl rfl Try.underlying28 rfl (by kernel_rfl) rfl) w9 (Below.refl _ _)) ?_
  simp only [Act.put, List.setIfInBounds_toArray, List.set_cons_zero, List.set_cons_succ]
  refine headRun_val (fun w9 hW => (v_loadPartE (i := 4) (n := 5) Hz'.out hW rfl rfl rfl Try.underlying26 rfl (by kernel_rfl) (by omega)) w9 (Below.refl _ _)) ?_
  simp only [Act.put, List.setIfInBounds_toArray, List.set_cons_zero, List.set_cons_succ]
  refine headRun_call (fun w1 => run_call rfl Try.call34) (fun w1 hW => HGd.out _) ?_
  simp only [Act.put, List.setIfInBounds_toArray, List.set_cons_zero, List.set_cons_succ]
  refine headRun_alloc (zs := ints .u64 (List.replicate 5 0)) rfl rfl (fun w => by kernel_rfl) ?_
  simp only [Act.put, List.setIfInBounds_toArray, List.set_cons_zero, List.set_cons_succ]
  refine headRun_nil (endK1 ?_)
  intro g6 w10 hE10
  clear hE9
  simp only [List.drop_succ_cons, List.drop_zero, Act.put, List.setIfInBounds_toArray, List.set_cons_zero, List.set_cons_succ]
  refine wl_step (st_store (i := 0) hE10 rfl rfl rfl rfl rfl (sz_of (n := 5) (by kernel_rfl) (by first | (simp only [ints_size, digs_length, List.length_replicate, List.length_cons, List.length_nil]; done) | (simp only [ints_size, digs_length, List.length_replicate, List.length_cons, List.length_nil, List.length_set, List.length_append]; omega) | rfl)) (by first | (simp only [ints_size, digs_length, List.length_replicate, List.length_cons, List.length_nil]; done) | (simp only [ints_size, digs_length, List.length_replicate, List.length_cons, List.length_nil, List.length_set, List.length_append]; omega) | rfl) (by first | exact ints_one _ _ | decide | simp [*]) ?_)
  intro w11 hE11
  clear hE10
  simp only [List.set_cons_zero, List.set_cons_succ] at hE11
  simp only [Act.put, List.setIfInBounds_toArray, List.set_cons_zero, List.set_cons_succ]
  repeat ((fail_if_success (with_reducible show wpList _ _ _ (List.cons _ _) _ _)); (fail_if_success (with_reducible show Code.wp _ (Code.region _ _ true) _ _ _)); go_step)
  refine wp_region_env 16 (by kernel_rfl) (by kernel_rfl) (fun _ _ d _ _ h => by cases d <;> exact h) hE11 ?_
  refine headRun_val (fun w9 hW => (v_load (i := 2) hW rfl rfl rfl Try.underlying26 rfl (sz_of (n := 5) (by kernel_rfl) (by first | (simp only [ints_size, digs_length, List.length_replicate, List.length_cons, List.length_nil]; done) | (simp only [ints_size, digs_length, List.length_replicate, List.length_cons, List.length_nil, List.length_set, List.length_append]; omega) | rfl))) w9 (Below.refl _ _)) ?_
  simp only [Act.put, List.setIfInBounds_toArray, List.set_cons_zero, List.set_cons_succ]
  refine headRun_val (fun w9 hW => (v_load (i := 3) hW rfl rfl rfl Try.underlying26 rfl (sz_of (n := 5) (by kernel_rfl) (by first | (simp only [ints_size, digs_length, List.length_replicate, List.length_cons, List.length_nil]; done) | (simp only [ints_size, digs_length, List.length_replicate, List.length_cons, List.length_nil, List.length_set, List.length_append]; omega) | rfl))) w9 (Below.refl _ _)) ?_
  simp only [Act.put, List.setIfInBounds_toArray, List.set_cons_zero, List.set_cons_succ]
  refine headRun_call (fun w1 => run_call rfl Try.call33) (fun w1 hW => HGe.out _) ?_
  simp only [Act.put, List.setIfInBounds_toArray, List.set_cons_zero, List.set_cons_succ]
  refine headRun_val (fun w9 hW => (v_load (i := 0) hW rfl rfl rfl Try.underlying26 rfl (sz_of (n := 5) (by kernel_rfl) (by first | (simp only [ints_size, digs_length, List.length_replicate, List.length_cons, List.length_nil]; done) | (simp only [ints_size, digs_length, List.length_replicate, List.length_cons, List.length_nil, List.length_set, List.length_append]; omega) | rfl))) w9 (Below.refl _ _)) ?_
  simp only [Act.put, List.setIfInBounds_toArray, List.set_cons_zero, List.set_cons_succ]
  refine headRun_val (fun w9 hW => (v_load (i := 1) hW rfl rfl rfl Try.underlying26 rfl (sz_of (n := 5) (by kernel_rfl) (by first | (simp only [ints_size, digs_length, List.length_replicate, List.length_cons, List.length_nil]; done) | (simp only [ints_size, digs_length, List.length_replicate, List.length_cons, List.length_nil, List.length_set, List.length_append]; omega) | rfl))) w9 (Below.refl _ _)) ?_
  simp only [Act.put, List.setIfInBounds_toArray, List.set_cons_zero, List.set_cons_succ]
  refine headRun_call (fun w1 => run_call rfl Try.call33) (fun w1 hW => HGf.out _) ?_
  simp only [Act.put, List.setIfInBounds_toArray, List.set_cons_zero, List.set_cons_succ]
  refine headRun_val (fun w9 hW => (v_load (i := 0) hW rfl rfl rfl Try.underlying26 rfl (sz_of (n := 5) (by kernel_rfl) (by first | (simp only [ints_size, digs_length, List.length_replicate, List.length_cons, List.length_nil]; done) | (simp only [ints_size, digs_length, List.length_replicate, List.length_cons, List.length_nil, List.length_set, List.length_append]; omega) | rfl))) w9 (Below.refl _ _)) ?_
  simp only [Act.put, List.setIfInBounds_toArray, List.set_cons_zero, List.set_cons_succ]
  refine headRun_val (fun w9 hW => (v_load (i := 1) hW rfl rfl rfl Try.underlying26 rfl (sz_of (n := 5) (by kernel_rfl) (by first | (simp only [ints_size, digs_length, List.length_replicate, List.length_cons, List.length_nil]; done) | (simp only [ints_size, digs_length, List.length_replicate, List.length_cons, List.length_nil, List.length_set, List.length_append]; omega) | rfl))) w9 (Below.refl _ _)) ?_
  simp only [Act.put, List.setIfInBounds_toArray, List.set_cons_zero, List.set_cons_succ]
  refine headRun_call (fun w1 => run_call rfl Try.call35) (fun w1 hW => HGg.out _) ?_
  simp only [Act.put, List.setIfInBounds_toArray, List.set_cons_zero, List.set_cons_succ]
  refine headRun_val (fun w9 hW => (v_load (i := 2) hW rfl rfl rfl Try.underlying26 rfl (sz_of (n := 5) (by kernel_rfl) (by first | (simp only [ints_size, digs_length, List.length_replicate, List.length_cons, List.length_nil]; done) | (simp only [ints_size, digs_length, List.length_replicate, List.length_cons, List.length_nil, List.length_set, List.length_append]; omega) | rfl))) w9 (Below.refl _ _)) ?_
  simp only [Act.put, List.setIfInBounds_toArray, List.set_cons_zero, List.set_cons_succ]
  refine headRun_val (fun w9 hW => (v_load (i := 3) hW rfl rfl rfl Try.underlying26 rfl (sz_of (n := 5) (by kernel_rfl) (by first | (simp only [ints_size, digs_length, List.length_replicate, List.length_cons, List.length_nil]; done) | (simp only [ints_size, digs_length, List.length_replicate, List.length_cons, List.length_nil, List.length_set, List.length_append]; omega) | rfl))) w9 (Below.refl _ _)) ?_
  simp only [Act.put, List.setIfInBounds_toArray, List.set_cons_zero, List.set_cons_succ]
  refine headRun_call (fun w1 => run_call rfl Try.call35) (fun w1 hW => HGh.out _) ?_
  simp only [Act.put, List.setIfInBounds_toArray, List.set_cons_zero, List.set_cons_succ]
  refine headRun_alloc (zs := ints .u64 (List.replicate 5 0)) rfl rfl (fun w => by kernel_rfl) ?_
  simp only [Act.put, List.setIfInBounds_toArray, List.set_cons_zero, List.set_cons_succ]
  refine headRun_alloc (zs := ints .u64 (List.replicate 5 0)) rfl rfl (fun w => by kernel_rfl) ?_
  simp only [Act.put, List.setIfInBounds_toArray, List.set_cons_zero, List.set_cons_succ]
  refine headRun_alloc (zs := ints .u64 (List.replicate 5 0)) rfl rfl (fun w => by kernel_rfl) ?_
  simp only [Act.put, List.setIfInBounds_toArray, List.set_cons_zero, List.set_cons_succ]
  refine headRun_alloc (zs := ints .u64 (List.replicate 5 0)) rfl rfl (fun w => by kernel_rfl) ?_
  simp only [Act.put, List.setIfInBounds_toArray, List.set_cons_zero, List.set_cons_succ]
  refine headRun_nil (endK4 ?_)
  intro g7 g8 g9 g10 w12 hE12
  clear hE11
  simp only [List.drop_succ_cons, List.drop_zero, Act.put, List.setIfInBounds_toArray, List.set_cons_zero, List.set_cons_succ]
  refine wl_step (st_store (i := 0) hE12 rfl rfl rfl rfl rfl (sz_of (n := 5) (by kernel_rfl) (by first | (simp only [ints_size, digs_length, List.length_replicate, List.length_cons, List.length_nil]; done) | (simp only [ints_size, digs_length, List.length_replicate, List.length_cons, List.length_nil, List.length_set, List.length_append]; omega) | rfl)) (by first | (simp only [ints_size, digs_length, List.length_replicate, List.length_cons, List.length_nil]; done) | (simp only [ints_size, digs_length, List.length_replicate, List.length_cons, List.length_nil, List.length_set, List.length_append]; omega) | rfl) (by first | exact ints_one _ _ | decide | simp [*]) ?_)
  intro w13 hE13
  clear hE12
  simp only [List.set_cons_zero, List.set_cons_succ] at hE13
  simp only [Act.put, List.setIfInBounds_toArray, List.set_cons_zero, List.set_cons_succ]
  refine wl_step (st_store (i := 1) hE13 rfl rfl rfl rfl rfl (sz_of (n := 5) (by kernel_rfl) (by first | (simp only [ints_size, digs_length, List.length_replicate, List.length_cons, List.length_nil]; done) | (simp only [ints_size, digs_length, List.length_replicate, List.length_cons, List.length_nil, List.length_set, List.length_append]; omega) | rfl)) (by first | (simp only [ints_size, digs_length, List.length_replicate, List.length_cons, List.length_nil]; done) | (simp only [ints_size, digs_length, List.length_replicate, List.length_cons, List.length_nil, List.length_set, List.length_append]; omega) | rfl) (by first | exact ints_one _ _ | decide | simp [*]) ?_)
  intro w14 hE14
  clear hE13
  simp only [List.set_cons_zero, List.set_cons_succ] at hE14
  simp only [Act.put, List.setIfInBounds_toArray, List.set_cons_zero, List.set_cons_succ]
  refine wl_step (st_store (i := 2) hE14 rfl rfl rfl rfl rfl (sz_of (n := 5) (by kernel_rfl) (by first | (simp only [ints_size, digs_length, List.length_replicate, List.length_cons, List.length_nil]; done) | (simp only [ints_size, digs_length, List.length_replicate, List.length_cons, List.length_nil, List.length_set, List.length_append]; omega) | rfl)) (by first | (simp only [ints_size, digs_length, List.length_replicate, List.length_cons, List.length_nil]; done) | (simp only [ints_size, digs_length, List.length_replicate, List.length_cons, List.length_nil, List.length_set, List.length_append]; omega) | rfl) (by first | exact ints_one _ _ | decide | simp [*]) ?_)
  intro w15 hE15
  clear hE14
  simp only [List.set_cons_zero, List.set_cons_succ] at hE15
  simp only [Act.put, List.setIfInBounds_toArray, List.set_cons_zero, List.set_cons_succ]
  refine wl_step (st_store (i := 3) hE15 rfl rfl rfl rfl rfl (sz_of (n := 5) (by kernel_rfl) (by first | (simp only [ints_size, digs_length, List.length_replicate, List.length_cons, List.length_nil]; done) | (simp only [ints_size, digs_length, List.length_replicate, List.length_cons, List.length_nil, List.length_set, List.length_append]; omega) | rfl)) (by first | (simp only [ints_size, digs_length, List.length_replicate, List.length_cons, List.length_nil]; done) | (simp only [ints_size, digs_length, List.length_replicate, List.length_cons, List.length_nil, List.length_set, List.length_append]; omega) | rfl) (by first | exact ints_one _ _ | decide | simp [*]) ?_)
  intro w16 hE16
  clear hE15
  simp only [List.set_cons_zero, List.set_cons_succ] at hE16
  simp only [Act.put, List.setIfInBounds_toArray, List.set_cons_zero, List.set_cons_succ]
  repeat ((fail_if_success (with_reducible show wpList _ _ _ (List.cons _ _) _ _)); (fail_if_success (with_reducible show Code.wp _ (Code.region _ _ true) _ _ _)); go_step)
  refine wp_region_B (n := 14) 13 (by kernel_rfl) rfl hE16 ?_
  intro w17 hb17 hE17
  clear hE16
  refine wpB_take (i := 0) (by kernel_rfl) rfl (by kernel_rfl) (fun _ _ _ h => h) rfl (v_load (i := 0) hE17 rfl rfl rfl Try.underlying26 rfl (sz_of (n := 5) (by kernel_rfl) (by first | (simp only [ints_size, digs_length, List.length_replicate, List.length_cons, List.length_nil]; done) | (simp only [ints_size, digs_length, List.length_replicate, List.length_cons, List.length_nil, List.length_set, List.length_append]; omega) | rfl))) ?_
  simp only [Act.put, List.setIfInBounds_toArray, List.set_cons_zero, List.set_cons_succ]
  refine wpB_take (i := 1) (by kernel_rfl) rfl (by kernel_rfl) (fun _ _ _ h => h) rfl (v_load (i := 1) hE17 rfl rfl rfl Try.underlying26 rfl (sz_of (n := 5) (by kernel_rfl) (by first | (simp only [ints_size, digs_length, List.length_replicate, List.length_cons, List.length_nil]; done) | (simp only [ints_size, digs_length, List.length_replicate, List.length_cons, List.length_nil, List.length_set, List.length_append]; omega) | rfl))) ?_
  simp only [Act.put, List.setIfInBounds_toArray, List.set_cons_zero, List.set_cons_succ]
  refine wpB_take (i := 3) (by kernel_rfl) rfl (by kernel_rfl) (fun _ _ _ h => h) rfl (v_load (i := 2) hE17 rfl rfl rfl Try.underlying26 rfl (sz_of (n := 5) (by kernel_rfl) (by first | (simp only [ints_size, digs_length, List.length_replicate, List.length_cons, List.length_nil]; done) | (simp only [ints_size, digs_length, List.length_replicate, List.length_cons, List.length_nil, List.length_set, List.length_append]; omega) | rfl))) ?_
  simp only [Act.put, List.setIfInBounds_toArray, List.set_cons_zero, List.set_cons_succ]
  refine wpB_take (i := 4) (by kernel_rfl) rfl (by kernel_rfl) (fun _ _ _ h => h) rfl (v_load (i := 3) hE17 rfl rfl rfl Try.underlying26 rfl (sz_of (n := 5) (by kernel_rfl) (by first | (simp only [ints_size, digs_length, List.length_replicate, List.length_cons, List.length_nil]; done) | (simp only [ints_size, digs_length, List.length_replicate, List.length_cons, List.length_nil, List.length_set, List.length_append]; omega) | rfl))) ?_
  simp only [Act.put, List.setIfInBounds_toArray, List.set_cons_zero, List.set_cons_succ]
  refine wpB_take (i := 6) (by kernel_rfl) rfl (by kernel_rfl) (fun _ _ _ h => h) rfl (v_load (i := 1) hE17 rfl rfl rfl Try.underlying26 rfl (sz_of (n := 5) (by kernel_rfl) (by first | (simp only [ints_size, digs_length, List.length_replicate, List.length_cons, List.length_nil]; done) | (simp only [ints_size, digs_length, List.length_replicate, List.length_cons, List.length_nil, List.length_set, List.length_append]; omega) | rfl))) ?_
  simp only [Act.put, List.setIfInBounds_toArray, List.set_cons_zero, List.set_cons_succ]
  refine wpB_take (i := 7) (by kernel_rfl) rfl (by kernel_rfl) (fun _ _ _ h => h) rfl (v_load (i := 2) hE17 rfl rfl rfl Try.underlying26 rfl (sz_of (n := 5) (by kernel_rfl) (by first | (simp only [ints_size, digs_length, List.length_replicate, List.length_cons, List.length_nil]; done) | (simp only [ints_size, digs_length, List.length_replicate, List.length_cons, List.length_nil, List.length_set, List.length_append]; omega) | rfl))) ?_
  simp only [Act.put, List.setIfInBounds_toArray, List.set_cons_zero, List.set_cons_succ]
  refine wpB_take (i := 9) (by kernel_rfl) rfl (by kernel_rfl) (fun _ _ _ h => h) rfl (v_load (i := 0) hE17 rfl rfl rfl Try.underlying26 rfl (sz_of (n := 5) (by kernel_rfl) (by first | (simp only [ints_size, digs_length, List.length_replicate, List.length_cons, List.length_nil]; done) | (simp only [ints_size, digs_length, List.length_replicate, List.length_cons, List.length_nil, List.length_set, List.length_append]; omega) | rfl))) ?_
  simp only [Act.put, List.setIfInBounds_toArray, List.set_cons_zero, List.set_cons_succ]
  refine wpB_take (i := 10) (by kernel_rfl) rfl (by kernel_rfl) (fun _ _ _ h => h) rfl (v_load (i := 3) hE17 rfl rfl rfl Try.underlying26 rfl (sz_of (n := 5) (by kernel_rfl) (by first | (simp only [ints_size, digs_length, List.length_replicate, List.length_cons, List.length_nil]; done) | (simp only [ints_size, digs_length, List.length_replicate, List.length_cons, List.length_nil, List.length_set, List.length_append]; omega) | rfl))) ?_
  simp only [Act.put, List.setIfInBounds_toArray, List.set_cons_zero, List.set_cons_succ]
  refine wpB_step (i := 2) (by kernel_rfl) rfl (st_gives hE17 rfl (run_call rfl Try.call34) (HGX.out _) ?_)
  intro w18 hb18 hE18
  clear hE17
  refine ⟨fun _ => hb18, ?_⟩
  simp only [Act.put, List.setIfInBounds_toArray, List.set_cons_zero, List.set_cons_succ]
  refine wpB_step (i := 5) (by kernel_rfl) rfl (st_gives hE18 rfl (run_call rfl Try.call34) (HGY.out _) ?_)
  intro w19 hb19 hE19
  clear hE18
  refine ⟨fun _ => hb19, ?_⟩
  simp only [Act.put, List.setIfInBounds_toArray, List.set_cons_zero, List.set_cons_succ]
  refine wpB_step (i := 8) (by kernel_rfl) rfl (st_gives hE19 rfl (run_call rfl Try.call34) (HGZ.out _) ?_)
  intro w20 hb20 hE20
  clear hE19
  refine ⟨fun _ => hb20, ?_⟩
  simp only [Act.put, List.setIfInBounds_toArray, List.set_cons_zero, List.set_cons_succ]
  refine wpB_step (i := 11) (by kernel_rfl) rfl (st_gives hE20 rfl (run_call rfl Try.call34) (HGT.out _) ?_)
  intro w21 hb21 hE21
  clear hE20
  refine ⟨fun _ => hb21, ?_⟩
  simp only [Act.put, List.setIfInBounds_toArray, List.set_cons_zero, List.set_cons_succ]
  refine wpB_take (i := 12) (by kernel_rfl) rfl (by kernel_rfl) (fun _ _ _ h => h) rfl (v_point [X, Y, Z, T] HL.out rfl (by simp only [List.map_cons, List.map_nil, List.zipIdx_cons, List.zipIdx_nil]; rfl) rfl H5.out) ?_
  simp only [Act.put, List.setIfInBounds_toArray, List.set_cons_zero, List.set_cons_succ]
  refine wpB_step (i := 13) (by kernel_rfl) rfl (st_store (i := 8) hE21 rfl rfl rfl rfl rfl (sz_of (n := 20) (by kernel_rfl) (by first | (simp only [ints_size, digs_length, List.length_replicate, List.length_cons, List.length_nil]; done) | (simp only [ints_size, digs_length, List.length_replicate, List.length_cons, List.length_nil, List.length_set, List.length_append]; omega) | rfl)) (by first | (simp only [ints_size, digs_length, List.length_replicate, List.length_cons, List.length_nil]; done) | (simp only [ints_size, digs_length, List.length_replicate, List.length_cons, List.length_nil, List.length_set, List.length_append]; omega) | rfl) (by first | exact ints_one _ _ | decide | simp [*]) ?_)
  intro w22 hE22
  clear hE21
  simp only [List.set_cons_zero, List.set_cons_succ] at hE22
  refine ⟨fun h => absurd h (by decide), ?_⟩
  simp only [Act.put, List.setIfInBounds_toArray, List.set_cons_zero, List.set_cons_succ]
  refine wpB_done (by kernel_rfl) ?_ _
  repeat ((fail_if_success (with_reducible show wpList _ _ _ (List.cons _ _) _ _)); (fail_if_success (with_reducible show Code.wp _ (Code.region _ _ true) _ _ _)); go_step)
  refine bodyPost_ret (results_cell_row rfl _ _ _ _ _ (0, 0) _ rfl (hE22.get (i := 8) rfl) Try.underlying28 rfl (sz_of (n := 20) (by kernel_rfl) (by first | (simp only [ints_size, digs_length, List.length_replicate, List.length_cons, List.length_nil]; done) | (simp only [ints_size, digs_length, List.length_replicate, List.length_cons, List.length_nil, List.length_set, List.length_append]; omega) | rfl))) rfl ⟨rfl, hE22.below⟩

set_option maxRecDepth 100000 in
set_option maxHeartbeats 8000000 in
theorem PDouble_any {l : List Nat} {P : Pt} (h : PRep l P) : ∃ c, PRep c (padd P P) ∧ ∀ w, Gives 14 #[pt l] w (pt c) := by
  obtain ⟨len, fx, fy, fz, ft, nz, ex, ey, et⟩ := h
  obtain ⟨x, hx⟩ : ∃ x, (l.drop 0).take 5 = x := ⟨_, rfl⟩
  obtain ⟨y, hy⟩ : ∃ y, (l.drop 5).take 5 = y := ⟨_, rfl⟩
  obtain ⟨z, hz⟩ : ∃ z, (l.drop 10).take 5 = z := ⟨_, rfl⟩
  rw [hx] at fx ex
  rw [hy] at fy ey
  rw [hz] at fz nz ex ey
  clear ft et
  obtain ⟨a, fa, ea, Ga⟩ := Mul_K fx fx
  obtain ⟨b, fb, eb, Gb⟩ := Mul_K fy fy
  obtain ⟨c, fc, ec, Gc⟩ := Mul_K fz fz
  obtain ⟨hh, fh, eh, Gh⟩ := Add_K fa fb
  obtain ⟨s, fs, es, Gs⟩ := Add_K fx fy
  obtain ⟨ss, fss, ess, Gss⟩ := Mul_K fs fs
  obtain ⟨e, fe, ee, Ge⟩ := Sub_K fh fss
  obtain ⟨g, fg, eg, Gg⟩ := Sub_K fa fb
  obtain ⟨cc, fcc, ecc, Gcc⟩ := Add_K fc fc
  obtain ⟨f, ff, ef, Gf⟩ := Add_K fcc fg
  obtain ⟨X, fX, eX, GX⟩ := Mul_K fe ff
  obtain ⟨Y, fY, eY, GY⟩ := Mul_K fg fh
  obtain ⟨Z, fZ, eZ, GZ⟩ := Mul_K ff fg
  obtain ⟨T, fT, eT, GT⟩ := Mul_K fe fh
  have hR : PRep [X, Y, Z, T].flatten (padd P P) := by
    rw [ex] at ea
    rw [ey] at eb
    rw [ex, ey] at es
    rw [ess] at ee
    rw [ecc] at ef
    obtain ⟨k1, k2, k3, k4⟩ := xdbl P.on (padd_x P P) (padd_y P P) ea eb ec eh es ee eg ef
    have hf0 : fk f ≠ 0 := by rw [k3]; exact K_mul_ne (K_mul_ne nz nz) (den_sub P P)
    have hg0 : fk g ≠ 0 := by rw [k4]; exact K_neg_ne (K_mul_ne (K_mul_ne nz nz) (den_add P P))
    have hX : fk X = (padd P P).x * fk Z := by rw [eX, eZ]; exact k1
    have hY : fk Y = (padd P P).y * fk Z := by rw [eY, eZ]; exact k2
    have hZ0 : fk Z ≠ 0 := by rw [eZ]; exact K_mul_ne hf0 hg0
    refine PRep_mk fX fY fZ fT hZ0 hX hY ?_
    refine K_cancel hZ0 ?_
    have h1 : fk T * fk Z = fk X * fk Y := by
      rw [eT, eZ, eX, eY]
      generalize fk e = E
      generalize fk f = F
      generalize fk g = G
      generalize fk hh = H
      clear ea eb ec eh es ee eg ef k1 k2 k3 k4
      grobner
    rw [h1, hX, hY]
    generalize (padd P P).x = x3
    generalize (padd P P).y = y3
    generalize fk Z = z3
    clear ea eb ec eh es ee eg ef k1 k2 k3 k4
    grobner
  have hr5 := rows5 fX.1 fY.1 fZ.1 fT.1
  obtain ⟨L, hL⟩ : ∃ L, [X, Y, Z, T].flatten = L := ⟨_, rfl⟩
  rw [hL] at hR
  refine ⟨L, hR, fun w => ?_⟩
  have lL := hR.len
  have lx := fx.1
  have Hx := Lib.hid hx
  clear hx fx
  have ly := fy.1
  have Hy := Lib.hid hy
  clear hy fy
  have lz := fz.1
  have Hz := Lib.hid hz
  clear hz fz
  clear ex ey
  have la := fa.1
  have HGa := Lib.hid Ga
  clear Ga fa ea
  have lb := fb.1
  have HGb := Lib.hid Gb
  clear Gb fb eb
  have lc := fc.1
  have HGc := Lib.hid Gc
  clear Gc fc ec
  have lh := fh.1
  have HGh := Lib.hid Gh
  clear Gh fh eh
  have ls := fs.1
  have HGs := Lib.hid Gs
  clear Gs fs es
  have lss := fss.1
  have HGss := Lib.hid Gss
  clear Gss fss ess
  have le := fe.1
  have HGe := Lib.hid Ge
  clear Ge fe ee
  have lg := fg.1
  have HGg := Lib.hid Gg
  clear Gg fg eg
  have lcc := fcc.1
  have HGcc := Lib.hid Gcc
  clear Gcc fcc ecc
  have lf := ff.1
  have HGf := Lib.hid Gf
  clear Gf ff ef
  have lX := fX.1
  have HGX := Lib.hid GX
  clear GX fX eX
  have lY := fY.1
  have HGY := Lib.hid GY
  clear GY fY eY
  have lZ := fZ.1
  have HGZ := Lib.hid GZ
  clear GZ fZ eZ
  have lT := fT.1
  have HGT := Lib.hid GT
  clear GT fT eT
  have HL := Lib.hid hL
  have H5 := Lib.hid hr5
  clear hL hr5 hR nz
  have hE0 := Env.nil w
  go_enter Try.func14, Try.ntmps14
  repeat ((fail_if_success (with_reducible show wpList _ _ _ (List.cons _ _) _ _)); (fail_if_success (with_reducible show Code.wp _ (Code.region _ _ true) _ _ _)); go_step)
  refine wl_step (st_boxA hE0 rfl rfl rfl ?_)
  intro g0 w1 hb1 hE1
  clear hE0
  simp only [Act.put, List.setIfInBounds_toArray, List.set_cons_zero, List.set_cons_succ]
  refine wl_step (st_alloc (zs := ints .u64 (List.replicate 20 0)) hE1 rfl rfl (fun w => by kernel_rfl) ?_)
  intro g1 w2 hb2 hE2
  clear hE1
  simp only [Act.put, List.setIfInBounds_toArray, List.set_cons_zero, List.set_cons_succ]
  repeat ((fail_if_success (with_reducible show wpList _ _ _ (List.cons _ _) _ _)); (fail_if_success (with_reducible show Code.wp _ (Code.region _ _ true) _ _ _)); go_step)
  refine wp_region_env 18 (by kernel_rfl) (by kernel_rfl) (fun _ _ d _ _ h => by cases d <;> exact h) hE2 ?_
  refine headRun_val (fun w9 hW => (v_field0 (s := 4) rfl rfl Try.underlying28 rfl (by kernel_rfl) rfl) w9 (Below.refl _ _)) ?_
  simp only [Act.put, List.setIfInBounds_toArray, List.set_cons_zero, List.set_cons_succ]
  refine headRun_val (fun w9 hW => (v_loadPartE (i := 1) (n := 5) Hx.out hW rfl rfl rfl Try.underlying26 rfl (by kernel_rfl) (by omega)) w9 (Below.refl _ _)) ?_
  simp only [Act.put, List.setIfInBounds_toArray, List.set_cons_zero, List.set_cons_succ]
  refine headRun_val (fun w9 hW => (v_field0 (s := 4) rfl rfl Try.underlying28 rfl (by kernel_rfl) rfl) w9 (Below.refl _ _)) ?_
  simp only [Act.put, List.setIfInBounds_toArray, List.set_cons_zero, List.set_cons_succ]
  refine headRun_val (fun w9 hW => (v_loadPartE (i := 1) (n := 5) Hx.out hW rfl rfl rfl Try.underlying26 rfl (by kernel_rfl) (by omega)) w9 (Below.refl _ _)) ?_
  simp only [Act.put, List.setIfInBounds_toArray, List.set_cons_zero, List.set_cons_succ]
  refine headRun_call (fun w1 => run_call rfl Try.call34) (fun w1 hW => HGa.out _) ?_
  simp only [Act.put, List.setIfInBounds_toArray, List.set_cons_zero, List.set_cons_succ]
  refine headRun_val (fun w9 hW => (v_fieldB (s := 4) rfl rfl Try.underlying28 rfl (by kernel_rfl) rfl) w9 (Below.refl _ _)) ?_
  simp only [Act.put, List.setIfInBounds_toArray, List.set_cons_zero, List.set_cons_succ]
  refine headRun_val (fun w9 hW => (v_loadPartE (i := 1) (n := 5) Hy.out hW rfl rfl rfl Try.underlying26 rfl (by kernel_rfl) (by omega)) w9 (Below.refl _ _)) ?_
  simp only [Act.put, List.setIfInBounds_toArray, List.set_cons_zero, List.set_cons_succ]
  refine headRun_val (fun w9 hW => (v_fieldB (s := 4) rfl rfl Try.underlying28 rfl (by kernel_rfl) rfl) w9 (Below.refl _ _)) ?_
  simp only [Act.put, List.setIfInBounds_toArray, List.set_cons_zero, List.set_cons_succ]
  refine headRun_val (fun w9 hW => (v_loadPartE (i := 1) (n := 5) Hy.out hW rfl rfl rfl Try.underlying26 rfl (by kernel_rfl) (by omega)) w9 (Below.refl _ _)) ?_
  simp only [Act.put, List.setIfInBounds_toArray, List.set_cons_zero, List.set_cons_succ]
  refine headRun_call (fun w1 => run_call rfl Try.call34) (fun w1 hW => HGb.out _) ?_
  simp only [Act.put, List.setIfInBounds_toArray, List.set_cons_zero, List.set_cons_succ]
  refine headRun_val (fun w9 hW => (v_fieldB (s := 4) rfl rfl Try.underlying28 rfl (by kernel_rfl) rfl) w9 (Below.refl _ _)) ?_
  simp only [Act.put, List.setIfInBounds_toArray, List.set_cons_zero, List.set_cons_succ]
  refine headRun_val (fun w9 hW => (v_loadPartE (i := 1) (n := 5) Hz.out hW rfl rfl rfl Try.underlying26 rfl (by kernel_rfl) (by omega)) w9 (Below.refl _ _)) ?_
  simp only [Act.put, List.setIfInBounds_toArray, List.set_cons_zero, List.set_cons_succ]
  refine headRun_val (fun w9 hW => (v_fieldB (s := 4) rfl rfl Try.underlying28 rfl (by kernel_rfl) rfl) w9 (Below.refl _ _)) ?_
  simp only [Act.put, List.setIfInBounds_toArray, List.set_cons_zero, List.set_cons_succ]
  refine headRun_val (fun w9 hW => (v_loadPartE (i := 1) (n := 5) Hz.out hW rfl rfl rfl Try.underlying26 rfl (by kernel_rfl) (by omega)) w9 (Below.refl _ _)) ?_
  simp only [Act.put, List.setIfInBounds_toArray, List.set_cons_zero, List.set_cons_succ]
  refine headRun_call (fun w1 => run_call rfl Try.call34) (fun w1 hW => HGc.out _) ?_
  simp only [Act.put, List.setIfInBounds_toArray, List.set_cons_zero, List.set_cons_succ]
  refine headRun_alloc (zs := ints .u64 (List.replicate 5 0)) rfl rfl (fun w => by kernel_rfl) ?_
  simp only [Act.put, List.setIfInBounds_toArray, List.set_cons_zero, List.set_cons_succ]
  refine headRun_alloc (zs := ints .u64 (List.replicate 5 0)) rfl rfl (fun w => by kernel_rfl) ?_
  simp only [Act.put, List.setIfInBounds_toArray, List.set_cons_zero, List.set_cons_succ]
  refine headRun_alloc (zs := ints .u64 (List.replicate 5 0)) rfl rfl (fun w => by kernel_rfl) ?_
  simp only [Act.put, List.setIfInBounds_toArray, List.set_cons_zero, List.set_cons_succ]
  refine headRun_nil (endK3 ?_)
  intro g2 g3 g4 w3 hE3
  clear hE2
  simp only [List.drop_succ_cons, List.drop_zero, Act.put, List.setIfInBounds_toArray, List.set_cons_zero, List.set_cons_succ]
  refine wl_step (st_store (i := 0) hE3 rfl rfl rfl rfl rfl (sz_of (n := 5) (by kernel_rfl) (by first | (simp only [ints_size, digs_length, List.length_replicate, List.length_cons, List.length_nil]; done) | (simp only [ints_size, digs_length, List.length_replicate, List.length_cons, List.length_nil, List.length_set, List.length_append]; omega) | rfl)) (by first | (simp only [ints_size, digs_length, List.length_replicate, List.length_cons, List.length_nil]; done) | (simp only [ints_size, digs_length, List.length_replicate, List.length_cons, List.length_nil, List.length_set, List.length_append]; omega) | rfl) (by first | exact ints_one _ _ | decide | simp [*]) ?_)
  intro w4 hE4
  clear hE3
  simp only [List.set_cons_zero, List.set_cons_succ] at hE4
  simp only [Act.put, List.setIfInBounds_toArray, List.set_cons_zero, List.set_cons_succ]
  refine wl_step (st_store (i := 1) hE4 rfl rfl rfl rfl rfl (sz_of (n := 5) (by kernel_rfl) (by first | (simp only [ints_size, digs_length, List.length_replicate, List.length_cons, List.length_nil]; done) | (simp only [ints_size, digs_length, List.length_replicate, List.length_cons, List.length_nil, List.length_set, List.length_append]; omega) | rfl)) (by first | (simp only [ints_size, digs_length, List.length_replicate, List.length_cons, List.length_nil]; done) | (simp only [ints_size, digs_length, List.length_replicate, List.length_cons, List.length_nil, List.length_set, List.length_append]; omega) | rfl) (by first | exact ints_one _ _ | decide | simp [*]) ?_)
  intro w5 hE5
  clear hE4
  simp only [List.set_cons_zero, List.set_cons_succ] at hE5
  simp only [Act.put, List.setIfInBounds_toArray, List.set_cons_zero, List.set_cons_succ]
  refine wl_step (st_store (i := 2) hE5 rfl rfl rfl rfl rfl (sz_of (n := 5) (by kernel_rfl) (by first | (simp only [ints_size, digs_length, List.length_replicate, List.length_cons, List.length_nil]; done) | (simp only [ints_size, digs_length, List.length_replicate, List.length_cons, List.length_nil, List.length_set, List.length_append]; omega) | rfl)) (by first | (simp only [ints_size, digs_length, List.length_replicate, List.length_cons, List.length_nil]; done) | (simp only [ints_size, digs_length, List.length_replicate, List.length_cons, List.length_nil, List.length_set, List.length_append]; omega) | rfl) (by first | exact ints_one _ _ | decide | simp [*]) ?_)
  intro w6 hE6
  clear hE5
  simp only [List.set_cons_zero, List.set_cons_succ] at hE6
  simp only [Act.put, List.setIfInBounds_toArray, List.set_cons_zero, List.set_cons_succ]
  repeat ((fail_if_success (with_reducible show wpList _ _ _ (List.cons _ _) _ _)); (fail_if_success (with_reducible show Code.wp _ (Code.region _ _ true) _ _ _)); go_step)
  refine wp_region_env 10 (by kernel_rfl) (by kernel_rfl) (fun _ _ d _ _ h => by cases d <;> exact h) hE6 ?_
  refine headRun_val (fun w9 hW => (v_load (i := 0) hW rfl rfl rfl Try.underlying26 rfl (sz_of (n := 5) (by kernel_rfl) (by first | (simp only [ints_size, digs_length, List.length_replicate, List.length_cons, List.length_nil]; done) | (simp only [ints_size, digs_length, List.length_replicate, List.length_cons, List.length_nil, List.length_set, List.length_append]; omega) | rfl))) w9 (Below.refl _ _)) ?_
  simp only [Act.put, List.setIfInBounds_toArray, List.set_cons_zero, List.set_cons_succ]
  refine headRun_val (fun w9 hW => (v_load (i := 1) hW rfl rfl rfl Try.underlying26 rfl (sz_of (n := 5) (by kernel_rfl) (by first | (simp only [ints_size, digs_length, List.length_replicate, List.length_cons, List.length_nil]; done) | (simp only [ints_size, digs_length, List.length_replicate, List.length_cons, List.length_nil, List.length_set, List.length_append]; omega) | rfl))) w9 (Below.refl _ _)) ?_
  simp only [Act.put, List.setIfInBounds_toArray, List.set_cons_zero, List.set_cons_succ]
  refine headRun_call (fun w1 => run_call rfl Try.call35) (fun w1 hW => HGh.out _) ?_
  simp only [Act.put, List.setIfInBounds_toArray, List.set_cons_zero, List.set_cons_succ]
  refine headRun_val (fun w9 hW => (v_field0 (s := 4) rfl rfl Try.underlying28 rfl (by kernel_rfl) rfl) w9 (Below.refl _ _)) ?_
  simp only [Act.put, List.setIfInBounds_toArray, List.set_cons_zero, List.set_cons_succ]
  refine headRun_val (fun w9 hW => (v_loadPartE (i := 4) (n := 5) Hx.out hW rfl rfl rfl Try.underlying26 rfl (by kernel_rfl) (by omega)) w9 (Below.refl _ _)) ?_
  simp only [Act.put, List.setIfInBounds_toArray, List.set_cons_zero, List.set_cons_succ]
  refine headRun_val (fun w9 hW => (v_fieldB (s := 4) rfl rfl Try.underlying28 rfl (by kernel_rfl) rfl) w9 (Below.refl _ _)) ?_
  simp only [Act.put, List.setIfInBounds_toArray, List.set_cons_zero, List.set_cons_succ]
  refine headRun_val (fun w9 hW => (v_loadPartE (i := 4) (n := 5) Hy.out hW rfl rfl rfl Try.underlying26 rfl (by kernel_rfl) (by omega)) w9 (Below.refl _ _)) ?_
  simp only [Act.put, List.setIfInBounds_toArray, List.set_cons_zero, List.set_cons_succ]
  refine headRun_call (fun w1 => run_call rfl Try.call35) (fun w1 hW => HGs.out _) ?_
  simp only [Act.put, List.setIfInBounds_toArray, List.set_cons_zero, List.set_cons_succ]
  refine headRun_alloc (zs := ints .u64 (List.replicate 5 0)) rfl rfl (fun w => by kernel_rfl) ?_
  simp only [Act.put, List.setIfInBounds_toArray, List.set_cons_zero, List.set_cons_succ]
  refine headRun_alloc (zs := ints .u64 (List.replicate 5 0)) rfl rfl (fun w => by kernel_rfl) ?_
  simp only [Act.put, List.setIfInBounds_toArray, List.set_cons_zero, List.set_cons_succ]
  refine headRun_nil (endK2 ?_)
  intro g5 g6 w7 hE7
  clear hE6
  simp only [List.drop_succ_cons, List.drop_zero, Act.put, List.setIfInBounds_toArray, List.set_cons_zero, List.set_cons_succ]
  refine wl_step (st_store (i := 0) hE7 rfl rfl rfl rfl rfl (sz_of (n := 5) (by kernel_rfl) (by first | (simp only [ints_size, digs_length, List.length_replicate, List.length_cons, List.length_nil]; done) | (simp only [ints_size, digs_length, List.length_replicate, List.length_cons, List.length_nil, List.length_set, List.length_append]; omega) | rfl)) (by first | (simp only [ints_size, digs_length, List.length_replicate, List.length_cons, List.length_nil]; done) | (simp only [ints_size, digs_length, List.length_replicate, List.length_cons, List.length_nil, List.length_set, List.length_append]; omega) | rfl) (by first | exact ints_one _ _ | decide | simp [*]) ?_)
  intro w8 hE8
  clear hE7
  simp only [List.set_cons_zero, List.set_cons_succ] at hE8
  simp only [Act.put, List.setIfInBounds_toArray, List.set_cons_zero, List.set_cons_succ]
  refine wl_step (st_store (i := 1) hE8 rfl rfl rfl rfl rfl (sz_of (n := 5) (by kernel_rfl) (by first | (simp only [ints_size, digs_length, List.length_replicate, List.length_cons, List.length_nil]; done) | (simp only [ints_size, digs_length, List.length_replicate, List.length_cons, List.length_nil, List.length_set, List.length_append]; omega) | rfl)) (by first | (simp only [ints_size, digs_length, List.length_replicate, List.length_cons, List.length_nil]; done) | (simp only [ints_size, digs_length, List.length_replicate, List.length_cons, List.length_nil, List.length_set, List.length_append]; omega) | rfl) (by first | exact ints_one _ _ | decide | simp [*]) ?_)
  intro w9 hE9
  clear hE8
  simp only [List.set_cons_zero, List.set_cons_succ] at hE9
  simp only [Act.put, List.setIfInBounds_toArray, List.set_cons_zero, List.set_cons_succ]
  repeat ((fail_if_success (with_reducible show wpList _ _ _ (List.cons _ _) _ _)); (fail_if_success (with_reducible show Code.wp _ (Code.region _ _ true) _ _ _)); go_step)
  refine wp_region_env 10 (by kernel_rfl) (by kernel_rfl) (fun _ _ d _ _ h => by cases d <;> exact h) hE9 ?_
  refine headRun_val (fun w9 hW => (v_load (i := 0) hW rfl rfl rfl Try.underlying26 rfl (sz_of (n := 5) (by kernel_rfl) (by first | (simp only [ints_size, digs_length, List.length_replicate, List.length_cons, List.length_nil]; done) | (simp only [ints_size, digs_length, List.length_replicate, List.length_cons, List.length_nil, List.length_set, List.length_append]; omega) | rfl))) w9 (Below.refl _ _)) ?_
  simp only [Act.put, List.setIfInBounds_toArray, List.set_cons_zero, List.set_cons_succ]
  refine headRun_val (fun w9 hW => (v_load (i := 1) hW rfl rfl rfl Try.underlying26 rfl (sz_of (n := 5) (by kernel_rfl) (by first | (simp only [ints_size, digs_length, List.length_replicate, List.length_cons, List.length_nil]; done) | (simp only [ints_size, digs_length, List.length_replicate, List.length_cons, List.length_nil, List.length_set, List.length_append]; omega) | rfl))) w9 (Below.refl _ _)) ?_
  simp only [Act.put, List.setIfInBounds_toArray, List.set_cons_zero, List.set_cons_succ]
  refine headRun_val (fun w9 hW => (v_load (i := 1) hW rfl rfl rfl Try.underlying26 rfl (sz_of (n := 5) (by kernel_rfl) (by first | (simp only [ints_size, digs_length, List.length_replicate, List.length_cons, List.length_nil]; done) | (simp only [ints_size, digs_length, List.length_replicate, List.length_cons, List.length_nil, List.length_set, List.length_append]; omega) | rfl))) w9 (Below.refl _ _)) ?_
  simp only [Act.put, List.setIfInBounds_toArray, List.set_cons_zero, List.set_cons_succ]
  refine headRun_call (fun w1 => run_call rfl Try.call34) (fun w1 hW => HGss.out _) ?_
  simp only [Act.put, List.setIfInBounds_toArray, List.set_cons_zero, List.set_cons_succ]
  refine headRun_call (fun w1 => run_call rfl Try.call33) (fun w1 hW => HGe.out _) ?_
  simp only [Act.put, List.setIfInBounds_toArray, List.set_cons_zero, List.set_cons_succ]
  refine headRun_val (fun w9 hW => (v_load (i := 2) hW rfl rfl rfl Try.underlying26 rfl (sz_of (n := 5) (by kernel_rfl) (by first | (simp only [ints_size, digs_length, List.length_replicate, List.length_cons, List.length_nil]; done) | (simp only [ints_size, digs_length, List.length_replicate, List.length_cons, List.length_nil, List.length_set, List.length_append]; omega) | rfl))) w9 (Below.refl _ _)) ?_
  simp only [Act.put, List.setIfInBounds_toArray, List.set_cons_zero, List.set_cons_succ]
  refine headRun_val (fun w9 hW => (v_load (i := 3) hW rfl rfl rfl Try.underlying26 rfl (sz_of (n := 5) (by kernel_rfl) (by first | (simp only [ints_size, digs_length, List.length_replicate, List.length_cons, List.length_nil]; done) | (simp only [ints_size, digs_length, List.length_replicate, List.length_cons, List.length_nil, List.length_set, List.length_append]; omega) | rfl))) w9 (Below.refl _ _)) ?_
  simp only [Act.put, List.setIfInBounds_toArray, List.set_cons_zero, List.set_cons_succ]
  refine headRun_call (fun w1 => run_call rfl Try.call33) (fun w1 hW => HGg.out _) ?_
  simp only [Act.put, List.setIfInBounds_toArray, List.set_cons_zero, List.set_cons_succ]
  refine headRun_alloc (zs := ints .u64 (List.replicate 5 0)) rfl rfl (fun w => by kernel_rfl) ?_
  simp only [Act.put, List.setIfInBounds_toArray, List.set_cons_zero, List.set_cons_succ]
  refine headRun_alloc (zs := ints .u64 (List.replicate 5 0)) rfl rfl (fun w => by kernel_rfl) ?_
  simp only [Act.put, List.setIfInBounds_toArray, List.set_cons_zero, List.set_cons_succ]
  refine headRun_nil (endK2 ?_)
  intro g7 g8 w10 hE10
  clear hE9
  simp only [List.drop_succ_cons, List.drop_zero, Act.put, List.setIfInBounds_toArray, List.set_cons_zero, List.set_cons_succ]
  refine wl_step (st_store (i := 0) hE10 rfl rfl rfl rfl rfl (sz_of (n := 5) (by kernel_rfl) (by first | (simp only [ints_size, digs_length, List.length_replicate, List.length_cons, List.length_nil]; done) | (simp only [ints_size, digs_length, List.length_replicate, List.length_cons, List.length_nil, List.length_set, List.length_append]; omega) | rfl)) (by first | (simp only [ints_size, digs_length, List.length_replicate, List.length_cons, List.length_nil]; done) | (simp only [ints_size, digs_length, List.length_replicate, List.length_cons, List.length_nil, List.length_set, List.length_append]; omega) | rfl) (by first | exact ints_one _ _ | decide | simp [*]) ?_)
  intro w11 hE11
  clear hE10
  simp only [List.set_cons_zero, List.set_cons_succ] at hE11
  simp only [Act.put, List.setIfInBounds_toArray, List.set_cons_zero, List.set_cons_succ]
  refine wl_step (st_store (i := 1) hE11 rfl rfl rfl rfl rfl (sz_of (n := 5) (by kernel_rfl) (by first | (simp only [ints_size, digs_length, List.length_replicate, List.length_cons, List.length_nil]; done) | (simp only [ints_size, digs_length, List.length_replicate, List.length_cons, List.length_nil, List.length_set, List.length_append]; omega) | rfl)) (by first | (simp only [ints_size, digs_length, List.length_replicate, List.length_cons, List.length_nil]; done) | (simp only [ints_size, digs_length, List.length_replicate, List.length_cons, List.length_nil, List.length_set, List.length_append]; omega) | rfl) (by first | exact ints_one _ _ | decide | simp [*]) ?_)
  intro w12 hE12
  clear hE11
  simp only [List.set_cons_zero, List.set_cons_succ] at hE12
  simp only [Act.put, List.setIfInBounds_toArray, List.set_cons_zero, List.set_cons_succ]
  repeat ((fail_if_success (with_reducible show wpList _ _ _ (List.cons _ _) _ _)); (fail_if_success (with_reducible show Code.wp _ (Code.region _ _ true) _ _ _)); go_step)
  refine wp_region_env 6 (by kernel_rfl) (by kernel_rfl) (fun _ _ d _ _ h => by cases d <;> exact h) hE12 ?_
  refine headRun_val (fun w9 hW => (v_load (i := 6) hW rfl rfl rfl Try.underlying26 rfl (sz_of (n := 5) (by kernel_rfl) (by first | (simp only [ints_size, digs_length, List.length_replicate, List.length_cons, List.length_nil]; done) | (simp only [ints_size, digs_length, List.length_replicate, List.length_cons, List.length_nil, List.length_set, List.length_append]; omega) | rfl))) w9 (Below.refl _ _)) ?_
  simp only [Act.put, List.setIfInBounds_toArray, List.set_cons_zero, List.set_cons_succ]
  refine headRun_val (fun w9 hW => (v_load (i := 6) hW rfl rfl rfl Try.underlying26 rfl (sz_of (n := 5) (by kernel_rfl) (by first | (simp only [ints_size, digs_length, List.length_replicate, List.length_cons, List.length_nil]; done) | (simp only [ints_size, digs_length, List.length_replicate, List.length_cons, List.length_nil, List.length_set, List.length_append]; omega) | rfl))) w9 (Below.refl _ _)) ?_
  simp only [Act.put, List.setIfInBounds_toArray, List.set_cons_zero, List.set_cons_succ]
  refine headRun_call (fun w1 => run_call rfl Try.call35) (fun w1 hW => HGcc.out _) ?_
  simp only [Act.put, List.setIfInBounds_toArray, List.set_cons_zero, List.set_cons_succ]
  refine headRun_val (fun w9 hW => (v_load (i := 1) hW rfl rfl rfl Try.underlying26 rfl (sz_of (n := 5) (by kernel_rfl) (by first | (simp only [ints_size, digs_length, List.length_replicate, List.length_cons, List.length_nil]; done) | (simp only [ints_size, digs_length, List.length_replicate, List.length_cons, List.length_nil, List.length_set, List.length_append]; omega) | rfl))) w9 (Below.refl _ _)) ?_
  simp only [Act.put, List.setIfInBounds_toArray, List.set_cons_zero, List.set_cons_succ]
  refine headRun_call (fun w1 => run_call rfl Try.call35) (fun w1 hW => HGf.out _) ?_
  simp only [Act.put, List.setIfInBounds_toArray, List.set_cons_zero, List.set_cons_succ]
  refine headRun_alloc (zs := ints .u64 (List.replicate 5 0)) rfl rfl (fun w => by kernel_rfl) ?_
  simp only [Act.put, List.setIfInBounds_toArray, List.set_cons_zero, List.set_cons_succ]
  refine headRun_nil (endK1 ?_)
  intro g9 w13 hE13
  clear hE12
  simp only [List.drop_succ_cons, List.drop_zero, Act.put, List.setIfInBounds_toArray, List.set_cons_zero, List.set_cons_succ]
  refine wl_step (st_store (i := 0) hE13 rfl rfl rfl rfl rfl (sz_of (n := 5) (by kernel_rfl) (by first | (simp only [ints_size, digs_length, List.length_replicate, List.length_cons, List.length_nil]; done) | (simp only [ints_size, digs_length, List.length_replicate, List.length_cons, List.length_nil, List.length_set, List.length_append]; omega) | rfl)) (by first | (simp only [ints_size, digs_length, List.length_replicate, List.length_cons, List.length_nil]; done) | (simp only [ints_size, digs_length, List.length_replicate, List.length_cons, List.length_nil, List.length_set, List.length_append]; omega) | rfl) (by first | exact ints_one _ _ | decide | simp [*]) ?_)
  intro w14 hE14
  clear hE13
  simp only [List.set_cons_zero, List.set_cons_succ] at hE14
  simp only [Act.put, List.setIfInBounds_toArray, List.set_cons_zero, List.set_cons_succ]
  repeat ((fail_if_success (with_reducible show wpList _ _ _ (List.cons _ _) _ _)); (fail_if_success (with_reducible show Code.wp _ (Code.region _ _ true) _ _ _)); go_step)
  refine wp_region_B (n := 14) 13 (by kernel_rfl) rfl hE14 ?_
  intro w15 hb15 hE15
  clear hE14
  refine wpB_take (i := 0) (by kernel_rfl) rfl (by kernel_rfl) (fun _ _ _ h => h) rfl (v_load (i := 1) hE15 rfl rfl rfl Try.underlying26 rfl (sz_of (n := 5) (by kernel_rfl) (by first | (simp only [ints_size, digs_length, List.length_replicate, List.length_cons, List.length_nil]; done) | (simp only [ints_size, digs_length, List.length_replicate, List.length_cons, List.length_nil, List.length_set, List.length_append]; omega) | rfl))) ?_
  simp only [Act.put, List.setIfInBounds_toArray, List.set_cons_zero, List.set_cons_succ]
  refine wpB_take (i := 1) (by kernel_rfl) rfl (by kernel_rfl) (fun _ _ _ h => h) rfl (v_load (i := 0) hE15 rfl rfl rfl Try.underlying26 rfl (sz_of (n := 5) (by kernel_rfl) (by first | (simp only [ints_size, digs_length, List.length_replicate, List.length_cons, List.length_nil]; done) | (simp only [ints_size, digs_length, List.length_replicate, List.length_cons, List.length_nil, List.length_set, List.length_append]; omega) | rfl))) ?_
  simp only [Act.put, List.setIfInBounds_toArray, List.set_cons_zero, List.set_cons_succ]
  refine wpB_take (i := 3) (by kernel_rfl) rfl (by kernel_rfl) (fun _ _ _ h => h) rfl (v_load (i := 2) hE15 rfl rfl rfl Try.underlying26 rfl (sz_of (n := 5) (by kernel_rfl) (by first | (simp only [ints_size, digs_length, List.length_replicate, List.length_cons, List.length_nil]; done) | (simp only [ints_size, digs_length, List.length_replicate, List.length_cons, List.length_nil, List.length_set, List.length_append]; omega) | rfl))) ?_
  simp only [Act.put, List.setIfInBounds_toArray, List.set_cons_zero, List.set_cons_succ]
  refine wpB_take (i := 4) (by kernel_rfl) rfl (by kernel_rfl) (fun _ _ _ h => h) rfl (v_load (i := 3) hE15 rfl rfl rfl Try.underlying26 rfl (sz_of (n := 5) (by kernel_rfl) (by first | (simp only [ints_size, digs_length, List.length_replicate, List.length_cons, List.length_nil]; done) | (simp only [ints_size, digs_length, List.length_replicate, List.length_cons, List.length_nil, List.length_set, List.length_append]; omega) | rfl))) ?_
  simp only [Act.put, List.setIfInBounds_toArray, List.set_cons_zero, List.set_cons_succ]
  refine wpB_take (i := 6) (by kernel_rfl) rfl (by kernel_rfl) (fun _ _ _ h => h) rfl (v_load (i := 0) hE15 rfl rfl rfl Try.underlying26 rfl (sz_of (n := 5) (by kernel_rfl) (by first | (simp only [ints_size, digs_length, List.length_replicate, List.length_cons, List.length_nil]; done) | (simp only [ints_size, digs_length, List.length_replicate, List.length_cons, List.length_nil, List.length_set, List.length_append]; omega) | rfl))) ?_
  simp only [Act.put, List.setIfInBounds_toArray, List.set_cons_zero, List.set_cons_succ]
  refine wpB_take (i := 7) (by kernel_rfl) rfl (by kernel_rfl) (fun _ _ _ h => h) rfl (v_load (i := 2) hE15 rfl rfl rfl Try.underlying26 rfl (sz_of (n := 5) (by kernel_rfl) (by first | (simp only [ints_size, digs_length, List.length_replicate, List.length_cons, List.length_nil]; done) | (simp only [ints_size, digs_length, List.length_replicate, List.length_cons, List.length_nil, List.length_set, List.length_append]; omega) | rfl))) ?_
  simp only [Act.put, List.setIfInBounds_toArray, List.set_cons_zero, List.set_cons_succ]
  refine wpB_take (i := 9) (by kernel_rfl) rfl (by kernel_rfl) (fun _ _ _ h => h) rfl (v_load (i := 1) hE15 rfl rfl rfl Try.underlying26 rfl (sz_of (n := 5) (by kernel_rfl) (by first | (simp only [ints_size, digs_length, List.length_replicate, List.length_cons, List.length_nil]; done) | (simp only [ints_size, digs_length, List.length_replicate, List.length_cons, List.length_nil, List.length_set, List.length_append]; omega) | rfl))) ?_
  simp only [Act.put, List.setIfInBounds_toArray, List.set_cons_zero, List.set_cons_succ]
  refine wpB_take (i := 10) (by kernel_rfl) rfl (by kernel_rfl) (fun _ _ _ h => h) rfl (v_load (i := 3) hE15 rfl rfl rfl Try.underlying26 rfl (sz_of (n := 5) (by kernel_rfl) (by first | (simp only [ints_size, digs_length, List.length_replicate, List.length_cons, List.length_nil]; done) | (simp only [ints_size, digs_length, List.length_replicate, List.length_cons, List.length_nil, List.length_set, List.length_append]; omega) | rfl))) ?_
  simp only [Act.put, List.setIfInBounds_toArray, List.set_cons_zero, List.set_cons_succ]
  refine wpB_step (i := 2) (by kernel_rfl) rfl (st_gives hE15 rfl (run_call rfl Try.call34) (HGX.out _) ?_)
  intro w16 hb16 hE16
  clear hE15
  refine ⟨fun _ => hb16, ?_⟩
  simp only [Act.put, List.setIfInBounds_toArray, List.set_cons_zero, List.set_cons_succ]
  refine wpB_step (i := 5) (by kernel_rfl) rfl (st_gives hE16 rfl (run_call rfl Try.call34) (HGY.out _) ?_)
  intro w17 hb17 hE17
  clear hE16
  refine ⟨fun _ => hb17, ?_⟩
  simp only [Act.put, List.setIfInBounds_toArray, List.set_cons_zero, List.set_cons_succ]
  refine wpB_step (i := 8) (by kernel_rfl) rfl (st_gives hE17 rfl (run_call rfl Try.call34) (HGZ.out _) ?_)
  intro w18 hb18 hE18
  clear hE17
  refine ⟨fun _ => hb18, ?_⟩
  simp only [Act.put, List.setIfInBounds_toArray, List.set_cons_zero, List.set_cons_succ]
  refine wpB_step (i := 11) (by kernel_rfl) rfl (st_gives hE18 rfl (run_call rfl Try.call34) (HGT.out _) ?_)
  intro w19 hb19 hE19
  clear hE18
  refine ⟨fun _ => hb19, ?_⟩
  simp only [Act.put, List.setIfInBounds_toArray, List.set_cons_zero, List.set_cons_succ]
  refine wpB_take (i := 12) (by kernel_rfl) rfl (by kernel_rfl) (fun _ _ _ h => h) rfl (v_point [X, Y, Z, T] HL.out rfl (by simp only [List.map_cons, List.map_nil, List.zipIdx_cons, List.zipIdx_nil]; rfl) rfl H5.out) ?_
  simp only [Act.put, List.setIfInBounds_toArray, List.set_cons_zero, List.set_cons_succ]
  refine wpB_step (i := 13) (by kernel_rfl) rfl (st_store (i := 8) hE19 rfl rfl rfl rfl rfl (sz_of (n := 20) (by kernel_rfl) (by first | (simp only [ints_size, digs_length, List.length_replicate, List.length_cons, List.length_nil]; done) | (simp only [ints_size, digs_length, List.length_replicate, List.length_cons, List.length_nil, List.length_set, List.length_append]; omega) | rfl)) (by first | (simp only [ints_size, digs_length, List.length_replicate, List.length_cons, List.length_nil]; done) | (simp only [ints_size, digs_length, List.length_replicate, List.length_cons, List.length_nil, List.length_set, List.length_append]; omega) | rfl) (by first | exact ints_one _ _ | decide | simp [*]) ?_)
  intro w20 hE20
  clear hE19
  simp only [List.set_cons_zero, List.set_cons_succ] at hE20
  refine ⟨fun h => absurd h (by decide), ?_⟩
  simp only [Act.put, List.setIfInBounds_toArray, List.set_cons_zero, List.set_cons_succ]
  refine wpB_done (by kernel_rfl) ?_ _
  repeat ((fail_if_success (with_reducible show wpList _ _ _ (List.cons _ _) _ _)); (fail_if_success (with_reducible show Code.wp _ (Code.region _ _ true) _ _ _)); go_step)
  refine bodyPost_ret (results_cell_row rfl _ _ _ _ _ (0, 0) _ rfl (hE20.get (i := 8) rfl) Try.underlying28 rfl (sz_of (n := 20) (by kernel_rfl) (by first | (simp only [ints_size, digs_length, List.length_replicate, List.length_cons, List.length_nil]; done) | (simp only [ints_size, digs_length, List.length_replicate, List.length_cons, List.length_nil, List.length_set, List.length_append]; omega) | rfl))) rfl ⟨rfl, hE20.below⟩
end Go.Proofs.Ytmebjoehmheknaa
