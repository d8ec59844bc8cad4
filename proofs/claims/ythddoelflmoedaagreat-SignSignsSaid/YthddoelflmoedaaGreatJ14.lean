/-
  Layer 6: points: the sum, twice a point.
  Plain arithmetic: three numbers tell a point; their sum, and multiples; the base's order. No condition. No program in sight.
  Layer 6: points: whether two are the same, a point's bytes, the base.
-/
import Derived.Test.YthddoelflmoedaaGreatJ13
set_option linter.unusedVariables false
set_option linter.unusedSimpArgs false
namespace Go.Proofs.YthddoelflmoedaaGreat
open Go.RowKit
set_option maxRecDepth 100000

set_option maxRecDepth 100000 in
set_option maxHeartbeats 8000000 in
theorem PAdd_any {l m : List Nat} {P Q : Pt} (h : PRep l P) (h' : PRep m Q) : ∃ c, PRep c (padd P Q) ∧ ∀ w, Gives 53 #[pt l, pt m] w (pt c) := by
 obtain ⟨len, fx, fy, fz, ft, nz, ex, ey, et⟩ := h
 obtain ⟨len', fx', fy', fz', ft', nz', ex', ey', et'⟩ := h'
 obtain ⟨x, hx⟩ : ∃ x, (l.drop 0).take 5 = x := ⟨_, rfl⟩
 obtain ⟨y, hy⟩ : ∃ y, (l.drop 5).take 5 = y := ⟨_, rfl⟩
 obtain ⟨z, hz⟩ : ∃ z, (l.drop 10).take 5 = z := ⟨_, rfl⟩
 obtain ⟨t, ht⟩ : ∃ t, (l.drop 15).take 5 = t := ⟨_, rfl⟩
 obtain ⟨x', hx'⟩ : ∃ x, (m.drop 0).take 5 = x := ⟨_, rfl⟩
 obtain ⟨y', hy'⟩ : ∃ y, (m.drop 5).take 5 = y := ⟨_, rfl⟩
 obtain ⟨z', hz'⟩ : ∃ z, (m.drop 10).take 5 = z := ⟨_, rfl⟩
 obtain ⟨t', ht'⟩ : ∃ t, (m.drop 15).take 5 = t := ⟨_, rfl⟩
 rw [hx] at fx ex
 rw [hy] at fy ey
 rw [hz] at fz nz ex ey et
 rw [ht] at ft et
 rw [hx'] at fx' ex'
 rw [hy'] at fy' ey'
 rw [hz'] at fz' nz' ex' ey' et'
 rw [ht'] at ft' et'
 obtain ⟨a1, fa1, ea1, Ga1⟩ := Sub_K fy fx
 obtain ⟨a2, fa2, ea2, Ga2⟩ := Sub_K fy' fx'
 obtain ⟨a, fa, ea, Ga⟩ := Mul_K fa1 fa2
 obtain ⟨b1, fb1, eb1, Gb1⟩ := Add_K fy fx
 obtain ⟨b2, fb2, eb2, Gb2⟩ := Add_K fy' fx'
 obtain ⟨b, fb, eb, Gb⟩ := Mul_K fb1 fb2
 obtain ⟨k, fk', ek, Gk⟩ := factor_any
 obtain ⟨c1, fc1, ec1, Gc1⟩ := Mul_K ft fk'
 obtain ⟨c, fc, ec, Gc⟩ := Mul_K fc1 ft'
 obtain ⟨d1, fd1, ed1, Gd1⟩ := Add_K fz fz
 obtain ⟨d, fd, ed, Gd⟩ := Mul_K fd1 fz'
 obtain ⟨e, fe, ee, Ge⟩ := Sub_K fb fa
 obtain ⟨f, ff, ef, Gf⟩ := Sub_K fd fc
 obtain ⟨g, fg, eg, Gg⟩ := Add_K fd fc
 obtain ⟨hh, fh, eh, Gh⟩ := Add_K fb fa
 obtain ⟨X, fX, eX, GX⟩ := Mul_K fe ff
 obtain ⟨Y, fY, eY, GY⟩ := Mul_K fg fh
 obtain ⟨Z, fZ, eZ, GZ⟩ := Mul_K ff fg
 obtain ⟨T, fT, eT, GT⟩ := Mul_K fe fh
 have hR : PRep [X, Y, Z, T].flatten (padd P Q) := by
  rw [ea1, ea2, ex, ey, ex', ey'] at ea
  rw [eb1, eb2, ex, ey, ex', ey'] at eb
  rw [ec1, ek, et, et'] at ec
  rw [ed1] at ed
  obtain ⟨k1, k2⟩ := xadd_fg ec ed ef eg
  have hf0 : fk f ≠ 0 := by rw [k1]; exact K_mul_ne (z2_ne nz nz') (den_sub P Q)
  have hg0 : fk g ≠ 0 := by rw [k2]; exact K_mul_ne (z2_ne nz nz') (den_add P Q)
  have hX : fk X = (padd P Q).x * fk Z := by rw [eX, eZ]; exact xadd_x (padd_x P Q) ea eb ec ed ee ef eg eh
  have hY : fk Y = (padd P Q).y * fk Z := by rw [eY, eZ]; exact xadd_y (padd_y P Q) ea eb ec ed ee ef eg eh
  have hZ0 : fk Z ≠ 0 := by rw [eZ]; exact K_mul_ne hf0 hg0
  refine PRep_mk fX fY fZ fT hZ0 hX hY ?_
  refine K_cancel hZ0 ?_
  have h1 : fk T * fk Z = fk X * fk Y := by
   rw [eT, eZ, eX, eY]
   generalize fk e = E
   generalize fk f = F
   generalize fk g = G
   generalize fk hh = H
   clear ea eb ec ed ee ef eg eh
   grobner
  rw [h1, hX, hY]
  generalize (padd P Q).x = x3
  generalize (padd P Q).y = y3
  generalize fk Z = z3
  clear ea eb ec ed ee ef eg eh
  grobner
 have hr5 := rows5 fX.1 fY.1 fZ.1 fT.1
 obtain ⟨L, hL⟩ : ∃ L, [X, Y, Z, T].flatten = L := ⟨_, rfl⟩
 rw [hL] at hR
 refine ⟨L, hR, fun w => ?_⟩
 have lL := hR.len
 have lx := fx.1
 have Hx := Lib.hid hx
 clear hx fx
 have ly := fy.1
 have Hy := Lib.hid hy
 clear hy fy
 have lz := fz.1
 have Hz := Lib.hid hz
 clear hz fz
 have lt := ft.1
 have Ht := Lib.hid ht
 clear ht ft
 have lx' := fx'.1
 have Hx' := Lib.hid hx'
 clear hx' fx'
 have ly' := fy'.1
 have Hy' := Lib.hid hy'
 clear hy' fy'
 have lz' := fz'.1
 have Hz' := Lib.hid hz'
 clear hz' fz'
 have lt' := ft'.1
 have Ht' := Lib.hid ht'
 clear ht' ft'
 clear ex ey et ex' ey' et'
 have lk := fk'.1
 have HGk := Lib.hid Gk
 have la1 := fa1.1
 have HGa1 := Lib.hid Ga1
 clear Ga1 fa1 ea1
 have la2 := fa2.1
 have HGa2 := Lib.hid Ga2
 clear Ga2 fa2 ea2
 have la := fa.1
 have HGa := Lib.hid Ga
 clear Ga fa ea
 have lb1 := fb1.1
 have HGb1 := Lib.hid Gb1
 clear Gb1 fb1 eb1
 have lb2 := fb2.1
 have HGb2 := Lib.hid Gb2
 clear Gb2 fb2 eb2
 have lb := fb.1
 have HGb := Lib.hid Gb
 clear Gb fb eb
 have lc1 := fc1.1
 have HGc1 := Lib.hid Gc1
 clear Gc1 fc1 ec1
 have lc := fc.1
 have HGc := Lib.hid Gc
 clear Gc fc ec
 have ld1 := fd1.1
 have HGd1 := Lib.hid Gd1
 clear Gd1 fd1 ed1
 have ld := fd.1
 have HGd := Lib.hid Gd
 clear Gd fd ed
 have le := fe.1
 have HGe := Lib.hid Ge
 clear Ge fe ee
 have lf := ff.1
 have HGf := Lib.hid Gf
 clear Gf ff ef
 have lg := fg.1
 have HGg := Lib.hid Gg
 clear Gg fg eg
 have lh := fh.1
 have HGh := Lib.hid Gh
 clear Gh fh eh
 have lX := fX.1
 have HGX := Lib.hid GX
 clear GX fX eX
 have lY := fY.1
 have HGY := Lib.hid GY
 clear GY fY eY
 have lZ := fZ.1
 have HGZ := Lib.hid GZ
 clear GZ fZ eZ
 have lT := fT.1
 have HGT := Lib.hid GT
 clear GT fT eT
 have HL := Lib.hid hL
 have H5 := Lib.hid hr5
 clear hL hr5 hR nz nz' Gk fk' ek
 have hE0 := Env.nil w
 go_enter Tryz.func53, Tryz.ntmps53
 repeat ((fail_if_success refine sqx ?_); go_step)
 refine wl_step (st_boxA hE0 rfl rfl rfl ?_)
 intro g0 w1 hb1 hE1
 clear hE0
 simp only [qZ]
 refine wl_step (st_boxA hE1 rfl rfl rfl ?_)
 intro g1 w2 hb2 hE2
 clear hE1
 simp only [qZ]
 refine wl_step (sqA (ints .u64 (List.replicate 20 0)) hE2 ?_)
 intro g2 w3 hb3 hE3
 clear hE2
 simp only [qZ]
 repeat ((fail_if_success refine sqx ?_); go_step)
 refine wp_region_env 12 (by kernel_rfl) (by kernel_rfl) (fun _ _ d _ _ h => by cases d <;> exact h) hE3 ?_
 refine hqv (fun _ hW => (v_fieldB (s := 4) rfl rfl Tryz.underlying55 rfl (by kernel_rfl) rfl)) ?_
 refine hqv (fun _ hW => (v_loadPartE (i := 2) (n := 5) Hy.out hW rfl rfl rfl Tryz.underlying53 rfl (by kernel_rfl) (by omega))) ?_
 refine hqv (fun _ hW => (v_field0 (s := 4) rfl rfl Tryz.underlying55 rfl (by kernel_rfl) rfl)) ?_
 refine hqv (fun _ hW => (v_loadPartE (i := 2) (n := 5) Hx.out hW rfl rfl rfl Tryz.underlying53 rfl (by kernel_rfl) (by omega))) ?_
 refine headRun_call (fun w1 => run_call rfl Tryz.call72) (fun w1 hW => HGa1.out _) ?_
 simp only [qZ]
 refine hqv (fun _ hW => (v_fieldB (s := 4) rfl rfl Tryz.underlying55 rfl (by kernel_rfl) rfl)) ?_
 refine hqv (fun _ hW => (v_loadPartE (i := 1) (n := 5) Hy'.out hW rfl rfl rfl Tryz.underlying53 rfl (by kernel_rfl) (by omega))) ?_
 refine hqv (fun _ hW => (v_field0 (s := 4) rfl rfl Tryz.underlying55 rfl (by kernel_rfl) rfl)) ?_
 refine hqv (fun _ hW => (v_loadPartE (i := 1) (n := 5) Hx'.out hW rfl rfl rfl Tryz.underlying53 rfl (by kernel_rfl) (by omega))) ?_
 refine headRun_call (fun w1 => run_call rfl Tryz.call72) (fun w1 hW => HGa2.out _) ?_
 simp only [qZ]
 refine headRun_call (fun w1 => run_call rfl Tryz.call55) (fun w1 hW => HGa.out _) ?_
 simp only [qZ]
 refine headRun_alloc (zs := ints .u64 (List.replicate 5 0)) rfl rfl (fun w => by kernel_rfl) ?_
 simp only [qZ]
 refine headRun_nil (endK1 ?_)
 intro g3 w4 hE4
 clear hE3
 simp only [List.drop_succ_cons, List.drop_zero, Act.put, qpA, qpB, qpC]
 refine wl_step (sqS 0 5 hE4 ?_)
 intro w5 hE5
 clear hE4
 simp only [qpB, qpC] at hE5
 simp only [qZ]
 repeat ((fail_if_success refine sqx ?_); go_step)
 refine wp_region_env 12 (by kernel_rfl) (by kernel_rfl) (fun _ _ d _ _ h => by cases d <;> exact h) hE5 ?_
 refine hqv (fun _ hW => (v_fieldB (s := 4) rfl rfl Tryz.underlying55 rfl (by kernel_rfl) rfl)) ?_
 refine hqv (fun _ hW => (v_loadPartE (i := 3) (n := 5) Hy.out hW rfl rfl rfl Tryz.underlying53 rfl (by kernel_rfl) (by omega))) ?_
 refine hqv (fun _ hW => (v_field0 (s := 4) rfl rfl Tryz.underlying55 rfl (by kernel_rfl) rfl)) ?_
 refine hqv (fun _ hW => (v_loadPartE (i := 3) (n := 5) Hx.out hW rfl rfl rfl Tryz.underlying53 rfl (by kernel_rfl) (by omega))) ?_
 refine headRun_call (fun w1 => run_call rfl Tryz.call74) (fun w1 hW => HGb1.out _) ?_
 simp only [qZ]
 refine hqv (fun _ hW => (v_fieldB (s := 4) rfl rfl Tryz.underlying55 rfl (by kernel_rfl) rfl)) ?_
 refine hqv (fun _ hW => (v_loadPartE (i := 2) (n := 5) Hy'.out hW rfl rfl rfl Tryz.underlying53 rfl (by kernel_rfl) (by omega))) ?_
 refine hqv (fun _ hW => (v_field0 (s := 4) rfl rfl Tryz.underlying55 rfl (by kernel_rfl) rfl)) ?_
 refine hqv (fun _ hW => (v_loadPartE (i := 2) (n := 5) Hx'.out hW rfl rfl rfl Tryz.underlying53 rfl (by kernel_rfl) (by omega))) ?_
 refine headRun_call (fun w1 => run_call rfl Tryz.call74) (fun w1 hW => HGb2.out _) ?_
 simp only [qZ]
 refine headRun_call (fun w1 => run_call rfl Tryz.call55) (fun w1 hW => HGb.out _) ?_
 simp only [qZ]
 refine headRun_alloc (zs := ints .u64 (List.replicate 5 0)) rfl rfl (fun w => by kernel_rfl) ?_
 simp only [qZ]
 refine headRun_nil (endK1 ?_)
 intro g4 w6 hE6
 clear hE5
 simp only [List.drop_succ_cons, List.drop_zero, Act.put, qpA, qpB, qpC]
 refine wl_step (sqS 0 5 hE6 ?_)
 intro w7 hE7
 clear hE6
 simp only [qpB, qpC] at hE7
 simp only [qZ]
 repeat ((fail_if_success refine sqx ?_); go_step)
 refine wp_region_env 8 (by kernel_rfl) (by kernel_rfl) (fun _ _ d _ _ h => by cases d <;> exact h) hE7 ?_
 refine hqv (fun _ hW => (v_fieldB (s := 4) rfl rfl Tryz.underlying55 rfl (by kernel_rfl) rfl)) ?_
 refine hqv (fun _ hW => (v_loadPartE (i := 4) (n := 5) Ht.out hW rfl rfl rfl Tryz.underlying53 rfl (by kernel_rfl) (by omega))) ?_
 refine headRun_call (fun w1 => run_call rfl Tryz.call91) (fun w1 hW => HGk.out _) ?_
 simp only [qZ]
 refine headRun_call (fun w1 => run_call rfl Tryz.call55) (fun w1 hW => HGc1.out _) ?_
 simp only [qZ]
 refine hqv (fun _ hW => (v_fieldB (s := 4) rfl rfl Tryz.underlying55 rfl (by kernel_rfl) rfl)) ?_
 refine hqv (fun _ hW => (v_loadPartE (i := 3) (n := 5) Ht'.out hW rfl rfl rfl Tryz.underlying53 rfl (by kernel_rfl) (by omega))) ?_
 refine headRun_call (fun w1 => run_call rfl Tryz.call55) (fun w1 hW => HGc.out _) ?_
 simp only [qZ]
 refine headRun_alloc (zs := ints .u64 (List.replicate 5 0)) rfl rfl (fun w => by kernel_rfl) ?_
 simp only [qZ]
 refine headRun_nil (endK1 ?_)
 intro g5 w8 hE8
 clear hE7
 simp only [List.drop_succ_cons, List.drop_zero, Act.put, qpA, qpB, qpC]
 refine wl_step (sqS 0 5 hE8 ?_)
 intro w9 hE9
 clear hE8
 simp only [qpB, qpC] at hE9
 simp only [qZ]
 repeat ((fail_if_success refine sqx ?_); go_step)
 refine wp_region_env 9 (by kernel_rfl) (by kernel_rfl) (fun _ _ d _ _ h => by cases d <;> exact h) hE9 ?_
 refine hqv (fun _ hW => (v_fieldB (s := 4) rfl rfl Tryz.underlying55 rfl (by kernel_rfl) rfl)) ?_
 refine hqv (fun _ hW => (v_loadPartE (i := 5) (n := 5) Hz.out hW rfl rfl rfl Tryz.underlying53 rfl (by kernel_rfl) (by omega))) ?_
 refine hqv (fun _ hW => (v_fieldB (s := 4) rfl rfl Tryz.underlying55 rfl (by kernel_rfl) rfl)) ?_
 refine hqv (fun _ hW => (v_loadPartE (i := 5) (n := 5) Hz.out hW rfl rfl rfl Tryz.underlying53 rfl (by kernel_rfl) (by omega))) ?_
 refine headRun_call (fun w1 => run_call rfl Tryz.call74) (fun w1 hW => HGd1.out _) ?_
 simp only [qZ]
 refine hqv (fun _ hW => (v_fieldB (s := 4) rfl rfl Tryz.underlying55 rfl (by kernel_rfl) rfl)) ?_
 refine hqv (fun _ hW => (v_loadPartE (i := 4) (n := 5) Hz'.out hW rfl rfl rfl Tryz.underlying53 rfl (by kernel_rfl) (by omega))) ?_
 refine headRun_call (fun w1 => run_call rfl Tryz.call55) (fun w1 hW => HGd.out _) ?_
 simp only [qZ]
 refine headRun_alloc (zs := ints .u64 (List.replicate 5 0)) rfl rfl (fun w => by kernel_rfl) ?_
 simp only [qZ]
 refine headRun_nil (endK1 ?_)
 intro g6 w10 hE10
 clear hE9
 simp only [List.drop_succ_cons, List.drop_zero, Act.put, qpA, qpB, qpC]
 refine wl_step (sqS 0 5 hE10 ?_)
 intro w11 hE11
 clear hE10
 simp only [qpB, qpC] at hE11
 simp only [qZ]
 repeat ((fail_if_success refine sqx ?_); go_step)
 refine wp_region_env 16 (by kernel_rfl) (by kernel_rfl) (fun _ _ d _ _ h => by cases d <;> exact h) hE11 ?_
 refine hqv (fun _ hW => (vqL 2 5 hW Tryz.underlying53)) ?_
 refine hqv (fun _ hW => (vqL 3 5 hW Tryz.underlying53)) ?_
 refine headRun_call (fun w1 => run_call rfl Tryz.call72) (fun w1 hW => HGe.out _) ?_
 simp only [qZ]
 refine hqv (fun _ hW => (vqL 0 5 hW Tryz.underlying53)) ?_
 refine hqv (fun _ hW => (vqL 1 5 hW Tryz.underlying53)) ?_
 refine headRun_call (fun w1 => run_call rfl Tryz.call72) (fun w1 hW => HGf.out _) ?_
 simp only [qZ]
 refine hqv (fun _ hW => (vqL 0 5 hW Tryz.underlying53)) ?_
 refine hqv (fun _ hW => (vqL 1 5 hW Tryz.underlying53)) ?_
 refine headRun_call (fun w1 => run_call rfl Tryz.call74) (fun w1 hW => HGg.out _) ?_
 simp only [qZ]
 refine hqv (fun _ hW => (vqL 2 5 hW Tryz.underlying53)) ?_
 refine hqv (fun _ hW => (vqL 3 5 hW Tryz.underlying53)) ?_
 refine headRun_call (fun w1 => run_call rfl Tryz.call74) (fun w1 hW => HGh.out _) ?_
 simp only [qZ]
 refine headRun_alloc (zs := ints .u64 (List.replicate 5 0)) rfl rfl (fun w => by kernel_rfl) ?_
 simp only [qZ]
 refine headRun_alloc (zs := ints .u64 (List.replicate 5 0)) rfl rfl (fun w => by kernel_rfl) ?_
 simp only [qZ]
 refine headRun_alloc (zs := ints .u64 (List.replicate 5 0)) rfl rfl (fun w => by kernel_rfl) ?_
 simp only [qZ]
 refine headRun_alloc (zs := ints .u64 (List.replicate 5 0)) rfl rfl (fun w => by kernel_rfl) ?_
 simp only [qZ]
 refine headRun_nil (endK4 ?_)
 intro g7 g8 g9 g10 w12 hE12
 clear hE11
 simp only [List.drop_succ_cons, List.drop_zero, Act.put, qpA, qpB, qpC]
 refine wl_step (sqS 0 5 hE12 ?_)
 intro w13 hE13
 clear hE12
 simp only [qpB, qpC] at hE13
 simp only [qZ]
 refine wl_step (sqS 1 5 hE13 ?_)
 intro w14 hE14
 clear hE13
 simp only [qpB, qpC] at hE14
 simp only [qZ]
 refine wl_step (sqS 2 5 hE14 ?_)
 intro w15 hE15
 clear hE14
 simp only [qpB, qpC] at hE15
 simp only [qZ]
 refine wl_step (sqS 3 5 hE15 ?_)
 intro w16 hE16
 clear hE15
 simp only [qpB, qpC] at hE16
 simp only [qZ]
 repeat ((fail_if_success refine sqx ?_); go_step)
 refine wp_region_B (n := 14) 13 (by kernel_rfl) rfl hE16 ?_
 intro w17 hb17 hE17
 clear hE16
 refine tqB 0 rfl (vqL 0 5 hE17 Tryz.underlying53) ?_
 refine tqB 1 rfl (vqL 1 5 hE17 Tryz.underlying53) ?_
 refine tqB 3 rfl (vqL 2 5 hE17 Tryz.underlying53) ?_
 refine tqB 4 rfl (vqL 3 5 hE17 Tryz.underlying53) ?_
 refine tqB 6 rfl (vqL 1 5 hE17 Tryz.underlying53) ?_
 refine tqB 7 rfl (vqL 2 5 hE17 Tryz.underlying53) ?_
 refine tqB 9 rfl (vqL 0 5 hE17 Tryz.underlying53) ?_
 refine tqB 10 rfl (vqL 3 5 hE17 Tryz.underlying53) ?_
 refine sqB 2 rfl (st_gives hE17 rfl (run_call rfl Tryz.call55) (HGX.out _) ?_)
 intro w18 hb18 hE18
 clear hE17
 refine ⟨fun _ => hb18, ?_⟩
 simp only [qZ]
 refine sqB 5 rfl (st_gives hE18 rfl (run_call rfl Tryz.call55) (HGY.out _) ?_)
 intro w19 hb19 hE19
 clear hE18
 refine ⟨fun _ => hb19, ?_⟩
 simp only [qZ]
 refine sqB 8 rfl (st_gives hE19 rfl (run_call rfl Tryz.call55) (HGZ.out _) ?_)
 intro w20 hb20 hE20
 clear hE19
 refine ⟨fun _ => hb20, ?_⟩
 simp only [qZ]
 refine sqB 11 rfl (st_gives hE20 rfl (run_call rfl Tryz.call55) (HGT.out _) ?_)
 intro w21 hb21 hE21
 clear hE20
 refine ⟨fun _ => hb21, ?_⟩
 simp only [qZ]
 refine tqB 12 rfl (v_point [X, Y, Z, T] HL.out rfl (by simp only [List.map_cons, List.map_nil, List.zipIdx_cons, List.zipIdx_nil]; rfl) rfl H5.out) ?_
 refine sqB 13 rfl (sqS 8 20 hE21 ?_)
 intro w22 hE22
 clear hE21
 simp only [qpB, qpC] at hE22
 refine nqB ?_
 simp only [qZ]
 refine wpB_done (by kernel_rfl) ?_ _
 repeat ((fail_if_success refine sqx ?_); go_step)
 refine bodyPost_ret (results_cell_row rfl _ _ _ _ _ (0, 0) _ rfl (hE22.get (i := 8) rfl) Tryz.underlying55 rfl (szqA (n := 20))) rfl ⟨rfl, hE22.below⟩

set_option maxRecDepth 100000 in
set_option maxHeartbeats 8000000 in
theorem PDouble_any {l : List Nat} {P : Pt} (h : PRep l P) : ∃ c, PRep c (padd P P) ∧ ∀ w, Gives 52 #[pt l] w (pt c) := by
 obtain ⟨len, fx, fy, fz, ft, nz, ex, ey, et⟩ := h
 obtain ⟨x, hx⟩ : ∃ x, (l.drop 0).take 5 = x := ⟨_, rfl⟩
 obtain ⟨y, hy⟩ : ∃ y, (l.drop 5).take 5 = y := ⟨_, rfl⟩
 obtain ⟨z, hz⟩ : ∃ z, (l.drop 10).take 5 = z := ⟨_, rfl⟩
 rw [hx] at fx ex
 rw [hy] at fy ey
 rw [hz] at fz nz ex ey
 clear ft et
 obtain ⟨a, fa, ea, Ga⟩ := Mul_K fx fx
 obtain ⟨b, fb, eb, Gb⟩ := Mul_K fy fy
 obtain ⟨c, fc, ec, Gc⟩ := Mul_K fz fz
 obtain ⟨hh, fh, eh, Gh⟩ := Add_K fa fb
 obtain ⟨s, fs, es, Gs⟩ := Add_K fx fy
 obtain ⟨ss, fss, ess, Gss⟩ := Mul_K fs fs
 obtain ⟨e, fe, ee, Ge⟩ := Sub_K fh fss
 obtain ⟨g, fg, eg, Gg⟩ := Sub_K fa fb
 obtain ⟨cc, fcc, ecc, Gcc⟩ := Add_K fc fc
 obtain ⟨f, ff, ef, Gf⟩ := Add_K fcc fg
 obtain ⟨X, fX, eX, GX⟩ := Mul_K fe ff
 obtain ⟨Y, fY, eY, GY⟩ := Mul_K fg fh
 obtain ⟨Z, fZ, eZ, GZ⟩ := Mul_K ff fg
 obtain ⟨T, fT, eT, GT⟩ := Mul_K fe fh
 have hR : PRep [X, Y, Z, T].flatten (padd P P) := by
  rw [ex] at ea
  rw [ey] at eb
  rw [ex, ey] at es
  rw [ess] at ee
  rw [ecc] at ef
  obtain ⟨k1, k2, k3, k4⟩ := xdbl P.on (padd_x P P) (padd_y P P) ea eb ec eh es ee eg ef
  have hf0 : fk f ≠ 0 := by rw [k3]; exact K_mul_ne (K_mul_ne nz nz) (den_sub P P)
  have hg0 : fk g ≠ 0 := by rw [k4]; exact K_neg_ne (K_mul_ne (K_mul_ne nz nz) (den_add P P))
  have hX : fk X = (padd P P).x * fk Z := by rw [eX, eZ]; exact k1
  have hY : fk Y = (padd P P).y * fk Z := by rw [eY, eZ]; exact k2
  have hZ0 : fk Z ≠ 0 := by rw [eZ]; exact K_mul_ne hf0 hg0
  refine PRep_mk fX fY fZ fT hZ0 hX hY ?_
  refine K_cancel hZ0 ?_
  have h1 : fk T * fk Z = fk X * fk Y := by
   rw [eT, eZ, eX, eY]
   generalize fk e = E
   generalize fk f = F
   generalize fk g = G
   generalize fk hh = H
   clear ea eb ec eh es ee eg ef k1 k2 k3 k4
   grobner
  rw [h1, hX, hY]
  generalize (padd P P).x = x3
  generalize (padd P P).y = y3
  generalize fk Z = z3
  clear ea eb ec eh es ee eg ef k1 k2 k3 k4
  grobner
 have hr5 := rows5 fX.1 fY.1 fZ.1 fT.1
 obtain ⟨L, hL⟩ : ∃ L, [X, Y, Z, T].flatten = L := ⟨_, rfl⟩
 rw [hL] at hR
 refine ⟨L, hR, fun w => ?_⟩
 have lL := hR.len
 have lx := fx.1
 have Hx := Lib.hid hx
 clear hx fx
 have ly := fy.1
 have Hy := Lib.hid hy
 clear hy fy
 have lz := fz.1
 have Hz := Lib.hid hz
 clear hz fz
 clear ex ey
 have la := fa.1
 have HGa := Lib.hid Ga
 clear Ga fa ea
 have lb := fb.1
 have HGb := Lib.hid Gb
 clear Gb fb eb
 have lc := fc.1
 have HGc := Lib.hid Gc
 clear Gc fc ec
 have lh := fh.1
 have HGh := Lib.hid Gh
 clear Gh fh eh
 have ls := fs.1
 have HGs := Lib.hid Gs
 clear Gs fs es
 have lss := fss.1
 have HGss := Lib.hid Gss
 clear Gss fss ess
 have le := fe.1
 have HGe := Lib.hid Ge
 clear Ge fe ee
 have lg := fg.1
 have HGg := Lib.hid Gg
 clear Gg fg eg
 have lcc := fcc.1
 have HGcc := Lib.hid Gcc
 clear Gcc fcc ecc
 have lf := ff.1
 have HGf := Lib.hid Gf
 clear Gf ff ef
 have lX := fX.1
 have HGX := Lib.hid GX
 clear GX fX eX
 have lY := fY.1
 have HGY := Lib.hid GY
 clear GY fY eY
 have lZ := fZ.1
 have HGZ := Lib.hid GZ
 clear GZ fZ eZ
 have lT := fT.1
 have HGT := Lib.hid GT
 clear GT fT eT
 have HL := Lib.hid hL
 have H5 := Lib.hid hr5
 clear hL hr5 hR nz
 have hE0 := Env.nil w
 go_enter Tryz.func52, Tryz.ntmps52
 repeat ((fail_if_success refine sqx ?_); go_step)
 refine wl_step (st_boxA hE0 rfl rfl rfl ?_)
 intro g0 w1 hb1 hE1
 clear hE0
 simp only [qZ]
 refine wl_step (sqA (ints .u64 (List.replicate 20 0)) hE1 ?_)
 intro g1 w2 hb2 hE2
 clear hE1
 simp only [qZ]
 repeat ((fail_if_success refine sqx ?_); go_step)
 refine wp_region_env 18 (by kernel_rfl) (by kernel_rfl) (fun _ _ d _ _ h => by cases d <;> exact h) hE2 ?_
 refine hqv (fun _ hW => (v_field0 (s := 4) rfl rfl Tryz.underlying55 rfl (by kernel_rfl) rfl)) ?_
 refine hqv (fun _ hW => (v_loadPartE (i := 1) (n := 5) Hx.out hW rfl rfl rfl Tryz.underlying53 rfl (by kernel_rfl) (by omega))) ?_
 refine hqv (fun _ hW => (v_field0 (s := 4) rfl rfl Tryz.underlying55 rfl (by kernel_rfl) rfl)) ?_
 refine hqv (fun _ hW => (v_loadPartE (i := 1) (n := 5) Hx.out hW rfl rfl rfl Tryz.underlying53 rfl (by kernel_rfl) (by omega))) ?_
 refine headRun_call (fun w1 => run_call rfl Tryz.call55) (fun w1 hW => HGa.out _) ?_
 simp only [qZ]
 refine hqv (fun _ hW => (v_fieldB (s := 4) rfl rfl Tryz.underlying55 rfl (by kernel_rfl) rfl)) ?_
 refine hqv (fun _ hW => (v_loadPartE (i := 1) (n := 5) Hy.out hW rfl rfl rfl Tryz.underlying53 rfl (by kernel_rfl) (by omega))) ?_
 refine hqv (fun _ hW => (v_fieldB (s := 4) rfl rfl Tryz.underlying55 rfl (by kernel_rfl) rfl)) ?_
 refine hqv (fun _ hW => (v_loadPartE (i := 1) (n := 5) Hy.out hW rfl rfl rfl Tryz.underlying53 rfl (by kernel_rfl) (by omega))) ?_
 refine headRun_call (fun w1 => run_call rfl Tryz.call55) (fun w1 hW => HGb.out _) ?_
 simp only [qZ]
 refine hqv (fun _ hW => (v_fieldB (s := 4) rfl rfl Tryz.underlying55 rfl (by kernel_rfl) rfl)) ?_
 refine hqv (fun _ hW => (v_loadPartE (i := 1) (n := 5) Hz.out hW rfl rfl rfl Tryz.underlying53 rfl (by kernel_rfl) (by omega))) ?_
 refine hqv (fun _ hW => (v_fieldB (s := 4) rfl rfl Tryz.underlying55 rfl (by kernel_rfl) rfl)) ?_
 refine hqv (fun _ hW => (v_loadPartE (i := 1) (n := 5) Hz.out hW rfl rfl rfl Tryz.underlying53 rfl (by kernel_rfl) (by omega))) ?_
 refine headRun_call (fun w1 => run_call rfl Tryz.call55) (fun w1 hW => HGc.out _) ?_
 simp only [qZ]
 refine headRun_alloc (zs := ints .u64 (List.replicate 5 0)) rfl rfl (fun w => by kernel_rfl) ?_
 simp only [qZ]
 refine headRun_alloc (zs := ints .u64 (List.replicate 5 0)) rfl rfl (fun w => by kernel_rfl) ?_
 simp only [qZ]
 refine headRun_alloc (zs := ints .u64 (List.replicate 5 0)) rfl rfl (fun w => by kernel_rfl) ?_
 simp only [qZ]
 refine headRun_nil (endK3 ?_)
 intro g2 g3 g4 w3 hE3
 clear hE2
 simp only [List.drop_succ_cons, List.drop_zero, Act.put, qpA, qpB, qpC]
 refine wl_step (sqS 0 5 hE3 ?_)
 intro w4 hE4
 clear hE3
 simp only [qpB, qpC] at hE4
 simp only [qZ]
 refine wl_step (sqS 1 5 hE4 ?_)
 intro w5 hE5
 clear hE4
 simp only [qpB, qpC] at hE5
 simp only [qZ]
 refine wl_step (sqS 2 5 hE5 ?_)
 intro w6 hE6
 clear hE5
 simp only [qpB, qpC] at hE6
 simp only [qZ]
 repeat ((fail_if_success refine sqx ?_); go_step)
 refine wp_region_env 10 (by kernel_rfl) (by kernel_rfl) (fun _ _ d _ _ h => by cases d <;> exact h) hE6 ?_
 refine hqv (fun _ hW => (vqL 0 5 hW Tryz.underlying53)) ?_
 refine hqv (fun _ hW => (vqL 1 5 hW Tryz.underlying53)) ?_
 refine headRun_call (fun w1 => run_call rfl Tryz.call74) (fun w1 hW => HGh.out _) ?_
 simp only [qZ]
 refine hqv (fun _ hW => (v_field0 (s := 4) rfl rfl Tryz.underlying55 rfl (by kernel_rfl) rfl)) ?_
 refine hqv (fun _ hW => (v_loadPartE (i := 4) (n := 5) Hx.out hW rfl rfl rfl Tryz.underlying53 rfl (by kernel_rfl) (by omega))) ?_
 refine hqv (fun _ hW => (v_fieldB (s := 4) rfl rfl Tryz.underlying55 rfl (by kernel_rfl) rfl)) ?_
 refine hqv (fun _ hW => (v_loadPartE (i := 4) (n := 5) Hy.out hW rfl rfl rfl Tryz.underlying53 rfl (by kernel_rfl) (by omega))) ?_
 refine headRun_call (fun w1 => run_call rfl Tryz.call74) (fun w1 hW => HGs.out _) ?_
 simp only [qZ]
 refine headRun_alloc (zs := ints .u64 (List.replicate 5 0)) rfl rfl (fun w => by kernel_rfl) ?_
 simp only [qZ]
 refine headRun_alloc (zs := ints .u64 (List.replicate 5 0)) rfl rfl (fun w => by kernel_rfl) ?_
 simp only [qZ]
 refine headRun_nil (endK2 ?_)
 intro g5 g6 w7 hE7
 clear hE6
 simp only [List.drop_succ_cons, List.drop_zero, Act.put, qpA, qpB, qpC]
 refine wl_step (sqS 0 5 hE7 ?_)
 intro w8 hE8
 clear hE7
 simp only [qpB, qpC] at hE8
 simp only [qZ]
 refine wl_step (sqS 1 5 hE8 ?_)
 intro w9 hE9
 clear hE8
 simp only [qpB, qpC] at hE9
 simp only [qZ]
 repeat ((fail_if_success refine sqx ?_); go_step)
 refine wp_region_env 10 (by kernel_rfl) (by kernel_rfl) (fun _ _ d _ _ h => by cases d <;> exact h) hE9 ?_
 refine hqv (fun _ hW => (vqL 0 5 hW Tryz.underlying53)) ?_
 refine hqv (fun _ hW => (vqL 1 5 hW Tryz.underlying53)) ?_
 refine hqv (fun _ hW => (vqL 1 5 hW Tryz.underlying53)) ?_
 refine headRun_call (fun w1 => run_call rfl Tryz.call55) (fun w1 hW => HGss.out _) ?_
 simp only [qZ]
 refine headRun_call (fun w1 => run_call rfl Tryz.call72) (fun w1 hW => HGe.out _) ?_
 simp only [qZ]
 refine hqv (fun _ hW => (vqL 2 5 hW Tryz.underlying53)) ?_
 refine hqv (fun _ hW => (vqL 3 5 hW Tryz.underlying53)) ?_
 refine headRun_call (fun w1 => run_call rfl Tryz.call72) (fun w1 hW => HGg.out _) ?_
 simp only [qZ]
 refine headRun_alloc (zs := ints .u64 (List.replicate 5 0)) rfl rfl (fun w => by kernel_rfl) ?_
 simp only [qZ]
 refine headRun_alloc (zs := ints .u64 (List.replicate 5 0)) rfl rfl (fun w => by kernel_rfl) ?_
 simp only [qZ]
 refine headRun_nil (endK2 ?_)
 intro g7 g8 w10 hE10
 clear hE9
 simp only [List.drop_succ_cons, List.drop_zero, Act.put, qpA, qpB, qpC]
 refine wl_step (sqS 0 5 hE10 ?_)
 intro w11 hE11
 clear hE10
 simp only [qpB, qpC] at hE11
 simp only [qZ]
 refine wl_step (sqS 1 5 hE11 ?_)
 intro w12 hE12
 clear hE11
 simp only [qpB, qpC] at hE12
 simp only [qZ]
 repeat ((fail_if_success refine sqx ?_); go_step)
 refine wp_region_env 6 (by kernel_rfl) (by kernel_rfl) (fun _ _ d _ _ h => by cases d <;> exact h) hE12 ?_
 refine hqv (fun _ hW => (vqL 6 5 hW Tryz.underlying53)) ?_
 refine hqv (fun _ hW => (vqL 6 5 hW Tryz.underlying53)) ?_
 refine headRun_call (fun w1 => run_call rfl Tryz.call74) (fun w1 hW => HGcc.out _) ?_
 simp only [qZ]
 refine hqv (fun _ hW => (vqL 1 5 hW Tryz.underlying53)) ?_
 refine headRun_call (fun w1 => run_call rfl Tryz.call74) (fun w1 hW => HGf.out _) ?_
 simp only [qZ]
 refine headRun_alloc (zs := ints .u64 (List.replicate 5 0)) rfl rfl (fun w => by kernel_rfl) ?_
 simp only [qZ]
 refine headRun_nil (endK1 ?_)
 intro g9 w13 hE13
 clear hE12
 simp only [List.drop_succ_cons, List.drop_zero, Act.put, qpA, qpB, qpC]
 refine wl_step (sqS 0 5 hE13 ?_)
 intro w14 hE14
 clear hE13
 simp only [qpB, qpC] at hE14
 simp only [qZ]
 repeat ((fail_if_success refine sqx ?_); go_step)
 refine wp_region_B (n := 14) 13 (by kernel_rfl) rfl hE14 ?_
 intro w15 hb15 hE15
 clear hE14
 refine tqB 0 rfl (vqL 1 5 hE15 Tryz.underlying53) ?_
 refine tqB 1 rfl (vqL 0 5 hE15 Tryz.underlying53) ?_
 refine tqB 3 rfl (vqL 2 5 hE15 Tryz.underlying53) ?_
 refine tqB 4 rfl (vqL 3 5 hE15 Tryz.underlying53) ?_
 refine tqB 6 rfl (vqL 0 5 hE15 Tryz.underlying53) ?_
 refine tqB 7 rfl (vqL 2 5 hE15 Tryz.underlying53) ?_
 refine tqB 9 rfl (vqL 1 5 hE15 Tryz.underlying53) ?_
 refine tqB 10 rfl (vqL 3 5 hE15 Tryz.underlying53) ?_
 refine sqB 2 rfl (st_gives hE15 rfl (run_call rfl Tryz.call55) (HGX.out _) ?_)
 intro w16 hb16 hE16
 clear hE15
 refine ⟨fun _ => hb16, ?_⟩
 simp only [qZ]
 refine sqB 5 rfl (st_gives hE16 rfl (run_call rfl Tryz.call55) (HGY.out _) ?_)
 intro w17 hb17 hE17
 clear hE16
 refine ⟨fun _ => hb17, ?_⟩
 simp only [qZ]
 refine sqB 8 rfl (st_gives hE17 rfl (run_call rfl Tryz.call55) (HGZ.out _) ?_)
 intro w18 hb18 hE18
 clear hE17
 refine ⟨fun _ => hb18, ?_⟩
 simp only [qZ]
 refine sqB 11 rfl (st_gives hE18 rfl (run_call rfl Tryz.call55) (HGT.out _) ?_)
 intro w19 hb19 hE19
 clear hE18
 refine ⟨fun _ => hb19, ?_⟩
 simp only [qZ]
 refine tqB 12 rfl (v_point [X, Y, Z, T] HL.out rfl (by simp only [List.map_cons, List.map_nil, List.zipIdx_cons, List.zipIdx_nil]; rfl) rfl H5.out) ?_
 refine sqB 13 rfl (sqS 8 20 hE19 ?_)
 intro w20 hE20
 clear hE19
 simp only [qpB, qpC] at hE20
 refine nqB ?_
 simp only [qZ]
 refine wpB_done (by kernel_rfl) ?_ _
 repeat ((fail_if_success refine sqx ?_); go_step)
 refine bodyPost_ret (results_cell_row rfl _ _ _ _ _ (0, 0) _ rfl (hE20.get (i := 8) rfl) Tryz.underlying55 rfl (szqA (n := 20))) rfl ⟨rfl, hE20.below⟩
end Go.Proofs.YthddoelflmoedaaGreat
namespace Go.Proofs.YthddoelflmoedaaGreat
open Go.RowKit
set_option maxRecDepth 100000

structure RRep (X Y Z : Nat) (P : Pt) : Prop where
 lx : X < pN
 ly : Y < pN
 lz : Z < pN
 nz : kk pN Z ≠ 0
 ex : kk pN X = P.x * kk pN Z
 ey : kk pN Y = P.y * kk pN Z
def raF (X1 Y1 Z1 X2 Y2 Z2 : Nat) : Nat := (Z1 * Z2 % pN * (Z1 * Z2 % pN) % pN + dN * (X1 * X2 % pN * (Y1 * Y2 % pN) % pN) % pN) % pN
def raG (X1 Y1 Z1 X2 Y2 Z2 : Nat) : Nat := (Z1 * Z2 % pN * (Z1 * Z2 % pN) % pN + (pN - dN * (X1 * X2 % pN * (Y1 * Y2 % pN) % pN) % pN)) % pN
def raX (X1 Y1 Z1 X2 Y2 Z2 : Nat) : Nat := (X1 * Y2 % pN + Y1 * X2 % pN) % pN * (Z1 * Z2 % pN) % pN * raG X1 Y1 Z1 X2 Y2 Z2 % pN
def raY (X1 Y1 Z1 X2 Y2 Z2 : Nat) : Nat := (Y1 * Y2 % pN + X1 * X2 % pN) % pN * (Z1 * Z2 % pN) % pN * raF X1 Y1 Z1 X2 Y2 Z2 % pN
def raZ (X1 Y1 Z1 X2 Y2 Z2 : Nat) : Nat := raF X1 Y1 Z1 X2 Y2 Z2 * raG X1 Y1 Z1 X2 Y2 Z2 % pN
theorem ra_ok {X1 Y1 Z1 X2 Y2 Z2 : Nat} {P Q : Pt} (h : RRep X1 Y1 Z1 P) (h' : RRep X2 Y2 Z2 Q) : RRep (raX X1 Y1 Z1 X2 Y2 Z2) (raY X1 Y1 Z1 X2 Y2 Z2) (raZ X1 Y1 Z1 X2 Y2 Z2) (padd P Q) := by
 have hF : kk pN (raF X1 Y1 Z1 X2 Y2 Z2) = kk pN Z1 * kk pN Z2 * (kk pN Z1 * kk pN Z2) + dK * (P.x * kk pN Z1 * (Q.x * kk pN Z2) * (P.y * kk pN Z1 * (Q.y * kk pN Z2))) := by
  unfold raF dK
  rw [kk_mod, kk_add, kk_mod, kk_mod, kk_mul, kk_mul, kk_mod, kk_mod, kk_mul, kk_mul, kk_mod, kk_mod, kk_mul, kk_mul, h.ex, h.ey, h'.ex, h'.ey]
 have hG : kk pN (raG X1 Y1 Z1 X2 Y2 Z2) = kk pN Z1 * kk pN Z2 * (kk pN Z1 * kk pN Z2) - dK * (P.x * kk pN Z1 * (Q.x * kk pN Z2) * (P.y * kk pN Z1 * (Q.y * kk pN Z2))) := by
  unfold raG dK
  rw [kk_mod, kk_add, kk_neg (Nat.le_of_lt (Nat.mod_lt _ pos_pN)), kk_mod, kk_mod, kk_mul, kk_mul, kk_mod, kk_mod, kk_mul, kk_mul, kk_mod, kk_mod, kk_mul, kk_mul, h.ex, h.ey, h'.ex, h'.ey]
  exact (f_sub _ _).symm
 obtain ⟨k1, k2, k3, k4⟩ := radd (padd_x P Q) (padd_y P Q) (z1 := kk pN Z1) (z2 := kk pN Z2) rfl rfl rfl rfl rfl rfl rfl hF hG
 have f0 : kk pN (raF X1 Y1 Z1 X2 Y2 Z2) ≠ 0 := by rw [k3]; exact K_mul_ne (K_mul_ne (K_mul_ne h.nz h'.nz) (K_mul_ne h.nz h'.nz)) (den_add P Q)
 have g0 : kk pN (raG X1 Y1 Z1 X2 Y2 Z2) ≠ 0 := by rw [k4]; exact K_mul_ne (K_mul_ne (K_mul_ne h.nz h'.nz) (K_mul_ne h.nz h'.nz)) (den_sub P Q)
 have hZ : kk pN (raZ X1 Y1 Z1 X2 Y2 Z2) = kk pN (raF X1 Y1 Z1 X2 Y2 Z2) * kk pN (raG X1 Y1 Z1 X2 Y2 Z2) := by
  unfold raZ
  rw [kk_mod, kk_mul]
 refine ⟨Nat.mod_lt _ pos_pN, Nat.mod_lt _ pos_pN, Nat.mod_lt _ pos_pN, ?_, ?_, ?_⟩
 ·rw [hZ]
  exact K_mul_ne f0 g0
 ·rw [hZ]
  refine Eq.trans ?_ k1
  unfold raX
  rw [kk_mod, kk_mul, kk_mod, kk_mul, kk_mod, kk_mod, kk_add, kk_mod, kk_mod, kk_mul, kk_mul, kk_mul, h.ex, h.ey, h'.ex, h'.ey]
 ·rw [hZ]
  refine Eq.trans ?_ k2
  unfold raY
  rw [kk_mod, kk_mul, kk_mod, kk_mul, kk_mod, kk_mod, kk_add, kk_mod, kk_mod, kk_mul, kk_mul, kk_mul, h.ex, h.ey, h'.ex, h'.ey]
def rmul : Nat → Nat → Nat × Nat × Nat → Nat × Nat × Nat → Nat × Nat × Nat
 | 0, _, _, o => o
 | f + 1, n, p, o => rmul f (n / 2) (raX p.1 p.2.1 p.2.2 p.1 p.2.1 p.2.2, raY p.1 p.2.1 p.2.2 p.1 p.2.1 p.2.2, raZ p.1 p.2.1 p.2.2 p.1 p.2.1 p.2.2)
   (if n % 2 = 1 then (raX o.1 o.2.1 o.2.2 p.1 p.2.1 p.2.2, raY o.1 o.2.1 o.2.2 p.1 p.2.1 p.2.2, raZ o.1 o.2.1 o.2.2 p.1 p.2.1 p.2.2) else o)
theorem rmul_ok : ∀ (f n : Nat) (p o : Nat × Nat × Nat) (P Q : Pt), RRep p.1 p.2.1 p.2.2 P → RRep o.1 o.2.1 o.2.2 Q → n < 2 ^ f → RRep (rmul f n p o).1 (rmul f n p o).2.1 (rmul f n p o).2.2 (padd Q (smul n P))
 | 0, n, p, o, P, Q, hp, ho, hn => by
  have : n = 0 := by rw [Nat.pow_zero] at hn; omega
  subst this
  have e : padd Q (smul 0 P) = Q := padd_zero Q
  rw [e]
  exact ho
 | f + 1, n, p, o, P, Q, hp, ho, hn => by
  have hd := ra_ok hp hp
  have hn2 : n / 2 < 2 ^ f := by rw [Nat.pow_succ] at hn; omega
  have e2 : smul (n / 2) (padd P P) = smul (2 * (n / 2)) P := by
   have : padd P P = smul 2 P := by
    show padd P P = padd (smul 1 P) P
    rw [smul_one]
   rw [this, ← smul_mul]
  unfold rmul
  by_cases h1 : n % 2 = 1
  ·rw [if_pos h1]
   have := rmul_ok f (n / 2) (raX p.1 p.2.1 p.2.2 p.1 p.2.1 p.2.2, raY p.1 p.2.1 p.2.2 p.1 p.2.1 p.2.2, raZ p.1 p.2.1 p.2.2 p.1 p.2.1 p.2.2) (raX o.1 o.2.1 o.2.2 p.1 p.2.1 p.2.2, raY o.1 o.2.1 o.2.2 p.1 p.2.1 p.2.2, raZ o.1 o.2.1 o.2.2 p.1 p.2.1 p.2.2) (padd P P) (padd Q P) hd (ra_ok ho hp) hn2
   have e : padd (padd Q P) (smul (n / 2) (padd P P)) = padd Q (smul n P) := by
    rw [e2, padd_assoc, padd_comm P, ← smul_succ]
    have : 2 * (n / 2) + 1 = n := by omega
    rw [this]
   rw [← e]
   exact this
  ·rw [if_neg h1]
   have := rmul_ok f (n / 2) (raX p.1 p.2.1 p.2.2 p.1 p.2.1 p.2.2, raY p.1 p.2.1 p.2.2 p.1 p.2.1 p.2.2, raZ p.1 p.2.1 p.2.2 p.1 p.2.1 p.2.2) o (padd P P) Q hd ho hn2
   have e : 2 * (n / 2) = n := by omega
   rw [e2, e] at this
   exact this
def bX : Nat := 15112221349535400772501151409588531511454012693041857206046113283949847762202
def bY : Nat := 46316835694926478169428394003475163141307993866256225615783033603165251855960
theorem bX_lt : bX < pN := of_decide_eq_true (by kernel_rfl)
theorem bY_lt : bY < pN := of_decide_eq_true (by kernel_rfl)
def baseP : Pt := ⟨kk pN bX, kk pN bY, on_of (Y := bY) (x := bX) (by kernel_rfl)⟩
theorem RRep_base : RRep bX bY 1 baseP := ⟨bX_lt, bY_lt, by decide, by rw [kk_one]; exact one_ne, by rw [kk_one]; exact (f_mul_one _).symm, by rw [kk_one]; exact (f_mul_one _).symm⟩
theorem RRep_zero : RRep 0 1 1 pzero := ⟨pos_pN, by decide, by decide, by rw [kk_one]; exact one_ne, by rw [kk_one, kk_zero]; exact (f_mul_one _).symm, by rw [kk_one]; exact (f_mul_one _).symm⟩
def ordN : Nat := 7237005577332262213973186563042994240857116359379907606001950938285454250989
theorem ord_run : rmul 253 ordN (bX, bY, 1) (0, 1, 1) = (0, 3233600088156918026318815990930732281525745574959576665983848188020301178520, 3233600088156918026318815990930732281525745574959576665983848188020301178520) := by kernel_rfl
theorem ord_base : smul ordN baseP = pzero := by
 have h := rmul_ok 253 ordN (bX, bY, 1) (0, 1, 1) baseP pzero RRep_base RRep_zero (of_decide_eq_true (by kernel_rfl))
 rw [ord_run, zero_padd] at h
 have ex := h.ex
 have ey := h.ey
 rw [kk_zero] at ex
 refine Pt.same ?_ ?_
 ·rcases K_euclid ex.symm with h1 | h1
  ·exact h1
  ·exact absurd h1 h.nz
 ·refine K_cancel h.nz ?_
  exact ey.symm.trans (f_one_mul _).symm
end Go.Proofs.YthddoelflmoedaaGreat
namespace Go.Proofs.YthddoelflmoedaaGreat
open Go.RowKit
set_option maxRecDepth 100000

def encB (P : Pt) : List Nat := digs 256 32 (encN P)
theorem half_pow : (57896044618658097711785492504343953926634992332820282019728792003956564819968 : Nat) = 256 ^ 31 * 128 := by decide
theorem top_digit {v : Nat} (h : v < 57896044618658097711785492504343953926634992332820282019728792003956564819968) : (digs 256 32 v).getD 31 0 = v / 256 ^ 31 ∧ v / 256 ^ 31 < 128 := by
 have h1 : v / 256 ^ 31 < 128 := Nat.div_lt_of_lt_mul (half_pow ▸ h)
 refine ⟨?_, h1⟩
 rw [digs_getD _ _ _ _ (by decide)]
 exact Nat.mod_eq_of_lt (by omega)
theorem set_top {v : Nat} (h : v < 57896044618658097711785492504343953926634992332820282019728792003956564819968) : (digs 256 32 v).set 31 (v / 256 ^ 31 + 128) = digs 256 32 (v + 57896044618658097711785492504343953926634992332820282019728792003956564819968) := by
 obtain ⟨h0, h1⟩ := top_digit h
 rw [digs_getD _ _ _ _ (by decide)] at h0
 have hb : (256 : Nat) ^ 32 = 57896044618658097711785492504343953926634992332820282019728792003956564819968 + 57896044618658097711785492504343953926634992332820282019728792003956564819968 := by decide
 refine digs_set (by decide) (by decide) (by omega) (by omega) (by omega) ?_
 rw [h0, Nat.mul_add, half_pow]
 omega
theorem or_128 {n : Nat} (h : n < 128) : n ||| 128 = n + 128 := by
 have := Nat.two_pow_add_eq_or_of_lt (i := 7) (b := n) h 1
 rw [show (2 : Nat) ^ 7 * 1 = 128 from rfl] at this
 rw [Nat.or_comm, ← this, Nat.add_comm]
theorem lt_half {v : Nat} (h : v < pN) : v < 57896044618658097711785492504343953926634992332820282019728792003956564819968 := Nat.lt_trans h (by decide)
theorem val_kk {n : Nat} {x : Fin pN} (h : kk pN n = x) : n % pN = x.val := by
 rw [← h]
 rfl
theorem K_quot {x X z i : Fin pN} (e : x = X * z) (h : z * i = 1) : x * i = X := by
 rw [e]
 have : X * z * i = X * (z * i) := by grobner
 rw [this, h]
 grobner

set_option maxRecDepth 100000 in
set_option maxHeartbeats 4000000 in
theorem PBytes_any {l : List Nat} {P : Pt} (h : PRep l P) (w : World) : Gives 19 #[pt l] w (.agg (ints .u8 (encB P))) := by
 obtain ⟨len, fx, fy, fz, ft, nz, ex, ey, et⟩ := h
 obtain ⟨x, hx⟩ : ∃ x, (l.drop 0).take 5 = x := ⟨_, rfl⟩
 obtain ⟨y, hy⟩ : ∃ y, (l.drop 5).take 5 = y := ⟨_, rfl⟩
 obtain ⟨z, hz⟩ : ∃ z, (l.drop 10).take 5 = z := ⟨_, rfl⟩
 rw [hx] at fx ex
 rw [hy] at fy ey
 rw [hz] at fz nz ex ey
 clear ft et
 obtain ⟨i, fi, ei, Gi⟩ := Invert_K fz
 obtain ⟨a, fa, ea, Ga⟩ := Mul_K fy fi
 obtain ⟨b, fb, eb, Gb⟩ := Mul_K fx fi
 have hi : fk z * fk i = 1 := by rw [ei]; exact K_inv nz
 rw [K_quot ey hi] at ea
 rw [K_quot ex hi] at eb
 have hB := fun w => Bytes_any fa w
 have hO := fun w => Odd_any fb w
 rw [val_kk ea] at hB
 rw [val_kk eb] at hO
 have hY := lt_half P.y.isLt
 have he : encB P = digs 256 32 (P.y.val + 57896044618658097711785492504343953926634992332820282019728792003956564819968 * (P.x.val % 2)) := rfl
 rw [he]
 obtain ⟨Y, hYe⟩ : ∃ Y, P.y.val = Y := ⟨_, rfl⟩
 obtain ⟨X, hXe⟩ : ∃ X, P.x.val = X := ⟨_, rfl⟩
 rw [hYe] at hB hY ⊢
 rw [hXe] at hO ⊢
 obtain ⟨ht, htl⟩ := top_digit hY
 have hs := set_top hY
 obtain ⟨T, hT⟩ : ∃ T, Y / 256 ^ 31 = T := ⟨_, rfl⟩
 rw [hT] at ht hs htl
 have hor : T ||| 128 = T + 128 := or_128 htl
 have hT8 : T < 256 := by omega
 have lx := fx.1
 have Hx := Lib.hid hx
 clear hx fx
 have ly := fy.1
 have Hy := Lib.hid hy
 clear hy fy
 have lz := fz.1
 have Hz := Lib.hid hz
 clear hz fz
 clear ex ey nz
 have li := fi.1
 have HGi := Lib.hid Gi
 clear Gi fi ei
 have la := fa.1
 have HGa := Lib.hid Ga
 clear Ga fa ea
 have lb := fb.1
 have HGb := Lib.hid Gb
 clear Gb fb eb
 have HB := Lib.hid hB
 have HO := Lib.hid hO
 have Ht := Lib.hid ht
 have Hs := Lib.hid hs
 have Hor := Lib.hid hor
 clear hB hO ht hs hor hi he hYe hXe hT hY
 have hdY := digs_length 256 32 Y
 have hE0 := Env.nil w
 go_enter Tryz.func19, Tryz.ntmps19
 repeat ((fail_if_success refine sqx ?_); go_step)
 refine wl_step (st_boxA hE0 rfl rfl rfl ?_)
 intro g0 w1 hb1 hE1
 clear hE0
 simp only [qZ]
 refine wl_step (sqA (ints .u8 (List.replicate 32 0)) hE1 ?_)
 intro g1 w2 hb2 hE2
 clear hE1
 simp only [qZ]
 repeat ((fail_if_success refine sqx ?_); go_step)
 refine wqv (v_fieldB (s := 4) rfl rfl Tryz.underlying55 rfl (by kernel_rfl) rfl) ?_
 refine wqv (v_loadPartE (i := 1) (n := 5) Hz.out hE2 rfl rfl rfl Tryz.underlying53 rfl (by kernel_rfl) (by omega)) ?_
 refine wl_step (st_gives hE2 rfl (run_call rfl Tryz.call54) (HGi.out _) ?_)
 intro w3 hb3 hE3
 clear hE2
 simp only [qZ]
 refine wl_step (sqA (ints .u64 (List.replicate 5 0)) hE3 ?_)
 intro g2 w4 hb4 hE4
 clear hE3
 simp only [qZ]
 refine wl_step (sqS 0 5 hE4 ?_)
 intro w5 hE5
 clear hE4
 simp only [qpB, qpC] at hE5
 simp only [qZ]
 repeat ((fail_if_success refine sqx ?_); go_step)
 refine wqv (v_fieldB (s := 4) rfl rfl Tryz.underlying55 rfl (by kernel_rfl) rfl) ?_
 refine wqv (v_loadPartE (i := 2) (n := 5) Hy.out hE5 rfl rfl rfl Tryz.underlying53 rfl (by kernel_rfl) (by omega)) ?_
 refine wqv (vqL 0 5 hE5 Tryz.underlying53) ?_
 refine wl_step (st_gives hE5 rfl (run_call rfl Tryz.call55) (HGa.out _) ?_)
 intro w6 hb6 hE6
 clear hE5
 simp only [qZ]
 refine wl_step (st_gives hE6 rfl (run_call rfl Tryz.call56) (HB.out _) ?_)
 intro w7 hb7 hE7
 clear hE6
 simp only [qZ]
 refine wl_step (sqA (ints .u8 (List.replicate 32 0)) hE7 ?_)
 intro g3 w8 hb8 hE8
 clear hE7
 simp only [qZ]
 refine wl_step (sqS 0 32 hE8 ?_)
 intro w9 hE9
 clear hE8
 simp only [qpB, qpC] at hE9
 simp only [qZ]
 repeat ((fail_if_success refine sqx ?_); go_step)
 refine wqv (v_field0 (s := 4) rfl rfl Tryz.underlying55 rfl (by kernel_rfl) rfl) ?_
 refine wqv (v_loadPartE (i := 3) (n := 5) Hx.out hE9 rfl rfl rfl Tryz.underlying53 rfl (by kernel_rfl) (by omega)) ?_
 refine wqv (vqL 1 5 hE9 Tryz.underlying53) ?_
 refine wl_step (st_gives hE9 rfl (run_call rfl Tryz.call55) (HGb.out _) ?_)
 intro w10 hb10 hE10
 clear hE9
 simp only [qZ]
 refine wl_step (st_gives hE10 rfl (run_call rfl Tryz.call57) (HO.out _) ?_)
 intro w11 hb11 hE11
 clear hE10
 simp only [qZ]
 repeat ((fail_if_success refine sqy ?_); go_step)
 by_cases ho : X % 2 = 1
 ·skip
  repeat ((fail_if_success refine sqy ?_); go_step)
  refine cqT ?_
  skip
  repeat ((fail_if_success refine sqx ?_); go_step)
  refine wqv (vqI (j := 31) Tryz.underlying22) ?_
  refine wqv (vqC 0 hE11 Tryz.underlying5) ?_
  rw [Ht.out]
  refine wqv (v_bor (n := 128) rfl rfl rfl (by simp only [IntKind.bits]; omega) (by simp only [IntKind.bits]; omega) (w_or rfl (by simp only [IntKind.bits]; omega) (by simp only [IntKind.bits]; omega))) ?_
  rw [Hor.out]
  refine wqv (vqI (j := 31) Tryz.underlying22) ?_
  refine wl_step (st_putN (i := 0) hE11 rfl rfl rfl rfl rfl (by kernel_rfl) (by first | assumption | omega | (simp only [List.length_set, List.length_replicate]; first | assumption | omega)) ?_)
  intro w12 hE12
  clear hE11
  simp only [qpB, qpC] at hE12
  simp only [qZ]
  rw [Hs.out] at hE12
  repeat ((fail_if_success refine sqx ?_); go_step)
  refine wqv (vqL 0 32 hE12 Tryz.underlying22) ?_
  refine wl_step (sqS 2 32 hE12 ?_)
  intro w13 hE13
  clear hE12
  simp only [qpB, qpC] at hE13
  simp only [qZ]
  repeat ((fail_if_success refine sqx ?_); go_step)
  refine bodyPost_ret (results_cell_row rfl _ _ _ _ _ (0, 0) _ rfl (hE13.get (i := 2) rfl) Tryz.underlying22 rfl (szqA (n := 32))) rfl ⟨by rw [ho, Nat.mul_one] <;> rfl, hE13.below⟩
 ·have h0 : X % 2 = 0 := by omega
  repeat ((fail_if_success refine sqy ?_); go_step)
  refine cqF ?_
  skip
  repeat ((fail_if_success refine sqx ?_); go_step)
  refine wqv (vqL 0 32 hE11 Tryz.underlying22) ?_
  refine wl_step (sqS 2 32 hE11 ?_)
  intro w12 hE12
  clear hE11
  simp only [qpB, qpC] at hE12
  simp only [qZ]
  repeat ((fail_if_success refine sqx ?_); go_step)
  refine bodyPost_ret (results_cell_row rfl _ _ _ _ _ (0, 0) _ rfl (hE12.get (i := 2) rfl) Tryz.underlying22 rfl (szqA (n := 32))) rfl ⟨by rw [h0, Nat.mul_zero, Nat.add_zero] <;> rfl, hE12.below⟩

/-! ### The base -/
def bXB : List Nat := [0x1a, 0xd5, 0x25, 0x8f, 0x60, 0x2d, 0x56, 0xc9, 0xb2, 0xa7, 0x25, 0x95, 0x60, 0xc7, 0x2c, 0x69, 0x5c, 0xdc, 0xd6, 0xfd, 0x31, 0xe2, 0xa4, 0xc0, 0xfe, 0x53, 0x6e, 0xcd, 0xd3, 0x36, 0x69, 0x21]
def bYB : List Nat := [0x58, 0x66, 0x66, 0x66, 0x66, 0x66, 0x66, 0x66, 0x66, 0x66, 0x66, 0x66, 0x66, 0x66, 0x66, 0x66, 0x66, 0x66, 0x66, 0x66, 0x66, 0x66, 0x66, 0x66, 0x66, 0x66, 0x66, 0x66, 0x66, 0x66, 0x66, 0x66]
theorem bX_val : val 256 bXB = bX := by kernel_rfl
theorem bY_val : val 256 bYB = bY := by kernel_rfl
theorem affine_any {x y : List Nat} {P : Pt} (fx : Fe x) (fy : Fe y) (ex : fk x = P.x) (ey : fk y = P.y) : ∃ c, PRep c P ∧ ∀ w, Gives 48 #[elem x, elem y] w (pt c) := by
 obtain ⟨f1, e1, G1⟩ := Small_K (n := 1) (by decide)
 obtain ⟨t, ft, et, Gt⟩ := Mul_K fx fy
 rw [kk_one] at e1
 have hR : PRep [x, y, [1, 0, 0, 0, 0], t].flatten P := PRep_mk fx fy f1 ft (by rw [e1]; exact one_ne) (by rw [ex, e1]; grobner) (by rw [ey, e1]; grobner) (by rw [et, ex, ey, e1]; grobner)
 have hr5 := rows5 fx.1 fy.1 f1.1 ft.1
 obtain ⟨L, hL⟩ : ∃ L, [x, y, [1, 0, 0, 0, 0], t].flatten = L := ⟨_, rfl⟩
 rw [hL] at hR
 refine ⟨L, hR, fun w => ?_⟩
 have lL := hR.len
 have lx := fx.1
 have ly := fy.1
 have lt := ft.1
 have H1 := Lib.hid G1
 have HT := Lib.hid Gt
 have HL := Lib.hid hL
 have H5 := Lib.hid hr5
 clear G1 Gt hL hr5 hR fx fy ex ey f1 e1 ft et
 have hE0 := Env.nil w
 go_enter Tryz.func48, Tryz.ntmps48
 repeat ((fail_if_success refine sqx ?_); go_step)
 refine wl_step (st_boxA hE0 rfl rfl rfl ?_)
 intro g0 w1 hb1 hE1
 clear hE0
 simp only [qZ]
 refine wl_step (st_boxA hE1 rfl rfl rfl ?_)
 intro g1 w2 hb2 hE2
 clear hE1
 simp only [qZ]
 refine wl_step (sqA (ints .u64 (List.replicate 20 0)) hE2 ?_)
 intro g2 w3 hb3 hE3
 clear hE2
 simp only [qZ]
 repeat ((fail_if_success refine sqx ?_); go_step)
 refine wp_region_B (n := 8) 7 (by kernel_rfl) rfl hE3 ?_
 intro w4 hb4 hE4
 clear hE3
 refine tqB 0 rfl (vqL 2 5 hE4 Tryz.underlying53) ?_
 refine tqB 1 rfl (vqL 1 5 hE4 Tryz.underlying53) ?_
 refine tqB 3 rfl (vqL 2 5 hE4 Tryz.underlying53) ?_
 refine tqB 4 rfl (vqL 1 5 hE4 Tryz.underlying53) ?_
 refine sqB 2 rfl (st_gives hE4 rfl (run_call rfl Tryz.call70) (H1.out _) ?_)
 intro w5 hb5 hE5
 clear hE4
 refine ⟨fun _ => hb5, ?_⟩
 simp only [qZ]
 refine sqB 5 rfl (st_gives hE5 rfl (run_call rfl Tryz.call55) (HT.out _) ?_)
 intro w6 hb6 hE6
 clear hE5
 refine ⟨fun _ => hb6, ?_⟩
 simp only [qZ]
 refine tqB 6 rfl (v_point [x, y, [1, 0, 0, 0, 0], t] HL.out rfl (by simp only [List.map_cons, List.map_nil, List.zipIdx_cons, List.zipIdx_nil]; rfl) rfl H5.out) ?_
 refine sqB 7 rfl (sqS 0 20 hE6 ?_)
 intro w7 hE7
 clear hE6
 simp only [qpB, qpC] at hE7
 refine nqB ?_
 simp only [qZ]
 refine wpB_done (by kernel_rfl) ?_ _
 repeat ((fail_if_success refine sqx ?_); go_step)
 refine bodyPost_ret (results_cell_row rfl _ _ _ _ _ (0, 0) _ rfl (hE7.get (i := 0) rfl) Tryz.underlying55 rfl (szqA (n := 20))) rfl ⟨rfl, hE7.below⟩
theorem PBase_any : ∃ c, PRep c baseP ∧ ∀ w, Gives 17 #[] w (pt c) := by
 obtain ⟨c, hc, Gc⟩ := affine_any (P := baseP) (digs_Fe bX) (digs_Fe bY) (of_fk bX_lt) (of_fk bY_lt)
 refine ⟨c, hc, fun w => ?_⟩
 have hOX := Lib.hid (fun w => bX_val ▸ Of_any bXB rfl (by unfold Digs bXB; decide) w)
 have hOY := Lib.hid (fun w => bY_val ▸ Of_any bYB rfl (by unfold Digs bYB; decide) w)
 have lc := hc.len
 have l1 : (digs 2251799813685248 5 bX).length = 5 := digs_length _ _ _
 have l2 : (digs 2251799813685248 5 bY).length = 5 := digs_length _ _ _
 have HC := Lib.hid Gc
 clear hc Gc
 have hE0 := Env.nil w
 go_enter Tryz.func17, Tryz.ntmps17
 repeat ((fail_if_success refine sqx ?_); go_step)
 refine wl_step (sqA (ints .u64 (List.replicate 20 0)) hE0 ?_)
 intro g0 w1 hb1 hE1
 clear hE0
 simp only [qZ]
 repeat ((fail_if_success refine sqx ?_); go_step)
 refine wqv (v_built (k := .u8) (l := bXB) rfl (fun w => by kernel_rfl)) ?_
 refine wl_step (st_gives hE1 rfl (run_call rfl Tryz.call49) (hOX.out _) ?_)
 intro w2 hb2 hE2
 clear hE1
 simp only [qZ]
 refine wqv (v_built (k := .u8) (l := bYB) rfl (fun w => by kernel_rfl)) ?_
 refine wl_step (st_gives hE2 rfl (run_call rfl Tryz.call49) (hOY.out _) ?_)
 intro w3 hb3 hE3
 clear hE2
 simp only [qZ]
 refine wl_step (st_gives hE3 rfl (run_call rfl Tryz.call48) (HC.out _) ?_)
 intro w4 hb4 hE4
 clear hE3
 simp only [qZ]
 refine wl_step (sqS 0 20 hE4 ?_)
 intro w5 hE5
 clear hE4
 simp only [qpB, qpC] at hE5
 simp only [qZ]
 repeat ((fail_if_success refine sqx ?_); go_step)
 refine bodyPost_ret (results_cell_row rfl _ _ _ _ _ (0, 0) _ rfl (hE5.get (i := 0) rfl) Tryz.underlying55 rfl (szqA (n := 20))) rfl ⟨rfl, hE5.below⟩
end Go.Proofs.YthddoelflmoedaaGreat
