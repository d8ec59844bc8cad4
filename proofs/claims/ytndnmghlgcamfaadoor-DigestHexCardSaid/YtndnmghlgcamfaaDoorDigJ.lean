/-
  Layer 3: bytes written to a stream.
-/
import Derived.Test.YtndnmghlgcamfaaDoorDigI
namespace Go.Proofs.YtndnmghlgcamfaaDoor
open Go.RowKit
set_option maxRecDepth 100000
set_option linter.unusedVariables false
set_option linter.unusedSimpArgs false

/-- How long a slice is that lies in a cell. -/
def cellLen (w : World) (g j : Nat) : Nat := match w.cell? ⟨g, j, none⟩ with
  | some v => valLen v
  | none => 0
theorem cellLen_eq {w : World} {g j : Nat} {v : Value} (h : w.cell? ⟨g, j, none⟩ = some v) : cellLen w g j = valLen v := by unfold cellLen; rw [h]
theorem Env.cellLen {w0 w : World} {l : List Blk} {g j : Nat} {T : TypeId} {cs : List Value} {v : Value} (h : Env w0 (⟨g, T, cs.toArray⟩ :: l) w) (hc : cs[j]? = some v) : Go.Proofs.YtndnmghlgcamfaaDoor.cellLen w g j = valLen v :=
  cellLen_eq (by rw [h.cell (i := 0) rfl, List.getElem?_toArray, hc])

set_option maxRecDepth 100000 in
set_option maxHeartbeats 8000000 in
theorem Write_any {w0 w : World} {l bs : List Blk} {g : Nat} {M b : List Nat} {v x : Value} (hO : Ow 5 (nats .u8 (restL 64 M)) v bs) (hE : Env w0 (bs ++ ⟨g, 60, (scl (st256 M) v M.length).toArray⟩ :: l) w)
    (hb : ∀ w', Env w0 l w' → RdS .u8 b x w') (dM : Digs 256 M) (db : Digs 256 b) (hsz : M.length + b.length < 1099511627776) :
    Calls Tryd.prog 14 #[.pointer (some ⟨g, 0, none⟩), x] w fun e w' => e = .returned (.tuple #[]) ∧ ∃ v' bs', Ow 5 (nats .u8 (restL 64 (M ++ b))) v' bs' ∧
      Env w0 (bs' ++ ⟨g, 60, (scl (st256 (M ++ b)) v' (M.length + b.length)).toArray⟩ :: l) w' := by
  obtain ⟨i0, hi, hz, hs, hby⟩ := info_u8
  have Hi := Lib.hid hi
  have Hz := Lib.hid hz
  have Hs := Lib.hid hs
  have Hby := Lib.hid hby
  clear hi hz hs hby
  obtain ⟨px, cx, rfl, hcx, -⟩ := hb w (hE.sub ((List.sublist_cons_self _ _).trans (List.sublist_append_right _ _)))
  have Hb := Lib.hid hb
  obtain ⟨pv, cv, rfl, hcv⟩ := hO.lenN
  have HO := Lib.hid hO
  have hE0 := Env.mid.1 hE
  obtain ⟨N, hN⟩ : ∃ N, M ++ b = N := ⟨_, rfl⟩
  obtain ⟨n0, hn0⟩ : ∃ n0, M.length / 64 = n0 := ⟨_, rfl⟩
  have hle0 : n0 * 64 ≤ M.length := by have := whole_le 64 M; rwa [hn0] at this
  have hNl : N.length = M.length + b.length := by rw [← hN, List.length_append]
  have hR : restL 64 M ++ b = N.drop (n0 * 64) := by rw [restL_append, hN, hn0]
  have hch : chainS k256 64 k256.first N n0 = st256 M := by
    unfold st256
    rw [hn0, ← hN, chainS_append n0 hle0]
  have hfin : ∀ n, n * 64 ≤ N.length → (N.drop (n * 64)).length < 64 → restL 64 N = N.drop (n * 64) ∧ st256 N = chainS k256 64 k256.first N n := fun n h1 h2 => by
    have h3 := whole_of (by decide) h1 h2
    unfold restL st256
    rw [h3]
    exact ⟨rfl, rfl⟩
  have Hfin := Lib.hid hfin
  have H8 := Lib.hid (fun n => chainS_len (k := k256) (B := 64) k256_first N n)
  have HD := Lib.hid (fun n => chainS_lt (k := k256) (B := 64) (h := k256.first) k256_firstD N n)
  have dN : Digs 256 N := hN ▸ dM.append db
  have DN := Lib.hid dN
  rw [← hch] at hE0
  have hll : (nats .u8 (restL 64 M)).length + b.length ≤ maxLen := by
    rw [nats_len]
    have := restL_len (B := 64) (by decide) M
    simp only [maxLen]
    omega
  have hlb : ((nats .u8 (restL 64 M)).length + b.length) * 1 ≤ 140737488355328 := by
    rw [nats_len]
    have := restL_len (B := 64) (by decide) M
    omega
  have Hll := Lib.hid hll
  have Hlb := Lib.hid hlb
  have HR := Lib.hid hR
  have HN := Lib.hid hN
  have HNl := Lib.hid hNl
  have Hle0 := Lib.hid (show n0 * 64 ≤ N.length by omega)
  obtain ⟨ST, hST⟩ : ∃ ST : Nat → List Nat, (fun n => chainS k256 64 k256.first N n) = ST := ⟨_, rfl⟩
  have hST' : ∀ n, chainS k256 64 k256.first N n = ST n := fun n => congrFun hST n
  have HS1 : Hid (∀ n, ST (n + 1) = blockS k256 (ST n) ((N.drop (n * 64)).take 64)) := Lib.hid (fun n => by
    rw [← hST', ← hST']
    rfl)
  simp only [hST'] at Hfin H8 HD hE0
  clear hb hO hE hch hfin hR hN hNl hle0 hn0 dM db dN hll hlb hST hST'
  go_enter Tryd.func14, Tryd.ntmps14
  repeat ((fail_if_success (with_reducible show wpList _ _ _ (List.cons _ _) _ _)); (fail_if_success (with_reducible show Code.wp _ (Code.region _ _ true) _ _ _)); go_step)
  refine wl_step (st_val rfl (v_moveT (.inl rfl) rfl) ?_)
  simp only [Act.put, List.setIfInBounds_toArray, List.set_cons_zero, List.set_cons_succ]
  refine wl_step (st_val rfl (v_run fun w9 => by go_simp; with_reducible rfl) ?_)
  simp only [Act.put, List.setIfInBounds_toArray, List.set_cons_zero, List.set_cons_succ]
  repeat ((fail_if_success (with_reducible show wpList _ _ _ (List.cons _ _) _ _)); (fail_if_success (with_reducible show Code.wp _ (Code.region _ _ true) _ _ _)); (fail_if_success (with_reducible show Code.wp _ (Code.cond _ _ _) _ _ _)); go_step)
  refine wp_cond_false (by first | rfl | exact congrArg Value.bool (decide_eq_false (by omega))) ?_
  skip
  repeat ((fail_if_success (with_reducible show wpList _ _ _ (List.cons _ _) _ _)); (fail_if_success (with_reducible show Code.wp _ (Code.region _ _ true) _ _ _)); go_step)
  refine wl_step (st_val rfl (v_moveT (.inl rfl) rfl) ?_)
  simp only [Act.put, List.setIfInBounds_toArray, List.set_cons_zero, List.set_cons_succ]
  refine wl_step (st_val rfl (v_nil rfl rfl) ?_)
  simp only [Act.put, List.setIfInBounds_toArray, List.set_cons_zero, List.set_cons_succ]
  refine wl_step (st_val rfl (v_fieldB (s := 0) rfl rfl Tryd.underlying60 rfl (by kernel_rfl) rfl) ?_)
  simp only [Act.put, List.setIfInBounds_toArray, List.set_cons_zero, List.set_cons_succ]
  refine wl_step (st_val rfl (v_cellH (scl_get9 (H8.out n0)) hE0 rfl rfl Tryd.underlying3 rfl) ?_)
  simp only [Act.put, List.setIfInBounds_toArray, List.set_cons_zero, List.set_cons_succ]
  refine wl_step (st_val rfl (v_moveT (.inl rfl) rfl) ?_)
  simp only [Act.put, List.setIfInBounds_toArray, List.set_cons_zero, List.set_cons_succ]
  refine wl_step (st_val rfl (v_len rfl rfl Tryd.underlying22 (by omega)) ?_)
  simp only [Act.put, List.setIfInBounds_toArray, List.set_cons_zero, List.set_cons_succ]
  refine wl_step (st_val rfl (v_add rfl rfl rfl (w_i64 (by omega))) ?_)
  simp only [Act.put, List.setIfInBounds_toArray, List.set_cons_zero, List.set_cons_succ]
  refine wl_step (st_val rfl (v_nil rfl rfl) ?_)
  simp only [Act.put, List.setIfInBounds_toArray, List.set_cons_zero, List.set_cons_succ]
  refine wl_step (st_val rfl (v_fieldB (s := 0) rfl rfl Tryd.underlying60 rfl (by kernel_rfl) rfl) ?_)
  simp only [Act.put, List.setIfInBounds_toArray, List.set_cons_zero, List.set_cons_succ]
  refine wl_step (st_putH (scl_set9 (H8.out n0) (M.length + b.length)) hE0 rfl rfl rfl rfl (by kernel_rfl) rfl rfl (by rw [scl_len (H8.out n0)]; decide) ?_)
  intro w1 hE1
  clear hE0
  simp only [Act.put, List.setIfInBounds_toArray, List.set_cons_zero, List.set_cons_succ]
  have hS1 := Ow.sl HO.out (Env.mid.2 hE1)
  clear hE1
  have hE1 := hS1.env
  repeat ((fail_if_success (with_reducible show wpList _ _ _ (List.cons _ _) _ _)); (fail_if_success (with_reducible show Code.wp _ (Code.region _ _ true) _ _ _)); go_step)
  refine wl_step (st_val rfl (v_moveT (.inl rfl) rfl) ?_)
  simp only [Act.put, List.setIfInBounds_toArray, List.set_cons_zero, List.set_cons_succ]
  refine wl_step (st_val rfl (v_moveT (.inl rfl) rfl) ?_)
  simp only [Act.put, List.setIfInBounds_toArray, List.set_cons_zero, List.set_cons_succ]
  refine wl_step (st_val rfl (v_nil rfl rfl) ?_)
  simp only [Act.put, List.setIfInBounds_toArray, List.set_cons_zero, List.set_cons_succ]
  refine wl_step (st_val rfl (v_fieldB (s := 0) rfl rfl Tryd.underlying60 rfl (by kernel_rfl) rfl) ?_)
  simp only [Act.put, List.setIfInBounds_toArray, List.set_cons_zero, List.set_cons_succ]
  refine wl_step (st_val rfl (v_cellH (scl_get8 (H8.out n0)) hE1 rfl rfl Tryd.underlying22 rfl) ?_)
  simp only [Act.put, List.setIfInBounds_toArray, List.set_cons_zero, List.set_cons_succ]
  refine wl_step (st_val rfl (v_moveT (.inl rfl) rfl) ?_)
  simp only [Act.put, List.setIfInBounds_toArray, List.set_cons_zero, List.set_cons_succ]
  refine wl_step (st_append hS1 rfl rfl Tryd.underlying22 Hi.out Hz.out Hs.out rfl Hby.out rfl rfl (Hb.out _ (hE1.sub (List.sublist_cons_self _ _))) Hll.out Hlb.out ?_)
  intro v2 w2 hS2
  have hE2 := hS2.env
  clear hE1
  clear hS1
  simp only [Act.put, List.setIfInBounds_toArray, List.set_cons_zero, List.set_cons_succ]
  obtain ⟨bs1, ho1, hEE⟩ := hS2.ow
  clear hE2 hS2
  have hE2 := Env.mid.1 hEE
  clear hEE
  rw [nats_append, HR.out] at ho1
  obtain ⟨p1, c1, hv1, hc1⟩ := ho1.lenN
  subst hv1
  have Ho1 := Lib.hid ho1
  clear ho1
  refine wl_step (st_val rfl (v_nil rfl rfl) ?_)
  simp only [Act.put, List.setIfInBounds_toArray, List.set_cons_zero, List.set_cons_succ]
  refine wl_step (st_val rfl (v_fieldB (s := 0) rfl rfl Tryd.underlying60 rfl (by kernel_rfl) rfl) ?_)
  simp only [Act.put, List.setIfInBounds_toArray, List.set_cons_zero, List.set_cons_succ]
  refine wl_step (st_putH (scl_set8 (H8.out n0) (.slice p1 (N.drop (n0 * 64)).length c1)) hE2 rfl rfl rfl rfl (by kernel_rfl) rfl rfl (by rw [scl_len (H8.out n0)]; decide) ?_)
  intro w3 hE3
  clear hE2
  simp only [Act.put, List.setIfInBounds_toArray, List.set_cons_zero, List.set_cons_succ]
  have hRl : (N.drop (n0 * 64)).length < 9223372036854775808 := by
    rw [List.length_drop, HNl.out]
    omega
  repeat ((fail_if_success (with_reducible show wpList _ _ _ (List.cons _ _) _ _)); (fail_if_success (with_reducible show Code.wp _ (Code.region _ _ true) _ _ _)); go_step)
  refine wl_step (st_val rfl (v_moveT (.inl rfl) rfl) ?_)
  simp only [Act.put, List.setIfInBounds_toArray, List.set_cons_zero, List.set_cons_succ]
  refine wl_step (st_val rfl (v_nil rfl rfl) ?_)
  simp only [Act.put, List.setIfInBounds_toArray, List.set_cons_zero, List.set_cons_succ]
  refine wl_step (st_val rfl (v_fieldB (s := 0) rfl rfl Tryd.underlying60 rfl (by kernel_rfl) rfl) ?_)
  simp only [Act.put, List.setIfInBounds_toArray, List.set_cons_zero, List.set_cons_succ]
  refine wl_step (st_val rfl (v_cellH (scl_get8 (H8.out n0)) hE3 rfl rfl Tryd.underlying22 rfl) ?_)
  simp only [Act.put, List.setIfInBounds_toArray, List.set_cons_zero, List.set_cons_succ]
  refine wl_step (st_val rfl (v_len rfl rfl Tryd.underlying22 hRl) ?_)
  simp only [Act.put, List.setIfInBounds_toArray, List.set_cons_zero, List.set_cons_succ]
  refine wl_step (st_val rfl (v_lss (n := 64) rfl rfl rfl) ?_)
  simp only [Act.put, List.setIfInBounds_toArray, List.set_cons_zero, List.set_cons_succ]
  by_cases hlt : (N.drop (n0 * 64)).length < 64
  · have d1 := Lib.hid (decide_eq_true hlt)
    rw [d1.out]
    repeat ((fail_if_success (with_reducible show wpList _ _ _ (List.cons _ _) _ _)); (fail_if_success (with_reducible show Code.wp _ (Code.region _ _ true) _ _ _)); (fail_if_success (with_reducible show Code.wp _ (Code.cond _ _ _) _ _ _)); go_step)
    refine wp_cond_true (by first | rfl | exact congrArg Value.bool (decide_eq_true (by omega))) ?_
    skip
    go_wp2
    go_returns
    obtain ⟨h1, h2⟩ := Hfin.out n0 Hle0.out hlt
    refine ⟨rfl, .slice p1 (N.drop (n0 * 64)).length c1, bs1, ?_, Env.mid.2 ?_⟩
    · rw [HN.out, h1]
      exact Ho1.out
    · rw [HN.out, h2]
      exact hE3
  · have d1 := Lib.hid (decide_eq_false hlt)
    rw [d1.out]
    rcases Ho1.out.rdB with ⟨-, h0, -⟩ | ⟨gl, cs, rfl, hrd⟩
    · rw [h0] at hlt
      exact absurd (by decide) hlt
    have Hrd := Lib.hid hrd
    clear hrd hRl hlt d1 HO HR Hll Hlb Hi
    simp only [List.singleton_append] at hE3
    obtain ⟨i0, hi, hz, hs, hby⟩ := info_u8
    have Hi := Lib.hid hi
    have Hz := Lib.hid hz
    have Hs := Lib.hid hs
    have Hby := Lib.hid hby
    clear hi hz hs hby
    repeat ((fail_if_success (with_reducible show wpList _ _ _ (List.cons _ _) _ _)); (fail_if_success (with_reducible show Code.wp _ (Code.region _ _ true) _ _ _)); (fail_if_success (with_reducible show Code.wp _ (Code.cond _ _ _) _ _ _)); go_step)
    refine wp_cond_false (by first | rfl | exact congrArg Value.bool (decide_eq_false (by omega))) ?_
    skip
    repeat ((fail_if_success (with_reducible show wpList _ _ _ (List.cons _ _) _ _)); (fail_if_success (with_reducible show Code.wp _ (Code.region _ _ true) _ _ _)); go_step)
    refine wl_step (st_gives hE3 rfl (run_call rfl Tryd.call21) (rounds256_any _) ?_)
    intro w4 hb4 hE4
    clear hE3
    simp only [Act.put, List.setIfInBounds_toArray, List.set_cons_zero, List.set_cons_succ]
    refine wl_step (st_alloc (zs := ints .u32 (List.replicate 64 0)) hE4 rfl rfl (fun w => by kernel_rfl) ?_)
    intro g0 w5 hb5 hE5
    clear hE4
    simp only [Act.put, List.setIfInBounds_toArray, List.set_cons_zero, List.set_cons_succ]
    refine wl_step (st_store (i := 0) hE5 rfl rfl rfl rfl rfl (sz_of (n := 64) (by kernel_rfl) (by first | (simp only [ints_size, digs_length, List.length_replicate, List.length_cons, List.length_nil]; done) | (simp only [ints_size, digs_length, List.length_replicate, List.length_cons, List.length_nil, List.length_set, List.length_append]; omega) | rfl)) (by first | (simp only [ints_size, digs_length, List.length_replicate, List.length_cons, List.length_nil]; done) | (simp only [ints_size, digs_length, List.length_replicate, List.length_cons, List.length_nil, List.length_set, List.length_append]; omega) | rfl) (by first | exact ints_one _ _ | decide | rfl | simp [*]) ?_)
    intro w6 hE6
    clear hE5
    simp only [List.set_cons_zero, List.set_cons_succ] at hE6
    simp only [Act.put, List.setIfInBounds_toArray, List.set_cons_zero, List.set_cons_succ]
    have hst := hE6
    clear hE6
    go_wp2
    go_loopw [] (fun wr => ∃ (n : Nat) (vn : Value), n * 64 ≤ N.length ∧ Hid (RdB .u8 gl cs (N.drop (n * 64)) vn) ∧ Env w0 (⟨g, 60, (scl (ST n) vn (M.length + b.length)).toArray⟩ :: ⟨g0, 61, ints .u32 k256.rounds⟩ :: ⟨gl, 5, cs⟩ :: l) wr) (fun wr => cellLen wr g 8)
    case atStart => exact ⟨n0, _, Hle0.out, Hrd, hst.perm (List.Perm.swap _ _ _)⟩
    case round =>
      clear hst Hrd
      obtain ⟨n, vn, hn, hV, hE0⟩ := hrel
      obtain ⟨p, c, hvn, hcl, -⟩ := id hV.out
      subst hvn
      obtain ⟨R, hR⟩ : ∃ R, N.drop (n * 64) = R := ⟨_, rfl⟩
      have hRl : R.length < 9223372036854775808 := by
        rw [← hR, List.length_drop, HNl.out]
        omega
      have hRn : R.length = N.length - n * 64 := by rw [← hR, List.length_drop]
      have hm0 := Env.cellLen hE0 (scl_get8 (H8.out n))
      have hs1 := HS1.out n
      rw [hR] at hs1 hV hE0 hcl hm0
      have dR : Digs 256 R := hR ▸ (DN.out.drop _)
      have hRR : R.drop 64 = N.drop ((n + 1) * 64) := by rw [← hR, List.drop_drop, Nat.add_mul, Nat.one_mul]
      have HRR := Lib.hid hRR
      have HS2 := Lib.hid hs1
      have HDR := Lib.hid dR
      have Hm0 := Lib.hid hm0
      clear hs1 dR hRR hm0
      by_cases h64 : 64 ≤ R.length
      · have d1 := Lib.hid (decide_eq_true h64)
        have hV2 := Lib.hid (RdB.slcd hV.out h64)
        repeat ((fail_if_success (with_reducible show wpList _ _ _ (List.cons _ _) _ _)); (fail_if_success (with_reducible show Code.wp _ (Code.region _ _ true) _ _ _)); go_step)
        refine wl_step (st_val rfl (v_moveT (.inl rfl) rfl) ?_)
        simp only [Act.put, List.setIfInBounds_toArray, List.set_cons_zero, List.set_cons_succ]
        refine wl_step (st_val rfl (v_nil rfl rfl) ?_)
        simp only [Act.put, List.setIfInBounds_toArray, List.set_cons_zero, List.set_cons_succ]
        refine wl_step (st_val rfl (v_fieldB (s := 0) rfl rfl Tryd.underlying60 rfl (by kernel_rfl) rfl) ?_)
        simp only [Act.put, List.setIfInBounds_toArray, List.set_cons_zero, List.set_cons_succ]
        refine wl_step (st_val rfl (v_cellH (scl_get8 (H8.out n)) hE0 rfl rfl Tryd.underlying22 rfl) ?_)
        simp only [Act.put, List.setIfInBounds_toArray, List.set_cons_zero, List.set_cons_succ]
        refine wl_step (st_val rfl (v_len rfl rfl Tryd.underlying22 hRl) ?_)
        simp only [Act.put, List.setIfInBounds_toArray, List.set_cons_zero, List.set_cons_succ]
        refine wl_step (st_val rfl (v_geq (n := 64) rfl rfl rfl) ?_)
        simp only [Act.put, List.setIfInBounds_toArray, List.set_cons_zero, List.set_cons_succ]
        rw [d1.out]
        repeat ((fail_if_success (with_reducible show wpList _ _ _ (List.cons _ _) _ _)); (fail_if_success (with_reducible show Code.wp _ (Code.region _ _ true) _ _ _)); (fail_if_success (with_reducible show Code.wp _ (Code.cond _ _ _) _ _ _)); go_step)
        refine wp_cond_true (by first | rfl | exact congrArg Value.bool (decide_eq_true (by omega))) ?_
        skip
        repeat ((fail_if_success (with_reducible show wpList _ _ _ (List.cons _ _) _ _)); (fail_if_success (with_reducible show Code.wp _ (Code.region _ _ true) _ _ _)); go_step)
        refine wp_region_B (n := 13) 12 (by kernel_rfl) rfl hE0 ?_
        intro w1 hb1 hE1
        clear hE0
        refine wpB_take (i := 0) (by kernel_rfl) rfl (by kernel_rfl) (fun _ _ _ h => h) rfl (v_moveT (.inl rfl) rfl) ?_
        simp only [Act.put, List.setIfInBounds_toArray, List.set_cons_zero, List.set_cons_succ]
        refine wpB_take (i := 1) (by kernel_rfl) rfl (by kernel_rfl) (fun _ _ _ h => h) rfl (v_moveT (.inl rfl) rfl) ?_
        simp only [Act.put, List.setIfInBounds_toArray, List.set_cons_zero, List.set_cons_succ]
        refine wpB_take (i := 2) (by kernel_rfl) rfl (by kernel_rfl) (fun _ _ _ h => h) rfl (v_nil rfl rfl) ?_
        simp only [Act.put, List.setIfInBounds_toArray, List.set_cons_zero, List.set_cons_succ]
        refine wpB_take (i := 3) (by kernel_rfl) rfl (by kernel_rfl) (fun _ _ _ h => h) rfl (v_field0 (s := 7) rfl rfl Tryd.underlying60 rfl (by kernel_rfl) rfl) ?_
        simp only [Act.put, List.setIfInBounds_toArray, List.set_cons_zero, List.set_cons_succ]
        refine wpB_take (i := 4) (by kernel_rfl) rfl (by kernel_rfl) (fun _ _ _ h => h) rfl (v_loadH (scl_state (H8.out n)) hE1 rfl rfl Tryd.underlying57 rfl (by kernel_rfl) (by rw [scl_len (H8.out n)]; decide)) ?_
        simp only [Act.put, List.setIfInBounds_toArray, List.set_cons_zero, List.set_cons_succ]
        rw [nats_ints]
        refine wpB_take (i := 5) (by kernel_rfl) rfl (by kernel_rfl) (fun _ _ _ h => h) rfl (v_moveT (.inl rfl) rfl) ?_
        simp only [Act.put, List.setIfInBounds_toArray, List.set_cons_zero, List.set_cons_succ]
        refine wpB_take (i := 6) (by kernel_rfl) rfl (by kernel_rfl) (fun _ _ _ h => h) rfl (v_nil rfl rfl) ?_
        simp only [Act.put, List.setIfInBounds_toArray, List.set_cons_zero, List.set_cons_succ]
        refine wpB_take (i := 7) (by kernel_rfl) rfl (by kernel_rfl) (fun _ _ _ h => h) rfl (v_fieldB (s := 0) rfl rfl Tryd.underlying60 rfl (by kernel_rfl) rfl) ?_
        simp only [Act.put, List.setIfInBounds_toArray, List.set_cons_zero, List.set_cons_succ]
        refine wpB_take (i := 8) (by kernel_rfl) rfl (by kernel_rfl) (fun _ _ _ h => h) rfl (v_cellH (scl_get8 (H8.out n)) hE1 rfl rfl Tryd.underlying22 rfl) ?_
        simp only [Act.put, List.setIfInBounds_toArray, List.set_cons_zero, List.set_cons_succ]
        refine wpB_step (i := 9) (by kernel_rfl) rfl (st_gives hE1 rfl (run_call rfl Tryd.call22) (mix256_any (H8.out n) (HD.out n) (RdB.rd hV.out (hE1.get (i := 2) rfl)) HDR.out h64 (hE1.get (i := 1) rfl)) ?_)
        intro w2 hb2 hE2
        clear hE1
        refine ⟨fun _ => hb2, ?_⟩
        simp only [Act.put, List.setIfInBounds_toArray, List.set_cons_zero, List.set_cons_succ]
        refine wpB_take (i := 10) (by kernel_rfl) rfl (by kernel_rfl) (fun _ _ _ h => h) rfl (v_nil rfl rfl) ?_
        simp only [Act.put, List.setIfInBounds_toArray, List.set_cons_zero, List.set_cons_succ]
        refine wpB_take (i := 11) (by kernel_rfl) rfl (by kernel_rfl) (fun _ _ _ h => h) rfl (v_field0 (s := 7) rfl rfl Tryd.underlying60 rfl (by kernel_rfl) rfl) ?_
        simp only [Act.put, List.setIfInBounds_toArray, List.set_cons_zero, List.set_cons_succ]
        refine wpB_step (i := 12) (by kernel_rfl) rfl (st_putCutH (scl_put (H8.out n) (st' := blockS k256 (ST n) (R.take 64))) hE2 rfl rfl rfl (by rw [nats_ints] <;> rfl) (by kernel_rfl) (by rw [nats_len, blockS_len]) (by rw [scl_len (H8.out n)]; decide) (nats_all _ _) ?_)
        intro w3 hE3
        clear hE2
        refine ⟨fun h => absurd h (by decide), ?_⟩
        simp only [Act.put, List.setIfInBounds_toArray, List.set_cons_zero, List.set_cons_succ]
        refine wpB_done (by kernel_rfl) ?_ _
        rw [← HS2.out] at hE3
        repeat ((fail_if_success (with_reducible show wpList _ _ _ (List.cons _ _) _ _)); (fail_if_success (with_reducible show Code.wp _ (Code.region _ _ true) _ _ _)); go_step)
        refine wl_step (st_val rfl (v_moveT (.inl rfl) rfl) ?_)
        simp only [Act.put, List.setIfInBounds_toArray, List.set_cons_zero, List.set_cons_succ]
        refine wl_step (st_val rfl (v_moveT (.inl rfl) rfl) ?_)
        simp only [Act.put, List.setIfInBounds_toArray, List.set_cons_zero, List.set_cons_succ]
        refine wl_step (st_val rfl (v_nil rfl rfl) ?_)
        simp only [Act.put, List.setIfInBounds_toArray, List.set_cons_zero, List.set_cons_succ]
        refine wl_step (st_val rfl (v_fieldB (s := 0) rfl rfl Tryd.underlying60 rfl (by kernel_rfl) rfl) ?_)
        simp only [Act.put, List.setIfInBounds_toArray, List.set_cons_zero, List.set_cons_succ]
        refine wl_step (st_val rfl (v_cellH (scl_get8 (H8.out (n + 1))) hE3 rfl rfl Tryd.underlying22 rfl) ?_)
        simp only [Act.put, List.setIfInBounds_toArray, List.set_cons_zero, List.set_cons_succ]
        refine wl_step (st_val rfl (v_sliceL rfl rfl rfl Tryd.underlying22 (by kernel_rfl) h64) ?_)
        simp only [Act.put, List.setIfInBounds_toArray, List.set_cons_zero, List.set_cons_succ]
        refine wl_step (st_val rfl (v_nil rfl rfl) ?_)
        simp only [Act.put, List.setIfInBounds_toArray, List.set_cons_zero, List.set_cons_succ]
        refine wl_step (st_val rfl (v_fieldB (s := 0) rfl rfl Tryd.underlying60 rfl (by kernel_rfl) rfl) ?_)
        simp only [Act.put, List.setIfInBounds_toArray, List.set_cons_zero, List.set_cons_succ]
        refine wl_step (st_putH (scl_set8 (H8.out (n + 1)) (slcd p 64 R.length c)) hE3 rfl rfl rfl rfl (by kernel_rfl) rfl rfl (by rw [scl_len (H8.out (n + 1))]; decide) ?_)
        intro w4 hE4
        clear hE3
        simp only [Act.put, List.setIfInBounds_toArray, List.set_cons_zero, List.set_cons_succ]
        have hm1 := Env.cellLen hE4 (scl_get8 (H8.out (n + 1)))
        have Hm1 := Lib.hid hm1
        clear hm1
        go_wp2
        go_roundw
        case rel => exact ⟨n + 1, _, by omega, HRR.out ▸ hV2, hE4⟩
        case measure =>
          rw [Hm0.out, Hm1.out]
          simp only [valLen, slcd]
          omega
      · have d1 := Lib.hid (decide_eq_false h64)
        obtain ⟨hf1, hf2⟩ := Hfin.out n hn (by rw [hR]; omega)
        rw [hR] at hf1
        have Hf1 := Lib.hid hf1
        have Hf2 := Lib.hid hf2
        have h63 : R.length ≤ maxLen := by simp only [maxLen]; omega
        have hfit : R.length * 1 ≤ 140737488355328 := by omega
        clear hf1 hf2 hRn
        repeat ((fail_if_success (with_reducible show wpList _ _ _ (List.cons _ _) _ _)); (fail_if_success (with_reducible show Code.wp _ (Code.region _ _ true) _ _ _)); go_step)
        refine wl_step (st_val rfl (v_moveT (.inl rfl) rfl) ?_)
        simp only [Act.put, List.setIfInBounds_toArray, List.set_cons_zero, List.set_cons_succ]
        refine wl_step (st_val rfl (v_nil rfl rfl) ?_)
        simp only [Act.put, List.setIfInBounds_toArray, List.set_cons_zero, List.set_cons_succ]
        refine wl_step (st_val rfl (v_fieldB (s := 0) rfl rfl Tryd.underlying60 rfl (by kernel_rfl) rfl) ?_)
        simp only [Act.put, List.setIfInBounds_toArray, List.set_cons_zero, List.set_cons_succ]
        refine wl_step (st_val rfl (v_cellH (scl_get8 (H8.out n)) hE0 rfl rfl Tryd.underlying22 rfl) ?_)
        simp only [Act.put, List.setIfInBounds_toArray, List.set_cons_zero, List.set_cons_succ]
        refine wl_step (st_val rfl (v_len rfl rfl Tryd.underlying22 hRl) ?_)
        simp only [Act.put, List.setIfInBounds_toArray, List.set_cons_zero, List.set_cons_succ]
        refine wl_step (st_val rfl (v_geq (n := 64) rfl rfl rfl) ?_)
        simp only [Act.put, List.setIfInBounds_toArray, List.set_cons_zero, List.set_cons_succ]
        rw [d1.out]
        repeat ((fail_if_success (with_reducible show wpList _ _ _ (List.cons _ _) _ _)); (fail_if_success (with_reducible show Code.wp _ (Code.region _ _ true) _ _ _)); (fail_if_success (with_reducible show Code.wp _ (Code.cond _ _ _) _ _ _)); go_step)
        refine wp_cond_false (by first | rfl | exact congrArg Value.bool (decide_eq_false (by omega))) ?_
        skip
        repeat ((fail_if_success (with_reducible show wpList _ _ _ (List.cons _ _) _ _)); (fail_if_success (with_reducible show Code.wp _ (Code.region _ _ true) _ _ _)); go_step)
        refine wl_step (st_val rfl (v_moveT (.inl rfl) rfl) ?_)
        simp only [Act.put, List.setIfInBounds_toArray, List.set_cons_zero, List.set_cons_succ]
        refine wl_step (st_val rfl (v_moveT (.inl rfl) rfl) ?_)
        simp only [Act.put, List.setIfInBounds_toArray, List.set_cons_zero, List.set_cons_succ]
        refine wl_step (st_val rfl (v_nil rfl rfl) ?_)
        simp only [Act.put, List.setIfInBounds_toArray, List.set_cons_zero, List.set_cons_succ]
        refine wl_step (st_val rfl (v_fieldB (s := 0) rfl rfl Tryd.underlying60 rfl (by kernel_rfl) rfl) ?_)
        simp only [Act.put, List.setIfInBounds_toArray, List.set_cons_zero, List.set_cons_succ]
        refine wl_step (st_val rfl (v_cellH (scl_get8 (H8.out n)) hE0 rfl rfl Tryd.underlying22 rfl) ?_)
        simp only [Act.put, List.setIfInBounds_toArray, List.set_cons_zero, List.set_cons_succ]
        refine wl_step (st_appendN hE0 rfl rfl Tryd.underlying22 Hi.out Hz.out Hs.out rfl Hby.out rfl rfl (RdB.rd hV.out (hE0.get (i := 2) rfl)) h63 hfit ?_)
        intro v2 w1 bs2 hb1 ho2 hE1
        clear hE0
        simp only [Act.put, List.setIfInBounds_toArray, List.set_cons_zero, List.set_cons_succ]
        replace hE1 := Env.mid.1 hE1
        obtain ⟨p2, c2, hv2, hc2⟩ := ho2.lenN
        subst hv2
        refine wl_step (st_val rfl (v_nil rfl rfl) ?_)
        simp only [Act.put, List.setIfInBounds_toArray, List.set_cons_zero, List.set_cons_succ]
        refine wl_step (st_val rfl (v_fieldB (s := 0) rfl rfl Tryd.underlying60 rfl (by kernel_rfl) rfl) ?_)
        simp only [Act.put, List.setIfInBounds_toArray, List.set_cons_zero, List.set_cons_succ]
        refine wl_step (st_putH (scl_set8 (H8.out n) (.slice p2 R.length c2)) hE1 rfl rfl rfl rfl (by kernel_rfl) rfl rfl (by rw [scl_len (H8.out n)]; decide) ?_)
        intro w2 hE2
        clear hE1
        simp only [Act.put, List.setIfInBounds_toArray, List.set_cons_zero, List.set_cons_succ]
        go_wp2
        go_returns
        refine ⟨rfl, .slice p2 R.length c2, bs2, ?_, ?_⟩
        · rw [HN.out, Hf1.out]
          exact ho2
        · rw [HN.out, Hf2.out]
          refine Env.sub (Env.mid.2 hE2) ?_
          exact List.Sublist.append_left (List.Sublist.cons_cons _ (((List.Sublist.refl _).cons _).cons _)) _
end Go.Proofs.YtndnmghlgcamfaaDoor
