/-
  Layer 3: a block mixed into a state (SHA-256), the walk.
-/
import Derived.Test.YtndnmghlgcamfaaDoorDigA
import Derived.Test.YtndnmghlgcamfaaDoorDigC
import Derived.Test.YtndnmghlgcamfaaDoorBld
namespace Go.Proofs.YtndnmghlgcamfaaDoor
open Go.RowKit
set_option maxRecDepth 100000
set_option linter.unusedVariables false
set_option linter.unusedSimpArgs false

theorem word256 {l : List Nat} {i : Nat} (hi : i < 16) (hl : 64 ≤ l.length) : wordAt 32 (l.take 64) i = beN ((l.drop (4 * i)).take (4 * i + 4 - 4 * i)) := by
  unfold wordAt
  rw [show (32 : Nat) / 8 = 4 from rfl, Nat.mul_comm i 4, List.drop_take, List.take_take, show 4 * i + 4 - 4 * i = 4 by omega, show min 4 (64 - 4 * i) = 4 by omega]
theorem rr32 {x : Nat} (h : x < 4294967296) (n : Nat) : rr 32 n x < 2 ^ IntKind.u32.bits := rr_lt h

set_option maxRecDepth 100000 in
set_option maxHeartbeats 16000000 in
theorem mix256_any {h l : List Nat} {v : Value} {gk : Nat} {Tk : TypeId} {w : World} (hh : h.length = 8) (hd : ∀ j, h.getD j 0 < 4294967296) (hv : RdS .u8 l v w) (dl : Digs 256 l) (h64 : 64 ≤ l.length) (hk : w.heap[gk]? = some (.cells (ints .u32 k256.rounds) Tk (0, 0))) :
    Gives 22 #[.agg (ints .u32 h), v, .pointer (some ⟨gk, 0, none⟩)] w (.agg (ints .u32 (blockS k256 h (l.take 64)))) := by
  have hgk : gk < w.heap.size := (Array.getElem?_eq_some_iff.1 hk).1
  obtain ⟨p, c, rfl, hcap, -⟩ := id hv
  have dm : Digs 256 (l.take 64) := dl.take 64
  have hnum : ∀ i, i < 16 → ∀ w1, Below w.heap.size w w1 → Gives 28 #[slcd p (4 * i) (4 * i + 4) c] w1 (.int .u64 (wordAt 32 (l.take 64) i : Nat)) := fun i hi w1 hb => by
    rw [word256 hi h64]
    exact number_any ((hv.below hb).slcd (by omega) (by omega)).row ((dl.drop _).take _) (Nat.le_trans (List.length_take_le _ _) (by omega))
  have hkc : ∀ n, n < 64 → ∀ w1, Below w.heap.size w w1 → w1.cell? ⟨gk, n, none⟩ = some (.int .u32 (k256.rounds.getD n 0 : Nat)) := fun n hn w1 hb => by
    rw [cell_of_row w1 gk n _ _ _ ((hb.block gk hgk).trans hk), ints_get? _ _ _ (by rw [k256_len]; exact hn)]
  have hwl : ∀ i, wordAt 32 (l.take 64) i < 4294967296 := fun i => wordAt_lt dm i
  have hcap' : 64 ≤ c := by omega
  obtain ⟨m, hm⟩ : ∃ m, l.take 64 = m := ⟨_, rfl⟩
  rw [hm] at hnum hwl dm ⊢
  obtain ⟨SC, R, hF⟩ : ∃ SC R, MixF k256 h m 64 4294967296 SC R := ⟨_, _, mixF (k := k256) rfl dm hh hd⟩
  have hB8 := blockS_len k256 h m
  obtain ⟨s0, sl, sa, sb, sc, r0, rl, rn, rb, bl⟩ := hF
  obtain ⟨B, hB⟩ : ∃ B, blockS k256 h m = B := ⟨_, rfl⟩
  rw [hB] at hB8 bl ⊢
  have kb := k256_lt
  obtain ⟨kc, hkcE⟩ : ∃ kc : Nat → Nat, (fun n => k256.rounds.getD n 0) = kc := ⟨_, rfl⟩
  have hkcE' : ∀ n, k256.rounds.getD n 0 = kc n := fun n => congrFun hkcE n
  simp only [hkcE'] at hkc rn kb
  obtain ⟨wa, hwa⟩ : ∃ wa : Nat → Nat, (fun n => wordAt 32 m n) = wa := ⟨_, rfl⟩
  have hwa' : ∀ n, wordAt 32 m n = wa n := fun n => congrFun hwa n
  have sa' : ∀ K, K < 64 → K < 16 → (SC K).set K (wa K) = SC (K + 1) := fun K h1 h2 => by rw [← hwa']; exact sa K h1 h2
  simp only [hwa'] at hnum hwl
  have sb' : ∀ K, K < 64 → 16 ≤ K → (SC K).set K ((smallS 32 (17, 19, 10) ((SC K).getD (K - 2) 0) + (SC K).getD (K - 7) 0 + smallS 32 (7, 18, 3) ((SC K).getD (K - 15) 0) + (SC K).getD (K - 16) 0) % 4294967296) = SC (K + 1) := sb
  have rn' : ∀ n, R (n + 1) = [(((R n).getD 7 0 + bigS 32 (6, 11, 25) ((R n).getD 4 0) + chS 32 ((R n).getD 4 0) ((R n).getD 5 0) ((R n).getD 6 0) + kc n + (SC 64).getD n 0) % 4294967296 + (bigS 32 (2, 13, 22) ((R n).getD 0 0) + majS ((R n).getD 0 0) ((R n).getD 1 0) ((R n).getD 2 0)) % 4294967296) % 4294967296, (R n).getD 0 0, (R n).getD 1 0, (R n).getD 2 0,
              ((R n).getD 3 0 + ((R n).getD 7 0 + bigS 32 (6, 11, 25) ((R n).getD 4 0) + chS 32 ((R n).getD 4 0) ((R n).getD 5 0) ((R n).getD 6 0) + kc n + (SC 64).getD n 0) % 4294967296) % 4294967296, (R n).getD 4 0, (R n).getD 5 0, (R n).getD 6 0] := fun n => rn n
  have Hnum := Lib.hid hnum
  have Hkc := Lib.hid hkc
  have Hwl := Lib.hid hwl
  have Hkb := Lib.hid kb
  have S0 := Lib.hid s0
  have Sl := Lib.hid sl
  have Sa := Lib.hid sa'
  have Sb := Lib.hid sb'
  have Sc := Lib.hid sc
  have R0 := Lib.hid r0
  have Rl := Lib.hid rl
  have Rn := Lib.hid rn'
  have Rb := Lib.hid rb
  have Bl := Lib.hid bl
  clear hnum hkc hwl hv dl dm hk hcap hm hd h64 hgk s0 sl sa sa' sb sb' sc r0 rl rn rn' rb bl hB kb hkcE hkcE' hwa hwa'
  have hE0 := Env.nil w
  go_enter Tryd.func22, Tryd.ntmps22
  repeat ((fail_if_success (with_reducible show wpList _ _ _ (List.cons _ _) _ _)); (fail_if_success (with_reducible show Code.wp _ (Code.region _ _ true) _ _ _)); go_step)
  refine wl_step (st_boxA hE0 rfl rfl rfl ?_)
  intro g0 w1 hb1 hE1
  clear hE0
  simp only [Act.put, List.setIfInBounds_toArray, List.set_cons_zero, List.set_cons_succ]
  refine wl_step (st_alloc (zs := ints .u32 (List.replicate 8 0)) hE1 rfl rfl (fun w => by kernel_rfl) ?_)
  intro g1 w2 hb2 hE2
  clear hE1
  simp only [Act.put, List.setIfInBounds_toArray, List.set_cons_zero, List.set_cons_succ]
  repeat ((fail_if_success (with_reducible show wpList _ _ _ (List.cons _ _) _ _)); (fail_if_success (with_reducible show Code.wp _ (Code.region _ _ true) _ _ _)); go_step)
  refine wl_step (st_alloc (zs := ints .u32 (List.replicate 64 0)) hE2 rfl rfl (fun w => by kernel_rfl) ?_)
  intro g2 w3 hb3 hE3
  clear hE2
  simp only [Act.put, List.setIfInBounds_toArray, List.set_cons_zero, List.set_cons_succ]
  rw [← S0.out] at hE3
  repeat ((fail_if_success (with_reducible show wpList _ _ _ (List.cons _ _) _ _)); (fail_if_success (with_reducible show Code.wp _ (Code.region _ _ true) _ _ _)); go_step)
  refine wl_step (st_val rfl (v_moveC (.inl rfl)) ?_)
  simp only [Act.put, List.setIfInBounds_toArray, List.set_cons_zero, List.set_cons_succ]
  go_wp2
  go_loopw [18] (fun i wr => ∃ K : Nat, K ≤ 64 ∧ i = .int .i64 K ∧ Env w [⟨g2, 61, ints .u32 (SC K)⟩, ⟨g1, 57, ints .u32 (List.replicate 8 0)⟩, ⟨g0, 57, ints .u32 h⟩] wr) (fun i _ => 64 - (intOf i).toNat)
  case atStart => exact ⟨0, Nat.zero_le _, rfl, hE3⟩
  case round =>
    clear hE3
    obtain ⟨K, hK, rfl, hE0⟩ := hrel
    have hSl := Sl.out K hK
    by_cases hK64 : K < 64
    · by_cases h16 : K < 16
      · have hset := Sa.out K hK64 h16
        have hn := Hnum.out K h16
        have hwb := Hwl.out K
        obtain ⟨x, hx⟩ : ∃ x, wa K = x := ⟨_, rfl⟩
        rw [hx] at hn hwb hset
        obtain ⟨S, hS⟩ : ∃ S, SC K = S := ⟨_, rfl⟩
        rw [hS] at hset hSl hE0
        have hcv : IntKind.u32.wrap (x : Int) = (x : Int) := w_uns rfl hwb
        have HN := Lib.hid hn
        have HS := Lib.hid hset
        have Hcv := Lib.hid hcv
        have hlo : 4 * K ≤ 4 * K + 4 := by omega
        have hhi : 4 * K + 4 ≤ c := by omega
        clear hn hset hx hS hcv
        repeat ((fail_if_success (with_reducible show wpList _ _ _ (List.cons _ _) _ _)); (fail_if_success (with_reducible show Code.wp _ (Code.region _ _ true) _ _ _)); go_step)
        refine wl_step (st_val rfl (v_lss (n := 64) rfl rfl rfl) ?_)
        simp only [Act.put, List.setIfInBounds_toArray, List.set_cons_zero, List.set_cons_succ]
        repeat ((fail_if_success (with_reducible show wpList _ _ _ (List.cons _ _) _ _)); (fail_if_success (with_reducible show Code.wp _ (Code.region _ _ true) _ _ _)); go_step)
        refine wl_step (st_val rfl (v_moveT (.inl rfl) rfl) ?_)
        simp only [Act.put, List.setIfInBounds_toArray, List.set_cons_zero, List.set_cons_succ]
        refine wl_step (st_val rfl (v_moveT (.inr rfl) rfl) ?_)
        simp only [Act.put, List.setIfInBounds_toArray, List.set_cons_zero, List.set_cons_succ]
        repeat ((fail_if_success (with_reducible show wpList _ _ _ (List.cons _ _) _ _)); (fail_if_success (with_reducible show Code.wp _ (Code.region _ _ true) _ _ _)); go_step)
        refine wl_step (st_val rfl (v_moveT (.inl rfl) rfl) ?_)
        simp only [Act.put, List.setIfInBounds_toArray, List.set_cons_zero, List.set_cons_succ]
        refine wl_step (st_val rfl (v_lss (n := 16) rfl rfl rfl) ?_)
        simp only [Act.put, List.setIfInBounds_toArray, List.set_cons_zero, List.set_cons_succ]
        repeat ((fail_if_success (with_reducible show wpList _ _ _ (List.cons _ _) _ _)); (fail_if_success (with_reducible show Code.wp _ (Code.region _ _ true) _ _ _)); (fail_if_success (with_reducible show Code.wp _ (Code.cond _ _ _) _ _ _)); go_step)
        refine wp_cond_true (by first | rfl | exact congrArg Value.bool (decide_eq_true (by omega))) ?_
        skip
        repeat ((fail_if_success (with_reducible show wpList _ _ _ (List.cons _ _) _ _)); (fail_if_success (with_reducible show Code.wp _ (Code.region _ _ true) _ _ _)); go_step)
        refine wl_step (st_val rfl (v_moveT (.inl rfl) rfl) ?_)
        simp only [Act.put, List.setIfInBounds_toArray, List.set_cons_zero, List.set_cons_succ]
        refine wl_step (st_val rfl (v_moveT (.inl rfl) rfl) ?_)
        simp only [Act.put, List.setIfInBounds_toArray, List.set_cons_zero, List.set_cons_succ]
        refine wl_step (st_val rfl (v_moveT (.inl rfl) rfl) ?_)
        simp only [Act.put, List.setIfInBounds_toArray, List.set_cons_zero, List.set_cons_succ]
        refine wl_step (st_val rfl (v_mul (m := 4) rfl rfl rfl (w_i64 (by omega))) ?_)
        simp only [Act.put, List.setIfInBounds_toArray, List.set_cons_zero, List.set_cons_succ]
        refine wl_step (st_val rfl (v_moveT (.inl rfl) rfl) ?_)
        simp only [Act.put, List.setIfInBounds_toArray, List.set_cons_zero, List.set_cons_succ]
        refine wl_step (st_val rfl (v_mul (m := 4) rfl rfl rfl (w_i64 (by omega))) ?_)
        simp only [Act.put, List.setIfInBounds_toArray, List.set_cons_zero, List.set_cons_succ]
        refine wl_step (st_val rfl (v_add (n := 4) rfl rfl rfl (w_i64 (by omega))) ?_)
        simp only [Act.put, List.setIfInBounds_toArray, List.set_cons_zero, List.set_cons_succ]
        refine wl_step (st_val rfl (v_sliceLH rfl rfl rfl rfl Tryd.underlying22 (by kernel_rfl) hlo hhi) ?_)
        simp only [Act.put, List.setIfInBounds_toArray, List.set_cons_zero, List.set_cons_succ]
        refine wl_step (st_gives hE0 rfl (run_call rfl Tryd.call28) (HN.out _ hE0.below) ?_)
        intro w1 hb1 hE1
        clear hE0
        simp only [Act.put, List.setIfInBounds_toArray, List.set_cons_zero, List.set_cons_succ]
        refine wl_step (st_val rfl (v_convInt rfl rfl Tryd.underlying67 Tryd.underlying56 Hcv.out) ?_)
        simp only [Act.put, List.setIfInBounds_toArray, List.set_cons_zero, List.set_cons_succ]
        refine wl_step (st_val rfl (v_indexA0 rfl rfl rfl Tryd.underlying61 (by kernel_rfl) (by first | assumption | omega)) ?_)
        simp only [Act.put, List.setIfInBounds_toArray, List.set_cons_zero, List.set_cons_succ]
        refine wl_step (st_putN (i := 0) hE1 rfl rfl rfl rfl rfl (by kernel_rfl) (by first | assumption | omega | (simp only [List.length_set, List.length_replicate]; first | assumption | omega)) ?_)
        intro w2 hE2
        clear hE1
        simp only [List.set_cons_zero, List.set_cons_succ] at hE2
        simp only [Act.put, List.setIfInBounds_toArray, List.set_cons_zero, List.set_cons_succ]
        rw [HS.out] at hE2
        repeat ((fail_if_success (with_reducible show wpList _ _ _ (List.cons _ _) _ _)); (fail_if_success (with_reducible show Code.wp _ (Code.region _ _ true) _ _ _)); go_step)
        refine wl_step (st_val rfl (v_add (n := 1) rfl rfl rfl (w_i64 (by omega))) ?_)
        simp only [Act.put, List.setIfInBounds_toArray, List.set_cons_zero, List.set_cons_succ]
        refine wl_step (st_val rfl (v_moveT (.inl rfl) rfl) ?_)
        simp only [Act.put, List.setIfInBounds_toArray, List.set_cons_zero, List.set_cons_succ]
        go_wp2
        go_roundw
        case rel => exact ⟨K + 1, by omega, rfl, hE2⟩
        case measure => simp [intOf]; omega
      · have hset := Sb.out K hK64 (by omega)
        have bx := Sc.out K (K - 15)
        have by' := Sc.out K (K - 2)
        have b16 := Sc.out K (K - 16)
        have b7 := Sc.out K (K - 7)
        obtain ⟨S, hS⟩ : ∃ S, SC K = S := ⟨_, rfl⟩
        rw [hS] at hset hSl hE0 bx by' b16 b7
        obtain ⟨x, g15⟩ : ∃ x, S.getD (K - 15) 0 = x := ⟨_, rfl⟩
        obtain ⟨y, g2'⟩ : ∃ x, S.getD (K - 2) 0 = x := ⟨_, rfl⟩
        obtain ⟨z, g16⟩ : ∃ x, S.getD (K - 16) 0 = x := ⟨_, rfl⟩
        obtain ⟨u, g7⟩ : ∃ x, S.getD (K - 7) 0 = x := ⟨_, rfl⟩
        rw [g15] at hset bx
        rw [g2'] at hset by'
        rw [g16] at hset b16
        rw [g7] at hset b7
        have t1 := fun w => turn_any (x := x) (n := 7) bx (by decide) (by decide) w
        have t2 := fun w => turn_any (x := x) (n := 18) bx (by decide) (by decide) w
        have t3 := fun w => turn_any (x := y) (n := 17) by' (by decide) (by decide) w
        have t4 := fun w => turn_any (x := y) (n := 19) by' (by decide) (by decide) w
        have r1 := rr32 bx 7
        have r2 := rr32 bx 18
        have r3 := rr32 by' 17
        have r4 := rr32 by' 19
        have r5 : x / 8 < 2 ^ IntKind.u32.bits := Nat.lt_of_le_of_lt (Nat.div_le_self _ _) bx
        have r6 : y / 1024 < 2 ^ IntKind.u32.bits := Nat.lt_of_le_of_lt (Nat.div_le_self _ _) by'
        have x1 := Nat.xor_lt_two_pow r1 r2
        have x2 := Nat.xor_lt_two_pow r3 r4
        have e0 : smallS 32 (7, 18, 3) x = rr 32 7 x ^^^ rr 32 18 x ^^^ x / 8 := rfl
        have e1 : smallS 32 (17, 19, 10) y = rr 32 17 y ^^^ rr 32 19 y ^^^ y / 1024 := rfl
        have hsum : (((z + smallS 32 (7, 18, 3) x) % 4294967296 + u) % 4294967296 + smallS 32 (17, 19, 10) y) % 4294967296 = (smallS 32 (17, 19, 10) y + u + smallS 32 (7, 18, 3) x + z) % 4294967296 := sum4 _ _ _ _ _
        have G15 := Lib.hid g15
        have G2 := Lib.hid g2'
        have G16 := Lib.hid g16
        have G7 := Lib.hid g7
        have T1 := Lib.hid t1
        clear t1
        have T2 := Lib.hid t2
        clear t2
        have T3 := Lib.hid t3
        clear t3
        have T4 := Lib.hid t4
        clear t4
        have E0 := Lib.hid e0.symm
        have E1 := Lib.hid e1.symm
        have HS := Lib.hid hset
        have Hsum := Lib.hid hsum
        have j15 : K - 15 < 64 := by omega
        have j2 : K - 2 < 64 := by omega
        have j16 : K - 16 < 64 := by omega
        have j7 : K - 7 < 64 := by omega
        clear hset hsum e0 e1 g15 g2' g16 g7 hS
        repeat ((fail_if_success (with_reducible show wpList _ _ _ (List.cons _ _) _ _)); (fail_if_success (with_reducible show Code.wp _ (Code.region _ _ true) _ _ _)); go_step)
        refine wl_step (st_val rfl (v_lss (n := 64) rfl rfl rfl) ?_)
        simp only [Act.put, List.setIfInBounds_toArray, List.set_cons_zero, List.set_cons_succ]
        repeat ((fail_if_success (with_reducible show wpList _ _ _ (List.cons _ _) _ _)); (fail_if_success (with_reducible show Code.wp _ (Code.region _ _ true) _ _ _)); go_step)
        refine wl_step (st_val rfl (v_moveT (.inl rfl) rfl) ?_)
        simp only [Act.put, List.setIfInBounds_toArray, List.set_cons_zero, List.set_cons_succ]
        refine wl_step (st_val rfl (v_moveT (.inr rfl) rfl) ?_)
        simp only [Act.put, List.setIfInBounds_toArray, List.set_cons_zero, List.set_cons_succ]
        repeat ((fail_if_success (with_reducible show wpList _ _ _ (List.cons _ _) _ _)); (fail_if_success (with_reducible show Code.wp _ (Code.region _ _ true) _ _ _)); go_step)
        refine wl_step (st_val rfl (v_moveT (.inl rfl) rfl) ?_)
        simp only [Act.put, List.setIfInBounds_toArray, List.set_cons_zero, List.set_cons_succ]
        refine wl_step (st_val rfl (v_lss (n := 16) rfl rfl rfl) ?_)
        simp only [Act.put, List.setIfInBounds_toArray, List.set_cons_zero, List.set_cons_succ]
        repeat ((fail_if_success (with_reducible show wpList _ _ _ (List.cons _ _) _ _)); (fail_if_success (with_reducible show Code.wp _ (Code.region _ _ true) _ _ _)); (fail_if_success (with_reducible show Code.wp _ (Code.cond _ _ _) _ _ _)); go_step)
        refine wp_cond_false (by first | rfl | exact congrArg Value.bool (decide_eq_false (by omega))) ?_
        skip
        repeat ((fail_if_success (with_reducible show wpList _ _ _ (List.cons _ _) _ _)); (fail_if_success (with_reducible show Code.wp _ (Code.region _ _ true) _ _ _)); go_step)
        refine wp_region_B (n := 10) 10 (by kernel_rfl) rfl hE0 ?_
        intro w1 hb1 hE1
        clear hE0
        refine wpB_take (i := 0) (by kernel_rfl) rfl (by kernel_rfl) (fun _ _ _ h => h) rfl (v_moveT (.inl rfl) rfl) ?_
        simp only [Act.put, List.setIfInBounds_toArray, List.set_cons_zero, List.set_cons_succ]
        refine wpB_take (i := 1) (by kernel_rfl) rfl (by kernel_rfl) (fun _ _ _ h => h) rfl (v_sub (n := 15) rfl rfl rfl (by first | exact w_i64s (by omega) (by omega) | exact w_i64I (by omega) (by omega))) ?_
        simp only [Act.put, List.setIfInBounds_toArray, List.set_cons_zero, List.set_cons_succ]
        refine wpB_take (i := 2) (by kernel_rfl) rfl (by kernel_rfl) (fun _ _ _ h => h) rfl (v_indexA0 rfl rfl rfl Tryd.underlying61 (by kernel_rfl) (by first | assumption | omega)) ?_
        simp only [Act.put, List.setIfInBounds_toArray, List.set_cons_zero, List.set_cons_succ]
        refine wpB_take (i := 3) (by kernel_rfl) rfl (by kernel_rfl) (fun _ _ _ h => h) rfl (v_cell rfl rfl Tryd.underlying56 rfl (Env.cellv (i := 0) hE1 rfl (ints_get? _ _ _ (by first | assumption | omega | (simp; done) | (simp; omega))))) ?_
        simp only [Act.put, List.setIfInBounds_toArray, List.set_cons_zero, List.set_cons_succ]
        rw [G15.out]
        refine wpB_take (i := 4) (by kernel_rfl) rfl (by kernel_rfl) (fun _ _ _ h => h) rfl (v_moveT (.inl rfl) rfl) ?_
        simp only [Act.put, List.setIfInBounds_toArray, List.set_cons_zero, List.set_cons_succ]
        refine wpB_take (i := 5) (by kernel_rfl) rfl (by kernel_rfl) (fun _ _ _ h => h) rfl (v_sub (n := 2) rfl rfl rfl (by first | exact w_i64s (by omega) (by omega) | exact w_i64I (by omega) (by omega))) ?_
        simp only [Act.put, List.setIfInBounds_toArray, List.set_cons_zero, List.set_cons_succ]
        refine wpB_take (i := 6) (by kernel_rfl) rfl (by kernel_rfl) (fun _ _ _ h => h) rfl (v_indexA0 rfl rfl rfl Tryd.underlying61 (by kernel_rfl) (by first | assumption | omega)) ?_
        simp only [Act.put, List.setIfInBounds_toArray, List.set_cons_zero, List.set_cons_succ]
        refine wpB_take (i := 7) (by kernel_rfl) rfl (by kernel_rfl) (fun _ _ _ h => h) rfl (v_cell rfl rfl Tryd.underlying56 rfl (Env.cellv (i := 0) hE1 rfl (ints_get? _ _ _ (by first | assumption | omega | (simp; done) | (simp; omega))))) ?_
        simp only [Act.put, List.setIfInBounds_toArray, List.set_cons_zero, List.set_cons_succ]
        rw [G2.out]
        refine wpB_take (i := 8) (by kernel_rfl) rfl (by kernel_rfl) (fun _ _ _ h => h) rfl (v_moveT (.inr rfl) rfl) ?_
        simp only [Act.put, List.setIfInBounds_toArray, List.set_cons_zero, List.set_cons_succ]
        refine wpB_take (i := 9) (by kernel_rfl) rfl (by kernel_rfl) (fun _ _ _ h => h) rfl (v_moveT (.inr rfl) rfl) ?_
        simp only [Act.put, List.setIfInBounds_toArray, List.set_cons_zero, List.set_cons_succ]
        refine wpB_done (by kernel_rfl) ?_ _
        repeat ((fail_if_success (with_reducible show wpList _ _ _ (List.cons _ _) _ _)); (fail_if_success (with_reducible show Code.wp _ (Code.region _ _ true) _ _ _)); go_step)
        refine wp_region_B (n := 30) 29 (by kernel_rfl) rfl hE1 ?_
        intro w2 hb2 hE2
        clear hE1
        refine wpB_take (i := 0) (by kernel_rfl) rfl (by kernel_rfl) (fun _ _ _ h => h) rfl (v_moveT (.inl rfl) rfl) ?_
        simp only [Act.put, List.setIfInBounds_toArray, List.set_cons_zero, List.set_cons_succ]
        refine wpB_take (i := 1) (by kernel_rfl) rfl (by kernel_rfl) (fun _ _ _ h => h) rfl (v_moveT (.inl rfl) rfl) ?_
        simp only [Act.put, List.setIfInBounds_toArray, List.set_cons_zero, List.set_cons_succ]
        refine wpB_take (i := 2) (by kernel_rfl) rfl (by kernel_rfl) (fun _ _ _ h => h) rfl (v_sub (n := 16) rfl rfl rfl (by first | exact w_i64s (by omega) (by omega) | exact w_i64I (by omega) (by omega))) ?_
        simp only [Act.put, List.setIfInBounds_toArray, List.set_cons_zero, List.set_cons_succ]
        refine wpB_take (i := 3) (by kernel_rfl) rfl (by kernel_rfl) (fun _ _ _ h => h) rfl (v_indexA0 rfl rfl rfl Tryd.underlying61 (by kernel_rfl) (by first | assumption | omega)) ?_
        simp only [Act.put, List.setIfInBounds_toArray, List.set_cons_zero, List.set_cons_succ]
        refine wpB_take (i := 4) (by kernel_rfl) rfl (by kernel_rfl) (fun _ _ _ h => h) rfl (v_cell rfl rfl Tryd.underlying56 rfl (Env.cellv (i := 0) hE2 rfl (ints_get? _ _ _ (by first | assumption | omega | (simp; done) | (simp; omega))))) ?_
        simp only [Act.put, List.setIfInBounds_toArray, List.set_cons_zero, List.set_cons_succ]
        rw [G16.out]
        refine wpB_take (i := 5) (by kernel_rfl) rfl (by kernel_rfl) (fun _ _ _ h => h) rfl (v_moveT (.inl rfl) rfl) ?_
        simp only [Act.put, List.setIfInBounds_toArray, List.set_cons_zero, List.set_cons_succ]
        refine wpB_take (i := 7) (by kernel_rfl) rfl (by kernel_rfl) (fun _ _ _ h => h) rfl (v_moveT (.inl rfl) rfl) ?_
        simp only [Act.put, List.setIfInBounds_toArray, List.set_cons_zero, List.set_cons_succ]
        refine wpB_take (i := 10) (by kernel_rfl) rfl (by kernel_rfl) (fun _ _ _ h => h) rfl (v_moveT (.inl rfl) rfl) ?_
        simp only [Act.put, List.setIfInBounds_toArray, List.set_cons_zero, List.set_cons_succ]
        refine wpB_take (i := 11) (by kernel_rfl) rfl (by kernel_rfl) (fun _ _ _ h => h) rfl (v_shrC (s := 3) (d := 8) rfl rfl rfl (by decide) (by decide)) ?_
        simp only [Act.put, List.setIfInBounds_toArray, List.set_cons_zero, List.set_cons_succ]
        refine wpB_take (i := 14) (by kernel_rfl) rfl (by kernel_rfl) (fun _ _ _ h => h) rfl (v_moveT (.inl rfl) rfl) ?_
        simp only [Act.put, List.setIfInBounds_toArray, List.set_cons_zero, List.set_cons_succ]
        refine wpB_take (i := 15) (by kernel_rfl) rfl (by kernel_rfl) (fun _ _ _ h => h) rfl (v_sub (n := 7) rfl rfl rfl (by first | exact w_i64s (by omega) (by omega) | exact w_i64I (by omega) (by omega))) ?_
        simp only [Act.put, List.setIfInBounds_toArray, List.set_cons_zero, List.set_cons_succ]
        refine wpB_take (i := 16) (by kernel_rfl) rfl (by kernel_rfl) (fun _ _ _ h => h) rfl (v_indexA0 rfl rfl rfl Tryd.underlying61 (by kernel_rfl) (by first | assumption | omega)) ?_
        simp only [Act.put, List.setIfInBounds_toArray, List.set_cons_zero, List.set_cons_succ]
        refine wpB_take (i := 17) (by kernel_rfl) rfl (by kernel_rfl) (fun _ _ _ h => h) rfl (v_cell rfl rfl Tryd.underlying56 rfl (Env.cellv (i := 0) hE2 rfl (ints_get? _ _ _ (by first | assumption | omega | (simp; done) | (simp; omega))))) ?_
        simp only [Act.put, List.setIfInBounds_toArray, List.set_cons_zero, List.set_cons_succ]
        rw [G7.out]
        refine wpB_take (i := 19) (by kernel_rfl) rfl (by kernel_rfl) (fun _ _ _ h => h) rfl (v_moveT (.inl rfl) rfl) ?_
        simp only [Act.put, List.setIfInBounds_toArray, List.set_cons_zero, List.set_cons_succ]
        refine wpB_take (i := 21) (by kernel_rfl) rfl (by kernel_rfl) (fun _ _ _ h => h) rfl (v_moveT (.inl rfl) rfl) ?_
        simp only [Act.put, List.setIfInBounds_toArray, List.set_cons_zero, List.set_cons_succ]
        refine wpB_take (i := 24) (by kernel_rfl) rfl (by kernel_rfl) (fun _ _ _ h => h) rfl (v_moveT (.inl rfl) rfl) ?_
        simp only [Act.put, List.setIfInBounds_toArray, List.set_cons_zero, List.set_cons_succ]
        refine wpB_take (i := 25) (by kernel_rfl) rfl (by kernel_rfl) (fun _ _ _ h => h) rfl (v_shrC (s := 10) (d := 1024) rfl rfl rfl (by decide) (by decide)) ?_
        simp only [Act.put, List.setIfInBounds_toArray, List.set_cons_zero, List.set_cons_succ]
        refine wpB_step (i := 6) (by kernel_rfl) rfl (st_gives hE2 rfl (run_call rfl Tryd.call29) (T1.out _) ?_)
        intro w3 hb3 hE3
        clear hE2
        refine ⟨fun _ => hb3, ?_⟩
        simp only [Act.put, List.setIfInBounds_toArray, List.set_cons_zero, List.set_cons_succ]
        refine wpB_step (i := 8) (by kernel_rfl) rfl (st_gives hE3 rfl (run_call rfl Tryd.call29) (T2.out _) ?_)
        intro w4 hb4 hE4
        clear hE3
        refine ⟨fun _ => hb4, ?_⟩
        simp only [Act.put, List.setIfInBounds_toArray, List.set_cons_zero, List.set_cons_succ]
        refine wpB_take (i := 9) (by kernel_rfl) rfl (by kernel_rfl) (fun _ _ _ h => h) rfl (v_bxor rfl rfl rfl r1 r2 (w_xor rfl r1 r2)) ?_
        simp only [Act.put, List.setIfInBounds_toArray, List.set_cons_zero, List.set_cons_succ]
        refine wpB_take (i := 12) (by kernel_rfl) rfl (by kernel_rfl) (fun _ _ _ h => h) rfl (v_bxor rfl rfl rfl x1 r5 (w_xor rfl x1 r5)) ?_
        simp only [Act.put, List.setIfInBounds_toArray, List.set_cons_zero, List.set_cons_succ]
        rw [E0.out]
        refine wpB_take (i := 13) (by kernel_rfl) rfl (by kernel_rfl) (fun _ _ _ h => h) rfl (v_add rfl rfl rfl (w_m32 _)) ?_
        simp only [Act.put, List.setIfInBounds_toArray, List.set_cons_zero, List.set_cons_succ]
        refine wpB_take (i := 18) (by kernel_rfl) rfl (by kernel_rfl) (fun _ _ _ h => h) rfl (v_add rfl rfl rfl (w_m32 _)) ?_
        simp only [Act.put, List.setIfInBounds_toArray, List.set_cons_zero, List.set_cons_succ]
        refine wpB_step (i := 20) (by kernel_rfl) rfl (st_gives hE4 rfl (run_call rfl Tryd.call29) (T3.out _) ?_)
        intro w5 hb5 hE5
        clear hE4
        refine ⟨fun _ => hb5, ?_⟩
        simp only [Act.put, List.setIfInBounds_toArray, List.set_cons_zero, List.set_cons_succ]
        refine wpB_step (i := 22) (by kernel_rfl) rfl (st_gives hE5 rfl (run_call rfl Tryd.call29) (T4.out _) ?_)
        intro w6 hb6 hE6
        clear hE5
        refine ⟨fun _ => hb6, ?_⟩
        simp only [Act.put, List.setIfInBounds_toArray, List.set_cons_zero, List.set_cons_succ]
        refine wpB_take (i := 23) (by kernel_rfl) rfl (by kernel_rfl) (fun _ _ _ h => h) rfl (v_bxor rfl rfl rfl r3 r4 (w_xor rfl r3 r4)) ?_
        simp only [Act.put, List.setIfInBounds_toArray, List.set_cons_zero, List.set_cons_succ]
        refine wpB_take (i := 26) (by kernel_rfl) rfl (by kernel_rfl) (fun _ _ _ h => h) rfl (v_bxor rfl rfl rfl x2 r6 (w_xor rfl x2 r6)) ?_
        simp only [Act.put, List.setIfInBounds_toArray, List.set_cons_zero, List.set_cons_succ]
        rw [E1.out]
        refine wpB_take (i := 27) (by kernel_rfl) rfl (by kernel_rfl) (fun _ _ _ h => h) rfl (v_add rfl rfl rfl (w_m32 _)) ?_
        simp only [Act.put, List.setIfInBounds_toArray, List.set_cons_zero, List.set_cons_succ]
        rw [Hsum.out]
        refine wpB_take (i := 28) (by kernel_rfl) rfl (by kernel_rfl) (fun _ _ _ h => h) rfl (v_indexA0 rfl rfl rfl Tryd.underlying61 (by kernel_rfl) (by first | assumption | omega)) ?_
        simp only [Act.put, List.setIfInBounds_toArray, List.set_cons_zero, List.set_cons_succ]
        refine wpB_step (i := 29) (by kernel_rfl) rfl (st_putN (i := 0) hE6 rfl rfl rfl rfl rfl (by kernel_rfl) (by first | assumption | omega | (simp only [List.length_set, List.length_replicate]; first | assumption | omega)) ?_)
        intro w7 hE7
        clear hE6
        simp only [List.set_cons_zero, List.set_cons_succ] at hE7
        refine ⟨fun h => absurd h (by decide), ?_⟩
        simp only [Act.put, List.setIfInBounds_toArray, List.set_cons_zero, List.set_cons_succ]
        refine wpB_done (by kernel_rfl) ?_ _
        rw [HS.out] at hE7
        repeat ((fail_if_success (with_reducible show wpList _ _ _ (List.cons _ _) _ _)); (fail_if_success (with_reducible show Code.wp _ (Code.region _ _ true) _ _ _)); go_step)
        refine wl_step (st_val rfl (v_add (n := 1) rfl rfl rfl (w_i64 (by omega))) ?_)
        simp only [Act.put, List.setIfInBounds_toArray, List.set_cons_zero, List.set_cons_succ]
        refine wl_step (st_val rfl (v_moveT (.inl rfl) rfl) ?_)
        simp only [Act.put, List.setIfInBounds_toArray, List.set_cons_zero, List.set_cons_succ]
        go_wp2
        go_roundw
        case rel => exact ⟨K + 1, by omega, rfl, hE7⟩
        case measure => simp [intOf]; omega
    · have hK' : K = 64 := by omega
      subst hK'
      obtain ⟨W, hW⟩ : ∃ W, SC 64 = W := ⟨_, rfl⟩
      rw [hW] at hE0 hSl
      have HW := Lib.hid hW
      clear hW
      repeat ((fail_if_success (with_reducible show wpList _ _ _ (List.cons _ _) _ _)); (fail_if_success (with_reducible show Code.wp _ (Code.region _ _ true) _ _ _)); go_step)
      refine wl_step (st_val rfl (v_lss (n := 64) rfl rfl rfl) ?_)
      simp only [Act.put, List.setIfInBounds_toArray, List.set_cons_zero, List.set_cons_succ]
      repeat ((fail_if_success (with_reducible show wpList _ _ _ (List.cons _ _) _ _)); (fail_if_success (with_reducible show Code.wp _ (Code.region _ _ true) _ _ _)); go_step)
      refine wl_step (st_val rfl (v_load (i := 2) hE0 rfl rfl rfl Tryd.underlying57 rfl (sz_of (n := 8) (by kernel_rfl) (by first | (simp only [ints_size, digs_length, List.length_replicate, List.length_cons, List.length_nil]; done) | (simp only [ints_size, digs_length, List.length_replicate, List.length_cons, List.length_nil, List.length_set, List.length_append]; omega) | rfl))) ?_)
      simp only [Act.put, List.setIfInBounds_toArray, List.set_cons_zero, List.set_cons_succ]
      refine wl_step (st_alloc (zs := ints .u32 (List.replicate 8 0)) hE0 rfl rfl (fun w => by kernel_rfl) ?_)
      intro g3 w1 hb1 hE1
      clear hE0
      simp only [Act.put, List.setIfInBounds_toArray, List.set_cons_zero, List.set_cons_succ]
      refine wl_step (st_store (i := 0) hE1 rfl rfl rfl rfl rfl (sz_of (n := 8) (by kernel_rfl) (by first | (simp only [ints_size, digs_length, List.length_replicate, List.length_cons, List.length_nil]; done) | (simp only [ints_size, digs_length, List.length_replicate, List.length_cons, List.length_nil, List.length_set, List.length_append]; omega) | rfl)) (by first | (simp only [ints_size, digs_length, List.length_replicate, List.length_cons, List.length_nil]; done) | (simp only [ints_size, digs_length, List.length_replicate, List.length_cons, List.length_nil, List.length_set, List.length_append]; omega) | rfl) (by first | exact ints_one _ _ | decide | rfl | simp [*]) ?_)
      intro w2 hE2
      clear hE1
      simp only [List.set_cons_zero, List.set_cons_succ] at hE2
      simp only [Act.put, List.setIfInBounds_toArray, List.set_cons_zero, List.set_cons_succ]
      repeat ((fail_if_success (with_reducible show wpList _ _ _ (List.cons _ _) _ _)); (fail_if_success (with_reducible show Code.wp _ (Code.region _ _ true) _ _ _)); go_step)
      refine wl_step (st_val rfl (v_moveC (.inl rfl)) ?_)
      simp only [Act.put, List.setIfInBounds_toArray, List.set_cons_zero, List.set_cons_succ]
      have hst : Env w [⟨g3, 57, ints .u32 (R 0)⟩, ⟨g2, 61, ints .u32 W⟩, ⟨g1, 57, ints .u32 (List.replicate 8 0)⟩, ⟨g0, 57, ints .u32 h⟩] w2 := by rw [R0.out]; exact hE2
      clear hE2
      go_wp2
      go_loopw [73] (fun i wr => ∃ n : Nat, n ≤ 64 ∧ i = .int .i64 n ∧ Env w [⟨g3, 57, ints .u32 (R n)⟩, ⟨g2, 61, ints .u32 W⟩, ⟨g1, 57, ints .u32 (List.replicate 8 0)⟩, ⟨g0, 57, ints .u32 h⟩] wr) (fun i _ => 64 - (intOf i).toNat)
      case atStart => exact ⟨0, Nat.zero_le _, rfl, hst⟩
      case round =>
        clear hst
        obtain ⟨n, hn, rfl, hE0⟩ := hrel
        have hVl := Rl.out n
        by_cases hn64 : n < 64
        · have hbd := Rb.out n
          have hnext := Rn.out n
          rw [HW.out] at hnext
          have hkn := Hkc.out n hn64
          have bk := Hkb.out n
          have bw := Sc.out 64 n
          rw [HW.out] at bw
          obtain ⟨kk, hkk⟩ : ∃ x, kc n = x := ⟨_, rfl⟩
          rw [hkk] at hnext hkn bk
          obtain ⟨ww, hww⟩ : ∃ x, W.getD n 0 = x := ⟨_, rfl⟩
          rw [hww] at hnext bw
          obtain ⟨V, hV⟩ : ∃ V, R n = V := ⟨_, rfl⟩
          rw [hV] at hE0 hVl hbd hnext
          have v0 := hbd 0
          have v1 := hbd 1
          have v2 := hbd 2
          have v3 := hbd 3
          have v4 := hbd 4
          have v5 := hbd 5
          have v6 := hbd 6
          have v7 := hbd 7
          obtain ⟨a0, ha0⟩ : ∃ x, V.getD 0 0 = x := ⟨_, rfl⟩
          rw [ha0] at hnext v0
          have A0 := Lib.hid ha0
          clear ha0
          obtain ⟨a1, ha1⟩ : ∃ x, V.getD 1 0 = x := ⟨_, rfl⟩
          rw [ha1] at hnext v1
          have A1 := Lib.hid ha1
          clear ha1
          obtain ⟨a2, ha2⟩ : ∃ x, V.getD 2 0 = x := ⟨_, rfl⟩
          rw [ha2] at hnext v2
          have A2 := Lib.hid ha2
          clear ha2
          obtain ⟨a3, ha3⟩ : ∃ x, V.getD 3 0 = x := ⟨_, rfl⟩
          rw [ha3] at hnext v3
          have A3 := Lib.hid ha3
          clear ha3
          obtain ⟨a4, ha4⟩ : ∃ x, V.getD 4 0 = x := ⟨_, rfl⟩
          rw [ha4] at hnext v4
          have A4 := Lib.hid ha4
          clear ha4
          obtain ⟨a5, ha5⟩ : ∃ x, V.getD 5 0 = x := ⟨_, rfl⟩
          rw [ha5] at hnext v5
          have A5 := Lib.hid ha5
          clear ha5
          obtain ⟨a6, ha6⟩ : ∃ x, V.getD 6 0 = x := ⟨_, rfl⟩
          rw [ha6] at hnext v6
          have A6 := Lib.hid ha6
          clear ha6
          obtain ⟨a7, ha7⟩ : ∃ x, V.getD 7 0 = x := ⟨_, rfl⟩
          rw [ha7] at hnext v7
          have A7 := Lib.hid ha7
          clear ha7
          have t1 := fun w => turn_any (x := a4) (n := 6) v4 (by decide) (by decide) w
          have t2 := fun w => turn_any (x := a4) (n := 11) v4 (by decide) (by decide) w
          have t3 := fun w => turn_any (x := a4) (n := 25) v4 (by decide) (by decide) w
          have t4 := fun w => turn_any (x := a0) (n := 2) v0 (by decide) (by decide) w
          have t5 := fun w => turn_any (x := a0) (n := 13) v0 (by decide) (by decide) w
          have t6 := fun w => turn_any (x := a0) (n := 22) v0 (by decide) (by decide) w
          have r1 := rr32 v4 6
          have r2 := rr32 v4 11
          have r3 := rr32 v4 25
          have r4 := rr32 v0 2
          have r5 := rr32 v0 13
          have r6 := rr32 v0 22
          have x1 := Nat.xor_lt_two_pow r1 r2
          have x2 := Nat.xor_lt_two_pow r4 r5
          have e1 : rr 32 6 a4 ^^^ rr 32 11 a4 ^^^ rr 32 25 a4 = bigS 32 (6, 11, 25) a4 := rfl
          have e2 : rr 32 2 a0 ^^^ rr 32 13 a0 ^^^ rr 32 22 a0 = bigS 32 (2, 13, 22) a0 := rfl
          have b0 : a0 < 2 ^ IntKind.u32.bits := v0
          have b1 : a1 < 2 ^ IntKind.u32.bits := v1
          have b2 : a2 < 2 ^ IntKind.u32.bits := v2
          have b4 : a4 < 2 ^ IntKind.u32.bits := v4
          have b5 : a5 < 2 ^ IntKind.u32.bits := v5
          have b6 : a6 < 2 ^ IntKind.u32.bits := v6
          have c1 : a4 &&& a5 < 2 ^ IntKind.u32.bits := Nat.lt_of_le_of_lt Nat.and_le_left b4
          have cn : 2 ^ IntKind.u32.bits - 1 - a4 < 2 ^ IntKind.u32.bits := Nat.lt_of_le_of_lt (Nat.sub_le _ _) (by decide)
          have c2 : (2 ^ IntKind.u32.bits - 1 - a4) &&& a6 < 2 ^ IntKind.u32.bits := Nat.lt_of_le_of_lt Nat.and_le_right b6
          have e3 : a4 &&& a5 ^^^ (2 ^ IntKind.u32.bits - 1 - a4) &&& a6 = chS 32 a4 a5 a6 := rfl
          have d1 : a0 &&& a1 < 2 ^ IntKind.u32.bits := Nat.lt_of_le_of_lt Nat.and_le_left b0
          have d2 : a0 &&& a2 < 2 ^ IntKind.u32.bits := Nat.lt_of_le_of_lt Nat.and_le_left b0
          have d3 : a1 &&& a2 < 2 ^ IntKind.u32.bits := Nat.lt_of_le_of_lt Nat.and_le_left b1
          have d4 := Nat.xor_lt_two_pow d1 d2
          have e4 : a0 &&& a1 ^^^ a0 &&& a2 ^^^ a1 &&& a2 = majS a0 a1 a2 := rfl
          have hsum : (((a7 + bigS 32 (6, 11, 25) a4) % 4294967296 + chS 32 a4 a5 a6) % 4294967296 + kk) % 4294967296 = (a7 + bigS 32 (6, 11, 25) a4 + chS 32 a4 a5 a6 + kk) % 4294967296 := by simp only [Nat.mod_add_mod]
          have hsum2 : ((a7 + bigS 32 (6, 11, 25) a4 + chS 32 a4 a5 a6 + kk) % 4294967296 + ww) % 4294967296 = (a7 + bigS 32 (6, 11, 25) a4 + chS 32 a4 a5 a6 + kk + ww) % 4294967296 := by simp only [Nat.mod_add_mod]
          obtain ⟨TT, hTT⟩ : ∃ x, (a7 + bigS 32 (6, 11, 25) a4 + chS 32 a4 a5 a6 + kk + ww) % 4294967296 = x := ⟨_, rfl⟩
          obtain ⟨UU, hUU⟩ : ∃ x, (bigS 32 (2, 13, 22) a0 + majS a0 a1 a2) % 4294967296 = x := ⟨_, rfl⟩
          rw [hTT] at hnext hsum2
          rw [hUU] at hnext
          obtain ⟨B0, hB0⟩ : ∃ x, (TT + UU) % 4294967296 = x := ⟨_, rfl⟩
          obtain ⟨B4, hB4⟩ : ∃ x, (a3 + TT) % 4294967296 = x := ⟨_, rfl⟩
          rw [hB0, hB4] at hnext
          have T1 := Lib.hid t1
          clear t1
          have T2 := Lib.hid t2
          clear t2
          have T3 := Lib.hid t3
          clear t3
          have T4 := Lib.hid t4
          clear t4
          have T5 := Lib.hid t5
          clear t5
          have T6 := Lib.hid t6
          clear t6
          have He1 := Lib.hid e1
          clear e1
          have He2 := Lib.hid e2
          clear e2
          have He3 := Lib.hid e3
          clear e3
          have He4 := Lib.hid e4
          clear e4
          have Hhsum := Lib.hid hsum
          clear hsum
          have Hhsum2 := Lib.hid hsum2
          clear hsum2
          have HhUU := Lib.hid hUU
          clear hUU
          have HhB0 := Lib.hid hB0
          clear hB0
          have HhB4 := Lib.hid hB4
          clear hB4
          have Hhkn := Lib.hid hkn
          clear hkn
          have Hhww := Lib.hid hww
          clear hww
          have Hhnext := Lib.hid hnext
          clear hnext
          clear hTT hV hkk hbd
          repeat ((fail_if_success (with_reducible show wpList _ _ _ (List.cons _ _) _ _)); (fail_if_success (with_reducible show Code.wp _ (Code.region _ _ true) _ _ _)); go_step)
          refine wl_step (st_val rfl (v_lss (n := 64) rfl rfl rfl) ?_)
          simp only [Act.put, List.setIfInBounds_toArray, List.set_cons_zero, List.set_cons_succ]
          repeat ((fail_if_success (with_reducible show wpList _ _ _ (List.cons _ _) _ _)); (fail_if_success (with_reducible show Code.wp _ (Code.region _ _ true) _ _ _)); go_step)
          refine wl_step (st_val rfl (v_moveT (.inl rfl) rfl) ?_)
          simp only [Act.put, List.setIfInBounds_toArray, List.set_cons_zero, List.set_cons_succ]
          refine wl_step (st_val rfl (v_moveT (.inr rfl) rfl) ?_)
          simp only [Act.put, List.setIfInBounds_toArray, List.set_cons_zero, List.set_cons_succ]
          repeat ((fail_if_success (with_reducible show wpList _ _ _ (List.cons _ _) _ _)); (fail_if_success (with_reducible show Code.wp _ (Code.region _ _ true) _ _ _)); go_step)
          refine wp_region_B (n := 6) 6 (by kernel_rfl) rfl hE0 ?_
          intro w1 hb1 hE1
          clear hE0
          refine wpB_take (i := 0) (by kernel_rfl) rfl (by kernel_rfl) (fun _ _ _ h => h) rfl (v_indexA0 (j := 0) rfl rfl rfl Tryd.underlying57 (by kernel_rfl) (by first | assumption | omega)) ?_
          simp only [Act.put, List.setIfInBounds_toArray, List.set_cons_zero, List.set_cons_succ]
          refine wpB_take (i := 1) (by kernel_rfl) rfl (by kernel_rfl) (fun _ _ _ h => h) rfl (v_cell rfl rfl Tryd.underlying56 rfl (Env.cellv (i := 0) hE1 rfl (ints_get? _ _ _ (by first | assumption | omega | (simp; done) | (simp; omega))))) ?_
          simp only [Act.put, List.setIfInBounds_toArray, List.set_cons_zero, List.set_cons_succ]
          rw [A0.out]
          refine wpB_take (i := 2) (by kernel_rfl) rfl (by kernel_rfl) (fun _ _ _ h => h) rfl (v_indexA0 (j := 4) rfl rfl rfl Tryd.underlying57 (by kernel_rfl) (by first | assumption | omega)) ?_
          simp only [Act.put, List.setIfInBounds_toArray, List.set_cons_zero, List.set_cons_succ]
          refine wpB_take (i := 3) (by kernel_rfl) rfl (by kernel_rfl) (fun _ _ _ h => h) rfl (v_cell rfl rfl Tryd.underlying56 rfl (Env.cellv (i := 0) hE1 rfl (ints_get? _ _ _ (by first | assumption | omega | (simp; done) | (simp; omega))))) ?_
          simp only [Act.put, List.setIfInBounds_toArray, List.set_cons_zero, List.set_cons_succ]
          rw [A4.out]
          refine wpB_take (i := 4) (by kernel_rfl) rfl (by kernel_rfl) (fun _ _ _ h => h) rfl (v_moveT (.inr rfl) rfl) ?_
          simp only [Act.put, List.setIfInBounds_toArray, List.set_cons_zero, List.set_cons_succ]
          refine wpB_take (i := 5) (by kernel_rfl) rfl (by kernel_rfl) (fun _ _ _ h => h) rfl (v_moveT (.inr rfl) rfl) ?_
          simp only [Act.put, List.setIfInBounds_toArray, List.set_cons_zero, List.set_cons_succ]
          refine wpB_done (by kernel_rfl) ?_ _
          repeat ((fail_if_success (with_reducible show wpList _ _ _ (List.cons _ _) _ _)); (fail_if_success (with_reducible show Code.wp _ (Code.region _ _ true) _ _ _)); go_step)
          refine wp_region_B (n := 33) 32 (by kernel_rfl) rfl hE1 ?_
          intro w2 hb2 hE2
          clear hE1
          refine wpB_take (i := 0) (by kernel_rfl) rfl (by kernel_rfl) (fun _ _ _ h => h) rfl (v_indexA0 (j := 7) rfl rfl rfl Tryd.underlying57 (by kernel_rfl) (by first | assumption | omega)) ?_
          simp only [Act.put, List.setIfInBounds_toArray, List.set_cons_zero, List.set_cons_succ]
          refine wpB_take (i := 1) (by kernel_rfl) rfl (by kernel_rfl) (fun _ _ _ h => h) rfl (v_cell rfl rfl Tryd.underlying56 rfl (Env.cellv (i := 0) hE2 rfl (ints_get? _ _ _ (by first | assumption | omega | (simp; done) | (simp; omega))))) ?_
          simp only [Act.put, List.setIfInBounds_toArray, List.set_cons_zero, List.set_cons_succ]
          rw [A7.out]
          refine wpB_take (i := 2) (by kernel_rfl) rfl (by kernel_rfl) (fun _ _ _ h => h) rfl (v_moveT (.inl rfl) rfl) ?_
          simp only [Act.put, List.setIfInBounds_toArray, List.set_cons_zero, List.set_cons_succ]
          refine wpB_take (i := 4) (by kernel_rfl) rfl (by kernel_rfl) (fun _ _ _ h => h) rfl (v_moveT (.inl rfl) rfl) ?_
          simp only [Act.put, List.setIfInBounds_toArray, List.set_cons_zero, List.set_cons_succ]
          refine wpB_take (i := 7) (by kernel_rfl) rfl (by kernel_rfl) (fun _ _ _ h => h) rfl (v_moveT (.inl rfl) rfl) ?_
          simp only [Act.put, List.setIfInBounds_toArray, List.set_cons_zero, List.set_cons_succ]
          refine wpB_take (i := 11) (by kernel_rfl) rfl (by kernel_rfl) (fun _ _ _ h => h) rfl (v_moveT (.inl rfl) rfl) ?_
          simp only [Act.put, List.setIfInBounds_toArray, List.set_cons_zero, List.set_cons_succ]
          refine wpB_take (i := 12) (by kernel_rfl) rfl (by kernel_rfl) (fun _ _ _ h => h) rfl (v_indexA0 (j := 5) rfl rfl rfl Tryd.underlying57 (by kernel_rfl) (by first | assumption | omega)) ?_
          simp only [Act.put, List.setIfInBounds_toArray, List.set_cons_zero, List.set_cons_succ]
          refine wpB_take (i := 13) (by kernel_rfl) rfl (by kernel_rfl) (fun _ _ _ h => h) rfl (v_cell rfl rfl Tryd.underlying56 rfl (Env.cellv (i := 0) hE2 rfl (ints_get? _ _ _ (by first | assumption | omega | (simp; done) | (simp; omega))))) ?_
          simp only [Act.put, List.setIfInBounds_toArray, List.set_cons_zero, List.set_cons_succ]
          rw [A5.out]
          refine wpB_take (i := 14) (by kernel_rfl) rfl (by kernel_rfl) (fun _ _ _ h => h) rfl (v_band rfl rfl rfl b4 b5 (w_and rfl b4)) ?_
          simp only [Act.put, List.setIfInBounds_toArray, List.set_cons_zero, List.set_cons_succ]
          refine wpB_take (i := 15) (by kernel_rfl) rfl (by kernel_rfl) (fun _ _ _ h => h) rfl (v_moveT (.inl rfl) rfl) ?_
          simp only [Act.put, List.setIfInBounds_toArray, List.set_cons_zero, List.set_cons_succ]
          refine wpB_take (i := 16) (by kernel_rfl) rfl (by kernel_rfl) (fun _ _ _ h => h) rfl (v_compl rfl rfl rfl b4) ?_
          simp only [Act.put, List.setIfInBounds_toArray, List.set_cons_zero, List.set_cons_succ]
          refine wpB_take (i := 17) (by kernel_rfl) rfl (by kernel_rfl) (fun _ _ _ h => h) rfl (v_indexA0 (j := 6) rfl rfl rfl Tryd.underlying57 (by kernel_rfl) (by first | assumption | omega)) ?_
          simp only [Act.put, List.setIfInBounds_toArray, List.set_cons_zero, List.set_cons_succ]
          refine wpB_take (i := 18) (by kernel_rfl) rfl (by kernel_rfl) (fun _ _ _ h => h) rfl (v_cell rfl rfl Tryd.underlying56 rfl (Env.cellv (i := 0) hE2 rfl (ints_get? _ _ _ (by first | assumption | omega | (simp; done) | (simp; omega))))) ?_
          simp only [Act.put, List.setIfInBounds_toArray, List.set_cons_zero, List.set_cons_succ]
          rw [A6.out]
          refine wpB_take (i := 19) (by kernel_rfl) rfl (by kernel_rfl) (fun _ _ _ h => h) rfl (v_band rfl rfl rfl cn b6 (w_and rfl cn)) ?_
          simp only [Act.put, List.setIfInBounds_toArray, List.set_cons_zero, List.set_cons_succ]
          refine wpB_take (i := 20) (by kernel_rfl) rfl (by kernel_rfl) (fun _ _ _ h => h) rfl (v_bxor rfl rfl rfl c1 c2 (w_xor rfl c1 c2)) ?_
          simp only [Act.put, List.setIfInBounds_toArray, List.set_cons_zero, List.set_cons_succ]
          rw [He3.out]
          refine wpB_take (i := 22) (by kernel_rfl) rfl (by kernel_rfl) (fun _ _ _ h => h) rfl (v_moveT (.inl rfl) rfl) ?_
          simp only [Act.put, List.setIfInBounds_toArray, List.set_cons_zero, List.set_cons_succ]
          refine wpB_take (i := 23) (by kernel_rfl) rfl (by kernel_rfl) (fun _ _ _ h => h) rfl (v_moveT (.inl rfl) rfl) ?_
          simp only [Act.put, List.setIfInBounds_toArray, List.set_cons_zero, List.set_cons_succ]
          refine wpB_take (i := 24) (by kernel_rfl) rfl (by kernel_rfl) (fun _ _ _ h => h) rfl (v_nil rfl rfl) ?_
          simp only [Act.put, List.setIfInBounds_toArray, List.set_cons_zero, List.set_cons_succ]
          refine wpB_take (i := 25) (by kernel_rfl) rfl (by kernel_rfl) (fun _ _ _ h => h) rfl (v_indexA0 rfl rfl rfl Tryd.underlying61 (by kernel_rfl) (by first | assumption | omega)) ?_
          simp only [Act.put, List.setIfInBounds_toArray, List.set_cons_zero, List.set_cons_succ]
          refine wpB_take (i := 26) (by kernel_rfl) rfl (by kernel_rfl) (fun _ _ _ h => h) rfl (v_cell rfl rfl Tryd.underlying56 rfl (fun w1 hb => Hhkn.out w1 (hE2.below.trans (hb.mono hE2.below.size)))) ?_
          simp only [Act.put, List.setIfInBounds_toArray, List.set_cons_zero, List.set_cons_succ]
          refine wpB_take (i := 28) (by kernel_rfl) rfl (by kernel_rfl) (fun _ _ _ h => h) rfl (v_moveT (.inl rfl) rfl) ?_
          simp only [Act.put, List.setIfInBounds_toArray, List.set_cons_zero, List.set_cons_succ]
          refine wpB_take (i := 29) (by kernel_rfl) rfl (by kernel_rfl) (fun _ _ _ h => h) rfl (v_indexA0 rfl rfl rfl Tryd.underlying61 (by kernel_rfl) (by first | assumption | omega)) ?_
          simp only [Act.put, List.setIfInBounds_toArray, List.set_cons_zero, List.set_cons_succ]
          refine wpB_take (i := 30) (by kernel_rfl) rfl (by kernel_rfl) (fun _ _ _ h => h) rfl (v_cell rfl rfl Tryd.underlying56 rfl (Env.cellv (i := 1) hE2 rfl (ints_get? _ _ _ (by first | assumption | omega | (simp; done) | (simp; omega))))) ?_
          simp only [Act.put, List.setIfInBounds_toArray, List.set_cons_zero, List.set_cons_succ]
          rw [Hhww.out]
          refine wpB_step (i := 3) (by kernel_rfl) rfl (st_gives hE2 rfl (run_call rfl Tryd.call29) (T1.out _) ?_)
          intro w3 hb3 hE3
          clear hE2
          refine ⟨fun _ => hb3, ?_⟩
          simp only [Act.put, List.setIfInBounds_toArray, List.set_cons_zero, List.set_cons_succ]
          refine wpB_step (i := 5) (by kernel_rfl) rfl (st_gives hE3 rfl (run_call rfl Tryd.call29) (T2.out _) ?_)
          intro w4 hb4 hE4
          clear hE3
          refine ⟨fun _ => hb4, ?_⟩
          simp only [Act.put, List.setIfInBounds_toArray, List.set_cons_zero, List.set_cons_succ]
          refine wpB_take (i := 6) (by kernel_rfl) rfl (by kernel_rfl) (fun _ _ _ h => h) rfl (v_bxor rfl rfl rfl r1 r2 (w_xor rfl r1 r2)) ?_
          simp only [Act.put, List.setIfInBounds_toArray, List.set_cons_zero, List.set_cons_succ]
          refine wpB_step (i := 8) (by kernel_rfl) rfl (st_gives hE4 rfl (run_call rfl Tryd.call29) (T3.out _) ?_)
          intro w5 hb5 hE5
          clear hE4
          refine ⟨fun _ => hb5, ?_⟩
          simp only [Act.put, List.setIfInBounds_toArray, List.set_cons_zero, List.set_cons_succ]
          refine wpB_take (i := 9) (by kernel_rfl) rfl (by kernel_rfl) (fun _ _ _ h => h) rfl (v_bxor rfl rfl rfl x1 r3 (w_xor rfl x1 r3)) ?_
          simp only [Act.put, List.setIfInBounds_toArray, List.set_cons_zero, List.set_cons_succ]
          rw [He1.out]
          refine wpB_take (i := 10) (by kernel_rfl) rfl (by kernel_rfl) (fun _ _ _ h => h) rfl (v_add rfl rfl rfl (w_m32 _)) ?_
          simp only [Act.put, List.setIfInBounds_toArray, List.set_cons_zero, List.set_cons_succ]
          refine wpB_take (i := 21) (by kernel_rfl) rfl (by kernel_rfl) (fun _ _ _ h => h) rfl (v_add rfl rfl rfl (w_m32 _)) ?_
          simp only [Act.put, List.setIfInBounds_toArray, List.set_cons_zero, List.set_cons_succ]
          refine wpB_take (i := 27) (by kernel_rfl) rfl (by kernel_rfl) (fun _ _ _ h => h) rfl (v_add rfl rfl rfl (w_m32 _)) ?_
          simp only [Act.put, List.setIfInBounds_toArray, List.set_cons_zero, List.set_cons_succ]
          rw [Hhsum.out]
          refine wpB_take (i := 31) (by kernel_rfl) rfl (by kernel_rfl) (fun _ _ _ h => h) rfl (v_add rfl rfl rfl (w_m32 _)) ?_
          simp only [Act.put, List.setIfInBounds_toArray, List.set_cons_zero, List.set_cons_succ]
          rw [Hhsum2.out]
          refine wpB_step (i := 32) (by kernel_rfl) rfl (st_val rfl (v_moveT (.inr rfl) rfl) ?_)
          refine ⟨fun _ => Below.refl _ _, ?_⟩
          simp only [Act.put, List.setIfInBounds_toArray, List.set_cons_zero, List.set_cons_succ]
          refine wpB_done (by kernel_rfl) ?_ _
          repeat ((fail_if_success (with_reducible show wpList _ _ _ (List.cons _ _) _ _)); (fail_if_success (with_reducible show Code.wp _ (Code.region _ _ true) _ _ _)); go_step)
          refine wp_region_B (n := 25) 24 (by kernel_rfl) rfl hE5 ?_
          intro w6 hb6 hE6
          clear hE5
          refine wpB_take (i := 0) (by kernel_rfl) rfl (by kernel_rfl) (fun _ _ _ h => h) rfl (v_moveT (.inl rfl) rfl) ?_
          simp only [Act.put, List.setIfInBounds_toArray, List.set_cons_zero, List.set_cons_succ]
          refine wpB_take (i := 2) (by kernel_rfl) rfl (by kernel_rfl) (fun _ _ _ h => h) rfl (v_moveT (.inl rfl) rfl) ?_
          simp only [Act.put, List.setIfInBounds_toArray, List.set_cons_zero, List.set_cons_succ]
          refine wpB_take (i := 5) (by kernel_rfl) rfl (by kernel_rfl) (fun _ _ _ h => h) rfl (v_moveT (.inl rfl) rfl) ?_
          simp only [Act.put, List.setIfInBounds_toArray, List.set_cons_zero, List.set_cons_succ]
          refine wpB_take (i := 8) (by kernel_rfl) rfl (by kernel_rfl) (fun _ _ _ h => h) rfl (v_moveT (.inl rfl) rfl) ?_
          simp only [Act.put, List.setIfInBounds_toArray, List.set_cons_zero, List.set_cons_succ]
          refine wpB_take (i := 9) (by kernel_rfl) rfl (by kernel_rfl) (fun _ _ _ h => h) rfl (v_indexA0 (j := 1) rfl rfl rfl Tryd.underlying57 (by kernel_rfl) (by first | assumption | omega)) ?_
          simp only [Act.put, List.setIfInBounds_toArray, List.set_cons_zero, List.set_cons_succ]
          refine wpB_take (i := 10) (by kernel_rfl) rfl (by kernel_rfl) (fun _ _ _ h => h) rfl (v_cell rfl rfl Tryd.underlying56 rfl (Env.cellv (i := 0) hE6 rfl (ints_get? _ _ _ (by first | assumption | omega | (simp; done) | (simp; omega))))) ?_
          simp only [Act.put, List.setIfInBounds_toArray, List.set_cons_zero, List.set_cons_succ]
          rw [A1.out]
          refine wpB_take (i := 11) (by kernel_rfl) rfl (by kernel_rfl) (fun _ _ _ h => h) rfl (v_band rfl rfl rfl b0 b1 (w_and rfl b0)) ?_
          simp only [Act.put, List.setIfInBounds_toArray, List.set_cons_zero, List.set_cons_succ]
          refine wpB_take (i := 12) (by kernel_rfl) rfl (by kernel_rfl) (fun _ _ _ h => h) rfl (v_moveT (.inl rfl) rfl) ?_
          simp only [Act.put, List.setIfInBounds_toArray, List.set_cons_zero, List.set_cons_succ]
          refine wpB_take (i := 13) (by kernel_rfl) rfl (by kernel_rfl) (fun _ _ _ h => h) rfl (v_indexA0 (j := 2) rfl rfl rfl Tryd.underlying57 (by kernel_rfl) (by first | assumption | omega)) ?_
          simp only [Act.put, List.setIfInBounds_toArray, List.set_cons_zero, List.set_cons_succ]
          refine wpB_take (i := 14) (by kernel_rfl) rfl (by kernel_rfl) (fun _ _ _ h => h) rfl (v_cell rfl rfl Tryd.underlying56 rfl (Env.cellv (i := 0) hE6 rfl (ints_get? _ _ _ (by first | assumption | omega | (simp; done) | (simp; omega))))) ?_
          simp only [Act.put, List.setIfInBounds_toArray, List.set_cons_zero, List.set_cons_succ]
          rw [A2.out]
          refine wpB_take (i := 15) (by kernel_rfl) rfl (by kernel_rfl) (fun _ _ _ h => h) rfl (v_band rfl rfl rfl b0 b2 (w_and rfl b0)) ?_
          simp only [Act.put, List.setIfInBounds_toArray, List.set_cons_zero, List.set_cons_succ]
          refine wpB_take (i := 16) (by kernel_rfl) rfl (by kernel_rfl) (fun _ _ _ h => h) rfl (v_bxor rfl rfl rfl d1 d2 (w_xor rfl d1 d2)) ?_
          simp only [Act.put, List.setIfInBounds_toArray, List.set_cons_zero, List.set_cons_succ]
          refine wpB_take (i := 17) (by kernel_rfl) rfl (by kernel_rfl) (fun _ _ _ h => h) rfl (v_indexA0 (j := 1) rfl rfl rfl Tryd.underlying57 (by kernel_rfl) (by first | assumption | omega)) ?_
          simp only [Act.put, List.setIfInBounds_toArray, List.set_cons_zero, List.set_cons_succ]
          refine wpB_take (i := 18) (by kernel_rfl) rfl (by kernel_rfl) (fun _ _ _ h => h) rfl (v_cell rfl rfl Tryd.underlying56 rfl (Env.cellv (i := 0) hE6 rfl (ints_get? _ _ _ (by first | assumption | omega | (simp; done) | (simp; omega))))) ?_
          simp only [Act.put, List.setIfInBounds_toArray, List.set_cons_zero, List.set_cons_succ]
          rw [A1.out]
          refine wpB_take (i := 19) (by kernel_rfl) rfl (by kernel_rfl) (fun _ _ _ h => h) rfl (v_indexA0 (j := 2) rfl rfl rfl Tryd.underlying57 (by kernel_rfl) (by first | assumption | omega)) ?_
          simp only [Act.put, List.setIfInBounds_toArray, List.set_cons_zero, List.set_cons_succ]
          refine wpB_take (i := 20) (by kernel_rfl) rfl (by kernel_rfl) (fun _ _ _ h => h) rfl (v_cell rfl rfl Tryd.underlying56 rfl (Env.cellv (i := 0) hE6 rfl (ints_get? _ _ _ (by first | assumption | omega | (simp; done) | (simp; omega))))) ?_
          simp only [Act.put, List.setIfInBounds_toArray, List.set_cons_zero, List.set_cons_succ]
          rw [A2.out]
          refine wpB_take (i := 21) (by kernel_rfl) rfl (by kernel_rfl) (fun _ _ _ h => h) rfl (v_band rfl rfl rfl b1 b2 (w_and rfl b1)) ?_
          simp only [Act.put, List.setIfInBounds_toArray, List.set_cons_zero, List.set_cons_succ]
          refine wpB_take (i := 22) (by kernel_rfl) rfl (by kernel_rfl) (fun _ _ _ h => h) rfl (v_bxor rfl rfl rfl d4 d3 (w_xor rfl d4 d3)) ?_
          simp only [Act.put, List.setIfInBounds_toArray, List.set_cons_zero, List.set_cons_succ]
          rw [He4.out]
          refine wpB_step (i := 1) (by kernel_rfl) rfl (st_gives hE6 rfl (run_call rfl Tryd.call29) (T4.out _) ?_)
          intro w7 hb7 hE7
          clear hE6
          refine ⟨fun _ => hb7, ?_⟩
          simp only [Act.put, List.setIfInBounds_toArray, List.set_cons_zero, List.set_cons_succ]
          refine wpB_step (i := 3) (by kernel_rfl) rfl (st_gives hE7 rfl (run_call rfl Tryd.call29) (T5.out _) ?_)
          intro w8 hb8 hE8
          clear hE7
          refine ⟨fun _ => hb8, ?_⟩
          simp only [Act.put, List.setIfInBounds_toArray, List.set_cons_zero, List.set_cons_succ]
          refine wpB_take (i := 4) (by kernel_rfl) rfl (by kernel_rfl) (fun _ _ _ h => h) rfl (v_bxor rfl rfl rfl r4 r5 (w_xor rfl r4 r5)) ?_
          simp only [Act.put, List.setIfInBounds_toArray, List.set_cons_zero, List.set_cons_succ]
          refine wpB_step (i := 6) (by kernel_rfl) rfl (st_gives hE8 rfl (run_call rfl Tryd.call29) (T6.out _) ?_)
          intro w9 hb9 hE9
          clear hE8
          refine ⟨fun _ => hb9, ?_⟩
          simp only [Act.put, List.setIfInBounds_toArray, List.set_cons_zero, List.set_cons_succ]
          refine wpB_take (i := 7) (by kernel_rfl) rfl (by kernel_rfl) (fun _ _ _ h => h) rfl (v_bxor rfl rfl rfl x2 r6 (w_xor rfl x2 r6)) ?_
          simp only [Act.put, List.setIfInBounds_toArray, List.set_cons_zero, List.set_cons_succ]
          rw [He2.out]
          refine wpB_take (i := 23) (by kernel_rfl) rfl (by kernel_rfl) (fun _ _ _ h => h) rfl (v_add rfl rfl rfl (w_m32 _)) ?_
          simp only [Act.put, List.setIfInBounds_toArray, List.set_cons_zero, List.set_cons_succ]
          rw [HhUU.out]
          refine wpB_step (i := 24) (by kernel_rfl) rfl (st_val rfl (v_moveT (.inr rfl) rfl) ?_)
          refine ⟨fun _ => Below.refl _ _, ?_⟩
          simp only [Act.put, List.setIfInBounds_toArray, List.set_cons_zero, List.set_cons_succ]
          refine wpB_done (by kernel_rfl) ?_ _
          repeat ((fail_if_success (with_reducible show wpList _ _ _ (List.cons _ _) _ _)); (fail_if_success (with_reducible show Code.wp _ (Code.region _ _ true) _ _ _)); go_step)
          refine wl_step (st_val rfl (v_moveT (.inl rfl) rfl) ?_)
          simp only [Act.put, List.setIfInBounds_toArray, List.set_cons_zero, List.set_cons_succ]
          refine wl_step (st_val rfl (v_moveT (.inl rfl) rfl) ?_)
          simp only [Act.put, List.setIfInBounds_toArray, List.set_cons_zero, List.set_cons_succ]
          refine wl_step (st_val rfl (v_add rfl rfl rfl (w_m32 _)) ?_)
          simp only [Act.put, List.setIfInBounds_toArray, List.set_cons_zero, List.set_cons_succ]
          rw [HhB0.out]
          refine wl_step (st_val rfl (v_indexA0 (j := 0) rfl rfl rfl Tryd.underlying57 (by kernel_rfl) (by first | assumption | omega)) ?_)
          simp only [Act.put, List.setIfInBounds_toArray, List.set_cons_zero, List.set_cons_succ]
          refine wl_step (st_val rfl (v_cell rfl rfl Tryd.underlying56 rfl (Env.cellv (i := 0) hE9 rfl (ints_get? _ _ _ (by first | assumption | omega | (simp; done) | (simp; omega))))) ?_)
          simp only [Act.put, List.setIfInBounds_toArray, List.set_cons_zero, List.set_cons_succ]
          rw [A0.out]
          refine wl_step (st_val rfl (v_indexA0 (j := 1) rfl rfl rfl Tryd.underlying57 (by kernel_rfl) (by first | assumption | omega)) ?_)
          simp only [Act.put, List.setIfInBounds_toArray, List.set_cons_zero, List.set_cons_succ]
          refine wl_step (st_val rfl (v_cell rfl rfl Tryd.underlying56 rfl (Env.cellv (i := 0) hE9 rfl (ints_get? _ _ _ (by first | assumption | omega | (simp; done) | (simp; omega))))) ?_)
          simp only [Act.put, List.setIfInBounds_toArray, List.set_cons_zero, List.set_cons_succ]
          rw [A1.out]
          refine wl_step (st_val rfl (v_indexA0 (j := 2) rfl rfl rfl Tryd.underlying57 (by kernel_rfl) (by first | assumption | omega)) ?_)
          simp only [Act.put, List.setIfInBounds_toArray, List.set_cons_zero, List.set_cons_succ]
          refine wl_step (st_val rfl (v_cell rfl rfl Tryd.underlying56 rfl (Env.cellv (i := 0) hE9 rfl (ints_get? _ _ _ (by first | assumption | omega | (simp; done) | (simp; omega))))) ?_)
          simp only [Act.put, List.setIfInBounds_toArray, List.set_cons_zero, List.set_cons_succ]
          rw [A2.out]
          refine wl_step (st_val rfl (v_indexA0 (j := 3) rfl rfl rfl Tryd.underlying57 (by kernel_rfl) (by first | assumption | omega)) ?_)
          simp only [Act.put, List.setIfInBounds_toArray, List.set_cons_zero, List.set_cons_succ]
          refine wl_step (st_val rfl (v_cell rfl rfl Tryd.underlying56 rfl (Env.cellv (i := 0) hE9 rfl (ints_get? _ _ _ (by first | assumption | omega | (simp; done) | (simp; omega))))) ?_)
          simp only [Act.put, List.setIfInBounds_toArray, List.set_cons_zero, List.set_cons_succ]
          rw [A3.out]
          refine wl_step (st_val rfl (v_moveT (.inl rfl) rfl) ?_)
          simp only [Act.put, List.setIfInBounds_toArray, List.set_cons_zero, List.set_cons_succ]
          refine wl_step (st_val rfl (v_add rfl rfl rfl (w_m32 _)) ?_)
          simp only [Act.put, List.setIfInBounds_toArray, List.set_cons_zero, List.set_cons_succ]
          rw [HhB4.out]
          refine wl_step (st_val rfl (v_indexA0 (j := 4) rfl rfl rfl Tryd.underlying57 (by kernel_rfl) (by first | assumption | omega)) ?_)
          simp only [Act.put, List.setIfInBounds_toArray, List.set_cons_zero, List.set_cons_succ]
          refine wl_step (st_val rfl (v_cell rfl rfl Tryd.underlying56 rfl (Env.cellv (i := 0) hE9 rfl (ints_get? _ _ _ (by first | assumption | omega | (simp; done) | (simp; omega))))) ?_)
          simp only [Act.put, List.setIfInBounds_toArray, List.set_cons_zero, List.set_cons_succ]
          rw [A4.out]
          refine wl_step (st_val rfl (v_indexA0 (j := 5) rfl rfl rfl Tryd.underlying57 (by kernel_rfl) (by first | assumption | omega)) ?_)
          simp only [Act.put, List.setIfInBounds_toArray, List.set_cons_zero, List.set_cons_succ]
          refine wl_step (st_val rfl (v_cell rfl rfl Tryd.underlying56 rfl (Env.cellv (i := 0) hE9 rfl (ints_get? _ _ _ (by first | assumption | omega | (simp; done) | (simp; omega))))) ?_)
          simp only [Act.put, List.setIfInBounds_toArray, List.set_cons_zero, List.set_cons_succ]
          rw [A5.out]
          refine wl_step (st_val rfl (v_indexA0 (j := 6) rfl rfl rfl Tryd.underlying57 (by kernel_rfl) (by first | assumption | omega)) ?_)
          simp only [Act.put, List.setIfInBounds_toArray, List.set_cons_zero, List.set_cons_succ]
          refine wl_step (st_val rfl (v_cell rfl rfl Tryd.underlying56 rfl (Env.cellv (i := 0) hE9 rfl (ints_get? _ _ _ (by first | assumption | omega | (simp; done) | (simp; omega))))) ?_)
          simp only [Act.put, List.setIfInBounds_toArray, List.set_cons_zero, List.set_cons_succ]
          rw [A6.out]
          refine wl_step (st_val rfl (v_built (k := .u32) (l := [B0, a0, a1, a2, B4, a4, a5, a6]) rfl (fun w => by kernel_rfl)) ?_)
          simp only [Act.put, List.setIfInBounds_toArray, List.set_cons_zero, List.set_cons_succ]
          refine wl_step (st_store (i := 0) hE9 rfl rfl rfl rfl rfl (sz_of (n := 8) (by kernel_rfl) (by first | (simp only [ints_size, digs_length, List.length_replicate, List.length_cons, List.length_nil]; done) | (simp only [ints_size, digs_length, List.length_replicate, List.length_cons, List.length_nil, List.length_set, List.length_append]; omega) | rfl)) (by first | (simp only [ints_size, digs_length, List.length_replicate, List.length_cons, List.length_nil]; done) | (simp only [ints_size, digs_length, List.length_replicate, List.length_cons, List.length_nil, List.length_set, List.length_append]; omega) | rfl) (by first | exact ints_one _ _ | decide | rfl | simp [*]) ?_)
          intro w10 hE10
          clear hE9
          simp only [List.set_cons_zero, List.set_cons_succ] at hE10
          simp only [Act.put, List.setIfInBounds_toArray, List.set_cons_zero, List.set_cons_succ]
          rw [← Hhnext.out] at hE10
          repeat ((fail_if_success (with_reducible show wpList _ _ _ (List.cons _ _) _ _)); (fail_if_success (with_reducible show Code.wp _ (Code.region _ _ true) _ _ _)); go_step)
          refine wl_step (st_val rfl (v_add (n := 1) rfl rfl rfl (w_i64 (by omega))) ?_)
          simp only [Act.put, List.setIfInBounds_toArray, List.set_cons_zero, List.set_cons_succ]
          refine wl_step (st_val rfl (v_moveT (.inl rfl) rfl) ?_)
          simp only [Act.put, List.setIfInBounds_toArray, List.set_cons_zero, List.set_cons_succ]
          go_wp2
          go_roundw
          case rel => exact ⟨n + 1, by omega, rfl, hE10⟩
          case measure => simp [intOf]; omega
        · have hn' : n = 64 := by omega
          subst hn'
          have hBg := Bl.out
          obtain ⟨V, hV⟩ : ∃ V, R 64 = V := ⟨_, rfl⟩
          rw [hV] at hE0 hVl hBg
          have HBg := Lib.hid hBg
          have hm0 : h = mixAt B h 0 := rfl
          have hm8 : mixAt B h 8 = B := by
            unfold mixAt
            rw [List.take_of_length_le (by omega), List.drop_of_length_le (by omega), List.append_nil]
          have Hm8 := Lib.hid hm8
          clear hBg hV hm8
          repeat ((fail_if_success (with_reducible show wpList _ _ _ (List.cons _ _) _ _)); (fail_if_success (with_reducible show Code.wp _ (Code.region _ _ true) _ _ _)); go_step)
          refine wl_step (st_val rfl (v_lss (n := 64) rfl rfl rfl) ?_)
          simp only [Act.put, List.setIfInBounds_toArray, List.set_cons_zero, List.set_cons_succ]
          repeat ((fail_if_success (with_reducible show wpList _ _ _ (List.cons _ _) _ _)); (fail_if_success (with_reducible show Code.wp _ (Code.region _ _ true) _ _ _)); go_step)
          refine wl_step (st_val rfl (v_moveC (.inl rfl)) ?_)
          simp only [Act.put, List.setIfInBounds_toArray, List.set_cons_zero, List.set_cons_succ]
          have hst : Env w [⟨g3, 57, ints .u32 V⟩, ⟨g2, 61, ints .u32 W⟩, ⟨g1, 57, ints .u32 (List.replicate 8 0)⟩, ⟨g0, 57, ints .u32 (mixAt B h 0)⟩] wr := hE0
          clear hm0 hE0
          go_wp2
          go_loopw [157] (fun i wr => ∃ n : Nat, n ≤ 8 ∧ i = .int .i64 n ∧ Env w [⟨g3, 57, ints .u32 V⟩, ⟨g2, 61, ints .u32 W⟩, ⟨g1, 57, ints .u32 (List.replicate 8 0)⟩, ⟨g0, 57, ints .u32 (mixAt B h n)⟩] wr) (fun i _ => 8 - (intOf i).toNat)
          case atStart => exact ⟨0, Nat.zero_le _, rfl, hst⟩
          case round =>
            clear hst
            obtain ⟨n, hn, rfl, hE0⟩ := hrel
            have hml := mixAt_len hB8 hh hn
            by_cases hn8 : n < 8
            · have hg := mixAt_get (h := h) hB8 hn8
              have hs := mixAt_set hB8 hh hn8
              rw [HBg.out n hn8] at hs
              obtain ⟨M, hM⟩ : ∃ M, mixAt B h n = M := ⟨_, rfl⟩
              rw [hM] at hg hs hml hE0
              have HG := Lib.hid hg
              have HS := Lib.hid hs
              clear hg hs hM
              repeat ((fail_if_success (with_reducible show wpList _ _ _ (List.cons _ _) _ _)); (fail_if_success (with_reducible show Code.wp _ (Code.region _ _ true) _ _ _)); go_step)
              refine wl_step (st_val rfl (v_lss (n := 8) rfl rfl rfl) ?_)
              simp only [Act.put, List.setIfInBounds_toArray, List.set_cons_zero, List.set_cons_succ]
              repeat ((fail_if_success (with_reducible show wpList _ _ _ (List.cons _ _) _ _)); (fail_if_success (with_reducible show Code.wp _ (Code.region _ _ true) _ _ _)); go_step)
              refine wl_step (st_val rfl (v_moveT (.inl rfl) rfl) ?_)
              simp only [Act.put, List.setIfInBounds_toArray, List.set_cons_zero, List.set_cons_succ]
              refine wl_step (st_val rfl (v_moveT (.inr rfl) rfl) ?_)
              simp only [Act.put, List.setIfInBounds_toArray, List.set_cons_zero, List.set_cons_succ]
              repeat ((fail_if_success (with_reducible show wpList _ _ _ (List.cons _ _) _ _)); (fail_if_success (with_reducible show Code.wp _ (Code.region _ _ true) _ _ _)); go_step)
              refine wp_region_B (n := 9) 8 (by kernel_rfl) rfl hE0 ?_
              intro w1 hb1 hE1
              clear hE0
              refine wpB_take (i := 0) (by kernel_rfl) rfl (by kernel_rfl) (fun _ _ _ h => h) rfl (v_moveT (.inl rfl) rfl) ?_
              simp only [Act.put, List.setIfInBounds_toArray, List.set_cons_zero, List.set_cons_succ]
              refine wpB_take (i := 1) (by kernel_rfl) rfl (by kernel_rfl) (fun _ _ _ h => h) rfl (v_indexA0 rfl rfl rfl Tryd.underlying57 (by kernel_rfl) (by first | assumption | omega)) ?_
              simp only [Act.put, List.setIfInBounds_toArray, List.set_cons_zero, List.set_cons_succ]
              refine wpB_take (i := 2) (by kernel_rfl) rfl (by kernel_rfl) (fun _ _ _ h => h) rfl (v_cell rfl rfl Tryd.underlying56 rfl (Env.cellv (i := 3) hE1 rfl (ints_get? _ _ _ (by first | assumption | omega | (simp; done) | (simp; omega))))) ?_
              simp only [Act.put, List.setIfInBounds_toArray, List.set_cons_zero, List.set_cons_succ]
              rw [HG.out]
              refine wpB_take (i := 3) (by kernel_rfl) rfl (by kernel_rfl) (fun _ _ _ h => h) rfl (v_moveT (.inl rfl) rfl) ?_
              simp only [Act.put, List.setIfInBounds_toArray, List.set_cons_zero, List.set_cons_succ]
              refine wpB_take (i := 4) (by kernel_rfl) rfl (by kernel_rfl) (fun _ _ _ h => h) rfl (v_indexA0 rfl rfl rfl Tryd.underlying57 (by kernel_rfl) (by first | assumption | omega)) ?_
              simp only [Act.put, List.setIfInBounds_toArray, List.set_cons_zero, List.set_cons_succ]
              refine wpB_take (i := 5) (by kernel_rfl) rfl (by kernel_rfl) (fun _ _ _ h => h) rfl (v_cell rfl rfl Tryd.underlying56 rfl (Env.cellv (i := 0) hE1 rfl (ints_get? _ _ _ (by first | assumption | omega | (simp; done) | (simp; omega))))) ?_
              simp only [Act.put, List.setIfInBounds_toArray, List.set_cons_zero, List.set_cons_succ]
              refine wpB_take (i := 6) (by kernel_rfl) rfl (by kernel_rfl) (fun _ _ _ h => h) rfl (v_add rfl rfl rfl (w_m32 _)) ?_
              simp only [Act.put, List.setIfInBounds_toArray, List.set_cons_zero, List.set_cons_succ]
              refine wpB_take (i := 7) (by kernel_rfl) rfl (by kernel_rfl) (fun _ _ _ h => h) rfl (v_indexA0 rfl rfl rfl Tryd.underlying57 (by kernel_rfl) (by first | assumption | omega)) ?_
              simp only [Act.put, List.setIfInBounds_toArray, List.set_cons_zero, List.set_cons_succ]
              refine wpB_step (i := 8) (by kernel_rfl) rfl (st_putN (i := 3) hE1 rfl rfl rfl rfl rfl (by kernel_rfl) (by first | assumption | omega | (simp only [List.length_set, List.length_replicate]; first | assumption | omega)) ?_)
              intro w2 hE2
              clear hE1
              simp only [List.set_cons_zero, List.set_cons_succ] at hE2
              refine ⟨fun h => absurd h (by decide), ?_⟩
              simp only [Act.put, List.setIfInBounds_toArray, List.set_cons_zero, List.set_cons_succ]
              refine wpB_done (by kernel_rfl) ?_ _
              rw [HS.out] at hE2
              repeat ((fail_if_success (with_reducible show wpList _ _ _ (List.cons _ _) _ _)); (fail_if_success (with_reducible show Code.wp _ (Code.region _ _ true) _ _ _)); go_step)
              refine wl_step (st_val rfl (v_add (n := 1) rfl rfl rfl (w_i64 (by omega))) ?_)
              simp only [Act.put, List.setIfInBounds_toArray, List.set_cons_zero, List.set_cons_succ]
              refine wl_step (st_val rfl (v_moveT (.inl rfl) rfl) ?_)
              simp only [Act.put, List.setIfInBounds_toArray, List.set_cons_zero, List.set_cons_succ]
              go_wp2
              go_roundw
              case rel => exact ⟨n + 1, by omega, rfl, hE2⟩
              case measure => simp [intOf]; omega
            · have hn' : n = 8 := by omega
              subst hn'
              rw [Hm8.out] at hE0
              repeat ((fail_if_success (with_reducible show wpList _ _ _ (List.cons _ _) _ _)); (fail_if_success (with_reducible show Code.wp _ (Code.region _ _ true) _ _ _)); go_step)
              refine wl_step (st_val rfl (v_lss (n := 8) rfl rfl rfl) ?_)
              simp only [Act.put, List.setIfInBounds_toArray, List.set_cons_zero, List.set_cons_succ]
              repeat ((fail_if_success (with_reducible show wpList _ _ _ (List.cons _ _) _ _)); (fail_if_success (with_reducible show Code.wp _ (Code.region _ _ true) _ _ _)); go_step)
              refine wl_step (st_val rfl (v_load (i := 3) hE0 rfl rfl rfl Tryd.underlying57 rfl (sz_of (n := 8) (by kernel_rfl) (by first | (simp only [ints_size, digs_length, List.length_replicate, List.length_cons, List.length_nil]; done) | (simp only [ints_size, digs_length, List.length_replicate, List.length_cons, List.length_nil, List.length_set, List.length_append]; omega) | rfl))) ?_)
              simp only [Act.put, List.setIfInBounds_toArray, List.set_cons_zero, List.set_cons_succ]
              refine wl_step (st_store (i := 2) hE0 rfl rfl rfl rfl rfl (sz_of (n := 8) (by kernel_rfl) (by first | (simp only [ints_size, digs_length, List.length_replicate, List.length_cons, List.length_nil]; done) | (simp only [ints_size, digs_length, List.length_replicate, List.length_cons, List.length_nil, List.length_set, List.length_append]; omega) | rfl)) (by first | (simp only [ints_size, digs_length, List.length_replicate, List.length_cons, List.length_nil]; done) | (simp only [ints_size, digs_length, List.length_replicate, List.length_cons, List.length_nil, List.length_set, List.length_append]; omega) | rfl) (by first | exact ints_one _ _ | decide | rfl | simp [*]) ?_)
              intro w1 hE1
              clear hE0
              simp only [List.set_cons_zero, List.set_cons_succ] at hE1
              simp only [Act.put, List.setIfInBounds_toArray, List.set_cons_zero, List.set_cons_succ]
              repeat ((fail_if_success (with_reducible show wpList _ _ _ (List.cons _ _) _ _)); (fail_if_success (with_reducible show Code.wp _ (Code.region _ _ true) _ _ _)); go_step)
              refine bodyPost_ret (results_cell_row rfl _ _ _ _ _ (0, 0) _ rfl (hE1.get (i := 2) rfl) Tryd.underlying57 rfl (sz_of (n := 8) (by kernel_rfl) (by first | (simp only [ints_size, digs_length, List.length_replicate, List.length_cons, List.length_nil]; done) | (simp only [ints_size, digs_length, List.length_replicate, List.length_cons, List.length_nil, List.length_set, List.length_append]; omega) | rfl))) rfl ⟨rfl, hE1.below⟩
end Go.Proofs.YtndnmghlgcamfaaDoor
