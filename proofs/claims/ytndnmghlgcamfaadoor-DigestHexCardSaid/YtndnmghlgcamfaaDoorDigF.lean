/-
  Layer 3: what fills a message up.
-/
import Derived.Test.YtndnmghlgcamfaaDoorDigG
import Derived.Test.YtndnmghlgcamfaaDoorApz
import Derived.Test.YtndnmghlgcamfaaDoorBsl
namespace Go.Proofs.YtndnmghlgcamfaaDoor
open Go.RowKit
set_option maxRecDepth 100000
set_option linter.unusedVariables false
set_option linter.unusedSimpArgs false

theorem info_u8 : ∃ i, Tryd.prog.info? 5 = some i ∧ i.zero = some (.int .u8 0) ∧ i.size = 1 ∧ i.bytes = 1 := info_parts (P := Tryd.prog) (by kernel_rfl)
/-- How many zeros stand behind the mark. -/
def padK (n B r : Nat) : Nat := (B - (n + 1 + r) % B) % B
theorem padK_zero {n B r : Nat} (hB : 0 < B) : (n + (1 + padK n B r) + r) % B = 0 := by
  unfold padK
  have h1 := Nat.mod_lt (n + 1 + r) hB
  by_cases h : (n + 1 + r) % B = 0
  · rw [h, Nat.sub_zero, Nat.mod_self, Nat.add_zero]
    exact h
  · rw [Nat.mod_eq_of_lt (show B - (n + 1 + r) % B < B by omega)]
    have h2 := Nat.div_add_mod (n + 1 + r) B
    have e : n + (1 + (B - (n + 1 + r) % B)) + r = B * ((n + 1 + r) / B) + B := by omega
    rw [e, Nat.mul_add_mod, Nat.mod_self]
theorem padK_min {n B r j : Nat} (hB : 0 < B) (hj : j < padK n B r) : (n + (1 + j) + r) % B ≠ 0 := by
  unfold padK at hj
  have h1 := Nat.mod_lt (n + 1 + r) hB
  by_cases h : (n + 1 + r) % B = 0
  · rw [h, Nat.sub_zero, Nat.mod_self] at hj
    omega
  · rw [Nat.mod_eq_of_lt (show B - (n + 1 + r) % B < B by omega)] at hj
    have h2 := Nat.div_add_mod (n + 1 + r) B
    have e : n + (1 + j) + r = B * ((n + 1 + r) / B) + ((n + 1 + r) % B + j) := by omega
    rw [e, Nat.mul_add_mod, Nat.mod_eq_of_lt (by omega)]
    omega
theorem padK_lt {n B r : Nat} (hB : 0 < B) : padK n B r < B := Nat.mod_lt _ hB
/-- What fills a message up. -/
def fillL (n B r : Nat) : List Nat := 128 :: (List.replicate (padK n B r + (r - 8)) 0 ++ beD 8 (n * 8 % 18446744073709551616))
def valLen : Value → Nat
  | .slice _ n _ => n
  | _ => 0

theorem nats_take (k : IntKind) (l : List Nat) (n : Nat) : (nats k l).take n = nats k (l.take n) := by
  unfold nats ints
  simp [List.map_take]
set_option maxHeartbeats 4000000 in
theorem fill_any {n B r : Nat} (hn : n < 1099511627776) (hB : 0 < B) (hB2 : B ≤ 256) (hr : 8 ≤ r) (hr2 : r ≤ 16) (w : World) :
    Calls Tryd.prog 23 #[.int .i64 (n : Int), .int .i64 (B : Int), .int .i64 (r : Int)] w fun e w' => ∃ v, e = .returned v ∧ Sl w [] 5 (nats .u8 (fillL n B r)) v w' := by
  obtain ⟨i0, hi, hz, hs, hby⟩ := info_u8
  have Hi := Lib.hid hi
  have Hz := Lib.hid hz
  have Hs := Lib.hid hs
  have Hby := Lib.hid hby
  have hpl := padK_lt (n := n) (r := r) hB
  have Hp0 := Lib.hid (padK_zero (n := n) (r := r) hB)
  have Hpm := Lib.hid (fun j (hj : j < padK n B r) => padK_min (n := n) (r := r) hB hj)
  obtain ⟨pk, hpk⟩ : ∃ pk, padK n B r = pk := ⟨_, rfl⟩
  have HF : Hid (fillL n B r = 128 :: (List.replicate (pk + (r - 8)) 0 ++ beD 8 (n * 8 % 18446744073709551616))) := Lib.hid (by unfold fillL; rw [hpk])
  rw [hpk] at hpl Hp0 Hpm
  clear hi hz hs hby hpk
  have hE0 := Env.nil w
  go_enter Tryd.func23, Tryd.ntmps23
  repeat ((fail_if_success (with_reducible show wpList _ _ _ (List.cons _ _) _ _)); (fail_if_success (with_reducible show Code.wp _ (Code.region _ _ true) _ _ _)); go_step)
  refine wl_step (st_val rfl (v_moveC (.inr rfl)) ?_)
  simp only [Act.put, List.setIfInBounds_toArray, List.set_cons_zero, List.set_cons_succ]
  repeat ((fail_if_success (with_reducible show wpList _ _ _ (List.cons _ _) _ _)); (fail_if_success (with_reducible show Code.wp _ (Code.region _ _ true) _ _ _)); go_step)
  refine wl_step (st_buildNums (k := .u8) [128] hE0 rfl rfl (by first | (kernel_rfl; done) | (simp only [List.map_cons, List.map_nil, List.zipIdx_cons, List.zipIdx_nil]; rfl)) rfl (by decide) (by decide) Tryd.underlying22 (by kernel_rfl) Tryd.zeroValue5 ?_)
  intro g0 w1 hb1 hE1
  clear hE0
  simp only [Act.put, List.setIfInBounds_toArray, List.set_cons_zero, List.set_cons_succ]
  refine wl_step (st_val rfl (v_moveT (.inr rfl) rfl) ?_)
  simp only [Act.put, List.setIfInBounds_toArray, List.set_cons_zero, List.set_cons_succ]
  have hS : Sl w [] 5 (nats .u8 [128]) (.slice (some ⟨g0, 0, none⟩) 1 1) w1 := Sl.of_block hE1 (by decide)
  clear hE1
  go_wp2
  go_loopw [7] (fun v wr => ∃ j : Nat, j ≤ pk ∧ Sl w [] 5 (nats .u8 (128 :: List.replicate j 0)) v wr) (fun v _ => 1000 - valLen v)
  case atStart => exact ⟨0, Nat.zero_le _, hS⟩
  case round =>
    clear hS
    obtain ⟨j, hj, hS0⟩ := hrel
    have hE0 := hS0.env
    obtain ⟨p, c, rfl⟩ := hS0.len
    have hl : (nats .u8 (128 :: List.replicate j 0)).length = 1 + j := by rw [nats_len, List.length_cons, List.length_replicate]; omega
    have h63 : (nats .u8 (128 :: List.replicate j 0)).length + ([0] : List Nat).length ≤ maxLen := by rw [hl]; simp only [List.length_singleton, maxLen]; omega
    have hfit : ((nats .u8 (128 :: List.replicate j 0)).length + ([0] : List Nat).length) * 1 ≤ 140737488355328 := by rw [hl]; simp only [List.length_singleton]; omega
    have hzr : (nats .u8 (128 :: List.replicate j 0)).length + r ≤ maxLen := by rw [hl]; simp only [maxLen]; omega
    have hzb : ((nats .u8 (128 :: List.replicate j 0)).length + r) * 1 ≤ 140737488355328 := by rw [hl]; omega
    have hlen63 : (nats .u8 (128 :: List.replicate j 0)).length < 9223372036854775808 := by omega
    have hlb : (nats .u8 (128 :: List.replicate j 0)).length ≤ 300 := by omega
    by_cases hjp : j < pk
    · have hne := Hpm.out j hjp
      rw [← hl] at hne
      have Hne := Lib.hid (decide_eq_true hne)
      clear hne
      have e : nats .u8 (128 :: List.replicate j 0) ++ nats .u8 [0] = nats .u8 (128 :: List.replicate (j + 1) 0) := by
        rw [nats_append]
        congr 1
        simp [List.replicate_succ']
      have He := Lib.hid e
      clear e hl hzr hzb
      repeat ((fail_if_success (with_reducible show wpList _ _ _ (List.cons _ _) _ _)); (fail_if_success (with_reducible show Code.wp _ (Code.region _ _ true) _ _ _)); go_step)
      refine wl_step (st_val rfl (v_moveT (.inl rfl) rfl) ?_)
      simp only [Act.put, List.setIfInBounds_toArray, List.set_cons_zero, List.set_cons_succ]
      refine wl_step (st_val rfl (v_moveT (.inl rfl) rfl) ?_)
      simp only [Act.put, List.setIfInBounds_toArray, List.set_cons_zero, List.set_cons_succ]
      refine wl_step (st_val rfl (v_len rfl rfl Tryd.underlying22 hlen63) ?_)
      simp only [Act.put, List.setIfInBounds_toArray, List.set_cons_zero, List.set_cons_succ]
      refine wl_step (st_val rfl (v_add rfl rfl rfl (w_i64 (by omega))) ?_)
      simp only [Act.put, List.setIfInBounds_toArray, List.set_cons_zero, List.set_cons_succ]
      refine wl_step (st_val rfl (v_moveT (.inl rfl) rfl) ?_)
      simp only [Act.put, List.setIfInBounds_toArray, List.set_cons_zero, List.set_cons_succ]
      refine wl_step (st_val rfl (v_add rfl rfl rfl (w_i64 (by omega))) ?_)
      simp only [Act.put, List.setIfInBounds_toArray, List.set_cons_zero, List.set_cons_succ]
      refine wl_step (st_val rfl (v_moveT (.inl rfl) rfl) ?_)
      simp only [Act.put, List.setIfInBounds_toArray, List.set_cons_zero, List.set_cons_succ]
      refine wl_step (st_val rfl (v_rem rfl rfl rfl (by omega)) ?_)
      simp only [Act.put, List.setIfInBounds_toArray, List.set_cons_zero, List.set_cons_succ]
      refine wl_step (st_val rfl (v_neq (n := 0) rfl rfl rfl) ?_)
      simp only [Act.put, List.setIfInBounds_toArray, List.set_cons_zero, List.set_cons_succ]
      rw [Hne.out]
      repeat ((fail_if_success (with_reducible show wpList _ _ _ (List.cons _ _) _ _)); (fail_if_success (with_reducible show Code.wp _ (Code.region _ _ true) _ _ _)); (fail_if_success (with_reducible show Code.wp _ (Code.cond _ _ _) _ _ _)); go_step)
      refine wp_cond_true (by first | rfl | exact congrArg Value.bool (decide_eq_true (by omega))) ?_
      skip
      repeat ((fail_if_success (with_reducible show wpList _ _ _ (List.cons _ _) _ _)); (fail_if_success (with_reducible show Code.wp _ (Code.region _ _ true) _ _ _)); go_step)
      refine wl_step (st_val rfl (v_moveT (.inl rfl) rfl) ?_)
      simp only [Act.put, List.setIfInBounds_toArray, List.set_cons_zero, List.set_cons_succ]
      refine wl_step (st_buildNums (k := .u8) [0] hE0 rfl rfl (by first | (kernel_rfl; done) | (simp only [List.map_cons, List.map_nil, List.zipIdx_cons, List.zipIdx_nil]; rfl)) rfl (by decide) (by decide) Tryd.underlying22 (by kernel_rfl) Tryd.zeroValue5 ?_)
      intro g1 w1 hb1 hE1
      have hS1 := hS0.call hb1
      clear hS0
      clear hE0
      simp only [Act.put, List.setIfInBounds_toArray, List.set_cons_zero, List.set_cons_succ]
      refine wl_step (st_append hS1 rfl rfl Tryd.underlying22 Hi.out Hz.out Hs.out rfl Hby.out rfl rfl (RdS.of_block (hE1.get (i := 0) rfl)) h63 hfit ?_)
      intro v2 w2 hS2
      have hE2 := hS2.env
      clear hE1
      clear hS1
      simp only [Act.put, List.setIfInBounds_toArray, List.set_cons_zero, List.set_cons_succ]
      refine wl_step (st_val rfl (v_moveT (.inr rfl) rfl) ?_)
      simp only [Act.put, List.setIfInBounds_toArray, List.set_cons_zero, List.set_cons_succ]
      rw [He.out] at hS2
      obtain ⟨p1, c1, hv1⟩ := (hS2).len
      subst hv1
      go_wp2
      go_roundw
      case rel => exact ⟨j + 1, by omega, hS2⟩
      case measure => simp [valLen, nats, ints_size]; omega
    · have hjp' : j = pk := by omega
      subst hjp'
      have hne := Hp0.out
      rw [← hl] at hne
      have Hne := Lib.hid (decide_eq_false (show ¬ (n + (nats .u8 (128 :: List.replicate j 0)).length + r) % B ≠ 0 from fun h => h hne))
      clear hne h63 hfit
      have hr0 : 0 < r := by omega
      repeat ((fail_if_success (with_reducible show wpList _ _ _ (List.cons _ _) _ _)); (fail_if_success (with_reducible show Code.wp _ (Code.region _ _ true) _ _ _)); go_step)
      refine wl_step (st_val rfl (v_moveT (.inl rfl) rfl) ?_)
      simp only [Act.put, List.setIfInBounds_toArray, List.set_cons_zero, List.set_cons_succ]
      refine wl_step (st_val rfl (v_moveT (.inl rfl) rfl) ?_)
      simp only [Act.put, List.setIfInBounds_toArray, List.set_cons_zero, List.set_cons_succ]
      refine wl_step (st_val rfl (v_len rfl rfl Tryd.underlying22 hlen63) ?_)
      simp only [Act.put, List.setIfInBounds_toArray, List.set_cons_zero, List.set_cons_succ]
      refine wl_step (st_val rfl (v_add rfl rfl rfl (w_i64 (by omega))) ?_)
      simp only [Act.put, List.setIfInBounds_toArray, List.set_cons_zero, List.set_cons_succ]
      refine wl_step (st_val rfl (v_moveT (.inl rfl) rfl) ?_)
      simp only [Act.put, List.setIfInBounds_toArray, List.set_cons_zero, List.set_cons_succ]
      refine wl_step (st_val rfl (v_add rfl rfl rfl (w_i64 (by omega))) ?_)
      simp only [Act.put, List.setIfInBounds_toArray, List.set_cons_zero, List.set_cons_succ]
      refine wl_step (st_val rfl (v_moveT (.inl rfl) rfl) ?_)
      simp only [Act.put, List.setIfInBounds_toArray, List.set_cons_zero, List.set_cons_succ]
      refine wl_step (st_val rfl (v_rem rfl rfl rfl (by omega)) ?_)
      simp only [Act.put, List.setIfInBounds_toArray, List.set_cons_zero, List.set_cons_succ]
      refine wl_step (st_val rfl (v_neq (n := 0) rfl rfl rfl) ?_)
      simp only [Act.put, List.setIfInBounds_toArray, List.set_cons_zero, List.set_cons_succ]
      rw [Hne.out]
      repeat ((fail_if_success (with_reducible show wpList _ _ _ (List.cons _ _) _ _)); (fail_if_success (with_reducible show Code.wp _ (Code.region _ _ true) _ _ _)); (fail_if_success (with_reducible show Code.wp _ (Code.cond _ _ _) _ _ _)); go_step)
      refine wp_cond_false (by first | rfl | exact congrArg Value.bool (decide_eq_false (by omega))) ?_
      skip
      repeat ((fail_if_success (with_reducible show wpList _ _ _ (List.cons _ _) _ _)); (fail_if_success (with_reducible show Code.wp _ (Code.region _ _ true) _ _ _)); go_step)
      refine wl_step (st_val rfl (v_moveT (.inl rfl) rfl) ?_)
      simp only [Act.put, List.setIfInBounds_toArray, List.set_cons_zero, List.set_cons_succ]
      refine wl_step (st_val rfl (v_moveT (.inl rfl) rfl) ?_)
      simp only [Act.put, List.setIfInBounds_toArray, List.set_cons_zero, List.set_cons_succ]
      refine wl_step (st_appendZ hS0 rfl rfl Tryd.underlying22 Tryd.underlying3 Hi.out Hz.out Hs.out rfl rfl Hby.out rfl rfl hr0 hzr hzb ?_)
      intro v1 w1 hS1
      have hE1 := hS1.env
      clear hE0
      clear hS0
      simp only [Act.put, List.setIfInBounds_toArray, List.set_cons_zero, List.set_cons_succ]
      refine wl_step (st_val rfl (v_moveT (.inr rfl) rfl) ?_)
      simp only [Act.put, List.setIfInBounds_toArray, List.set_cons_zero, List.set_cons_succ]
      have e : nats .u8 (128 :: List.replicate j 0) ++ List.replicate r (Value.int .u8 0) = nats .u8 (128 :: List.replicate (j + r) 0) := by
        rw [show List.replicate r (Value.int .u8 0) = nats .u8 (List.replicate r 0) by unfold nats ints; simp, nats_append]
        congr 1
        simp [List.replicate_append_replicate]
      rw [e] at hS1
      clear e
      rcases hS1 with ⟨-, h0, -⟩ | ⟨g, cap, cs, hv1, h2, h3, h4, h5, hE2⟩
      · have := congrArg List.length h0
        rw [nats_len] at this
        simp at this
      · subst hv1
        clear hE1
        have hE1 := hE2
        clear hE2
        have hL : (nats .u8 (128 :: List.replicate (j + r) 0)).length = 1 + j + r := by rw [nats_len, List.length_cons, List.length_replicate]; omega
        obtain ⟨LEN, hLE⟩ : ∃ L, (nats .u8 (128 :: List.replicate (j + r) 0)).length = L := ⟨_, rfl⟩
        rw [hLE] at h2 h5 hL ⊢
        obtain ⟨cl⟩ := cs
        have hcl : cl.length = cap := h4
        have htk : cl.take LEN = nats .u8 (128 :: List.replicate (j + r) 0) := h5
        have hlenL : LEN < 9223372036854775808 := by omega
        have h8L : 8 ≤ LEN := by omega
        have hle : LEN - 8 ≤ LEN := by omega
        have hsl : slcd (some ⟨g, 0, none⟩) (LEN - 8) LEN cap = .slice (some ⟨g, LEN - 8, none⟩) 8 (cap - (LEN - 8)) := by
          unfold slcd
          rw [if_neg (by omega), show LEN - (LEN - 8) = 8 by omega]
          simp [Addr.add]
          omega
        have Hsl := Lib.hid hsl
        have hX8 : LEN - 8 + 8 ≤ cl.length := by omega
        have hx8 : n * 8 < 18446744073709551616 := by omega
        have hmd : n * 8 % 18446744073709551616 = n * 8 := Nat.mod_eq_of_lt hx8
        have hres : (putV cl (LEN - 8) 8 (n * 8) 0).take LEN = nats .u8 (fillL n B r) := by
          rw [HF.out, hmd]
          unfold putV
          rw [Nat.add_zero, List.drop_zero, show LEN - 8 + 8 = LEN by omega]
          have e1 : (cl.take (LEN - 8)).length = LEN - 8 := by rw [List.length_take]; omega
          have e2 : (cl.take (LEN - 8) ++ nats .u8 (beD 8 (n * 8))).length = LEN := by rw [List.length_append, e1, nats_len, beD_len]; omega
          rw [List.take_left' e2]
          have e3 : cl.take (LEN - 8) = nats .u8 (128 :: List.replicate (j + (r - 8)) 0) := by
            have : cl.take (LEN - 8) = (cl.take LEN).take (LEN - 8) := by rw [List.take_take, Nat.min_eq_left (by omega)]
            rw [this, htk]
            have e4 : LEN - 8 = (j + (r - 8)) + 1 := by omega
            have e5 : (128 :: List.replicate (j + r) 0).take (LEN - 8) = 128 :: List.replicate (j + (r - 8)) 0 := by
              rw [e4, List.take_succ_cons, List.take_replicate, Nat.min_eq_left (by omega)]
            rw [nats_take, e5]
          rw [e3, nats_append]
          rfl
        have hfl : (nats .u8 (fillL n B r)).length = LEN := by rw [← hres, List.length_take, putV_len _ hX8 (by omega)]; omega
        have Hres := Lib.hid hres
        have Hfl := Lib.hid hfl
        clear hsl hres hfl hmd h4 h5 htk hLE hl
        repeat ((fail_if_success (with_reducible show wpList _ _ _ (List.cons _ _) _ _)); (fail_if_success (with_reducible show Code.wp _ (Code.region _ _ true) _ _ _)); go_step)
        refine wl_step (st_val rfl (v_moveT (.inl rfl) rfl) ?_)
        simp only [Act.put, List.setIfInBounds_toArray, List.set_cons_zero, List.set_cons_succ]
        refine wl_step (st_val rfl (v_moveT (.inl rfl) rfl) ?_)
        simp only [Act.put, List.setIfInBounds_toArray, List.set_cons_zero, List.set_cons_succ]
        refine wl_step (st_val rfl (v_len rfl rfl Tryd.underlying22 hlenL) ?_)
        simp only [Act.put, List.setIfInBounds_toArray, List.set_cons_zero, List.set_cons_succ]
        refine wl_step (st_val rfl (v_sub (m := LEN) (n := 8) (r := ((LEN - 8 : Nat) : Int)) rfl rfl rfl (w_i64s h8L hlenL)) ?_)
        simp only [Act.put, List.setIfInBounds_toArray, List.set_cons_zero, List.set_cons_succ]
        refine wl_step (st_val rfl (v_sliceL rfl rfl rfl Tryd.underlying22 (by kernel_rfl) hle) ?_)
        simp only [Act.put, List.setIfInBounds_toArray, List.set_cons_zero, List.set_cons_succ]
        rw [Hsl.out]
        refine wl_step (st_val rfl (v_moveT (.inl rfl) rfl) ?_)
        simp only [Act.put, List.setIfInBounds_toArray, List.set_cons_zero, List.set_cons_succ]
        refine wl_step (st_val rfl (v_convInt rfl rfl Tryd.underlying3 Tryd.underlying67 (by first | exact w_u64 (by omega) | exact w_u64m _)) ?_)
        simp only [Act.put, List.setIfInBounds_toArray, List.set_cons_zero, List.set_cons_succ]
        refine wl_step (st_val rfl (v_mul (n := 8) rfl rfl rfl (by first | exact w_u64 (by omega) | exact w_u64m _)) ?_)
        simp only [Act.put, List.setIfInBounds_toArray, List.set_cons_zero, List.set_cons_succ]
        refine wl_step (st_calls rfl (run_call rfl Tryd.call24) (put_anyV hE1 (i := 0) rfl hX8 (by decide) hx8) ?_)
        rintro _ w2 ⟨rfl, hE2⟩
        refine ⟨_, rfl, ?_⟩
        clear hE1
        simp only [Act.put, List.setIfInBounds_toArray, List.set_cons_zero, List.set_cons_succ]
        repeat ((fail_if_success (with_reducible show wpList _ _ _ (List.cons _ _) _ _)); (fail_if_success (with_reducible show Code.wp _ (Code.region _ _ true) _ _ _)); go_step)
        refine wl_step (st_val rfl (v_moveT (.inl rfl) rfl) ?_)
        simp only [Act.put, List.setIfInBounds_toArray, List.set_cons_zero, List.set_cons_succ]
        refine wl_step (st_val rfl (v_moveT (.inr rfl) rfl) ?_)
        simp only [Act.put, List.setIfInBounds_toArray, List.set_cons_zero, List.set_cons_succ]
        repeat ((fail_if_success (with_reducible show wpList _ _ _ (List.cons _ _) _ _)); (fail_if_success (with_reducible show Code.wp _ (Code.region _ _ true) _ _ _)); (fail_if_success (with_reducible show Code.wp _ (Code.cond _ _ _) _ _ _)); go_step)
        go_returns
        simp only [List.set_cons_zero] at hE2
        exact ⟨_, rfl,   .inr ⟨g, cap, _, by rw [Hfl.out] <;> rfl, by rw [Hfl.out]; exact h2, h3, by rw [List.size_toArray, putV_len _ hX8 (by omega), hcl], by rw [Hfl.out]; exact Hres.out, hE2⟩⟩
end Go.Proofs.YtndnmghlgcamfaaDoor
