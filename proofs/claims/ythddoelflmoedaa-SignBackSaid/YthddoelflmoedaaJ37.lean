/-
  Layer 7: 'SignLong': a signature whose second half isn't below the order is never right. No condition.
-/
import Derived.Test.YthddoelflmoedaaJ22
import Derived.Test.YthddoelflmoedaaJ36
namespace Go.Proofs.Ythddoelflmoedaa
open Go.ChangeShapes Go.WideShapes Go.ChangeAt Go.RowKit
set_option maxRecDepth 100000
set_option linter.unusedVariables false
set_option linter.unusedSimpArgs false

set_option maxHeartbeats 2000000 in
theorem great_any {l : List Nat} {v : Value} {w : World} (hv : RdS .u8 l v w) (hl : l.length ≤ maxLen) : Gives 5 #[v] w (.bool (decide (300 < l.length))) := by
  unfold maxLen at hl
  obtain ⟨p, c, rfl, hc, -⟩ := id hv
  have hl63 : l.length < 9223372036854775808 := by omega
  clear hv
  have hE0 := Env.nil w
  go_enter Try.func5, Try.ntmps5
  repeat ((fail_if_success with_reducible show wA ..); (fail_if_success with_reducible show wB ..); go_step)
  refine wv (v_moveC (.inr rfl)) ?_
  simp only [Act.put, pA, pB, pC]
  repeat ((fail_if_success with_reducible show wA ..); (fail_if_success with_reducible show wB ..); go_step)
  refine wv (v_moveT (.inl rfl) rfl) ?_
  simp only [Act.put, pA, pB, pC]
  refine wv (v_len rfl rfl Try.underlying24 hl63) ?_
  simp only [Act.put, pA, pB, pC]
  refine wv (v_gtr (n := 300) rfl rfl rfl) ?_
  simp only [Act.put, pA, pB, pC]
  refine wv (v_moveT (.inr rfl) rfl) ?_
  simp only [Act.put, pA, pB, pC]
  repeat ((fail_if_success with_reducible show wA ..); (fail_if_success with_reducible show wB ..); go_step)
  go_returns
  exact ⟨rfl, hE0.below⟩

/-- The order's bytes. -/
def qL : List Nat := [237, 211, 245, 92, 26, 99, 18, 88, 214, 156, 247, 162, 222, 249, 222, 20, 0, 0, 0, 0, 0, 0, 0, 0, 0, 0, 0, 0, 0, 0, 0, 16]
theorem qL_len : qL.length = 32 := rfl
theorem qL_val : val 256 qL = q := by decide
theorem qL_Digs : Digs 256 qL := by unfold Digs qL; decide
/-- The sum's bytes and what is carried, byte by byte: out of the lowest K bytes. -/
def addSt (S : List Nat) : Nat → List Nat × Nat
  | 0 => ([], 0)
  | K + 1 => let n := S.getD K 0 + qL.getD K 0 + (addSt S K).2; ((addSt S K).1 ++ [n % 256], n / 256)
theorem addSt_len (S : List Nat) : ∀ K, (addSt S K).1.length = K
  | 0 => rfl
  | K + 1 => by simp [addSt, addSt_len S K]
theorem addSt_Digs (S : List Nat) : ∀ K, Digs 256 (addSt S K).1
  | 0 => Digs.nil
  | K + 1 => by
    show Digs 256 ((addSt S K).1 ++ [_])
    exact (addSt_Digs S K).append (Digs.cons (Nat.mod_lt _ (by decide)) Digs.nil)
theorem addSt_le {S : List Nat} (dS : Digs 256 S) : ∀ K, (addSt S K).2 ≤ 1
  | 0 => Nat.zero_le _
  | K + 1 => by
    have h1 := dS.getD (by decide) K
    have h2 := qL_Digs.getD (by decide) K
    have h3 := addSt_le dS K
    show (S.getD K 0 + qL.getD K 0 + (addSt S K).2) / 256 ≤ 1
    omega
theorem addSt_val {S : List Nat} (hS : S.length = 32) : ∀ K, K ≤ 32 → val 256 (addSt S K).1 + 256 ^ K * (addSt S K).2 = val 256 (S.take K) + val 256 (qL.take K)
  | 0, _ => by simp [addSt, val]
  | K + 1, h => by
    have ih := addSt_val hS K (by omega)
    have e1 := val_take_succ 256 S K (by omega)
    have e2 := val_take_succ 256 qL K (by rw [qL_len]; omega)
    have g1 : S.getD K 0 = S[K]'(by omega) := by rw [List.getD_eq_getElem?_getD, List.getElem?_eq_getElem (by omega)]; rfl
    have g2 : qL.getD K 0 = qL[K]'(by rw [qL_len]; omega) := by rw [List.getD_eq_getElem?_getD, List.getElem?_eq_getElem (by rw [qL_len]; omega)]; rfl
    rw [← g1] at e1
    rw [← g2] at e2
    rw [e1, e2]
    obtain ⟨n, hn⟩ : ∃ n, S.getD K 0 + qL.getD K 0 + (addSt S K).2 = n := ⟨_, rfl⟩
    have e3 : (addSt S (K + 1)).1 = (addSt S K).1 ++ [n % 256] := by rw [← hn]; rfl
    have e4 : (addSt S (K + 1)).2 = n / 256 := by rw [← hn]; rfl
    rw [e3, e4, val_append, addSt_len]
    have e5 : val 256 [n % 256] = n % 256 := by simp [val]
    rw [e5, Nat.pow_succ, Nat.mul_assoc, Nat.add_assoc, ← Nat.mul_add, Nat.mod_add_div]
    have e6 : 256 ^ K * n = 256 ^ K * (S.getD K 0) + 256 ^ K * (qL.getD K 0) + 256 ^ K * (addSt S K).2 := by rw [← hn, Nat.mul_add, Nat.mul_add]
    omega
theorem addSt_ge {S : List Nat} (hS : S.length = 32) (dS : Digs 256 S) (hq : val 256 S < q) : ¬ val 256 (addSt S 32).1 < q := by
  have h := addSt_val hS 32 (Nat.le_refl _)
  rw [List.take_of_length_le (by omega), List.take_of_length_le (by rw [qL_len]; exact Nat.le_refl _), qL_val] at h
  have h1 := val_lt (addSt_Digs S 32)
  rw [addSt_len] at h1
  have h2 := addSt_le dS 32
  have hqq : q < 7237005577332262213973186563042994240857116359379907606001950938285454250990 := by decide
  have hpw : (256 : Nat) ^ 32 = 115792089237316195423570985008687907853269984665640564039457584007913129639936 := by decide
  rw [hpw] at h h1
  obtain ⟨o, ho⟩ : ∃ o, (addSt S 32).2 = o := ⟨_, rfl⟩
  rw [ho] at h h2
  rcases (show o = 0 ∨ o = 1 by omega) with rfl | rfl
  · omega
  · exfalso
    omega
/-- The signature's bytes when K of its second half are written anew. -/
def longAt (F S : List Nat) (K : Nat) : List Nat := F ++ ((addSt S K).1 ++ S.drop K)
theorem longAt_len {F S : List Nat} (hF : F.length = 32) (hS : S.length = 32) {K : Nat} (hK : K ≤ 32) : (longAt F S K).length = 64 := by
  unfold longAt
  rw [List.length_append, List.length_append, addSt_len, List.length_drop]
  omega
theorem longAt_get {F S : List Nat} (hF : F.length = 32) {K : Nat} : (longAt F S K).getD (32 + K) 0 = S.getD K 0 := by
  unfold longAt
  rw [List.getD_eq_getElem?_getD, List.getElem?_append_right (by omega), hF, Nat.add_sub_cancel_left, List.getElem?_append_right (by rw [addSt_len]; exact Nat.le_refl _), addSt_len, Nat.sub_self, List.getElem?_drop, Nat.add_zero, List.getD_eq_getElem?_getD]
theorem longAt_set {F S : List Nat} (hF : F.length = 32) (hS : S.length = 32) {K : Nat} (hK : K < 32) : (longAt F S K).set (32 + K) ((S.getD K 0 + qL.getD K 0 + (addSt S K).2) % 256) = longAt F S (K + 1) := by
  unfold longAt
  rw [List.set_append_right _ _ (by omega), hF, Nat.add_sub_cancel_left, List.set_append_right _ _ (by rw [addSt_len]; exact Nat.le_refl _), addSt_len, Nat.sub_self, List.drop_eq_getElem_cons (by omega), List.set_cons_zero]
  show F ++ ((addSt S K).1 ++ _ :: S.drop (K + 1)) = F ++ (((addSt S K).1 ++ [_]) ++ S.drop (K + 1))
  simp

set_option maxHeartbeats 8000000 in
theorem signLong_walk {s l : List Nat} {v : Value} {w : World} (hs : s.length = 32) (ds : Digs 256 s) (hv : RdS .u8 l v w) (dl : Digs 256 l) (hm : l.length ≤ maxLen) : Gives 3 #[.agg (ints .u8 s), v] w (.bool true) := by
  obtain ⟨p, c, rfl, hc, -⟩ := id hv
  have Hv := Lib.hid hv
  have HG : Hid (∀ w1, Below w.heap.size w w1 → Gives 5 #[.slice p l.length c] w1 (.bool (decide (300 < l.length)))) := Lib.hid (fun w1 hb => great_any (hv.below hb) hm)
  have HW := Lib.hid (fun w => awake_any w)
  by_cases h3 : 300 < l.length
  · rw [decide_eq_true h3] at HG
    clear hv dl
    have hE0 := Env.nil w
    go_enter Try.func3, Try.ntmps3
    repeat ((fail_if_success with_reducible show wA ..); (fail_if_success with_reducible show wB ..); go_step)
    refine wl_step (st_boxA hE0 rfl rfl rfl ?_)
    intro g0 w1 hb1 hE1
    clear hE0
    simp only [Act.put, pA, pB, pC]
    refine wv (v_moveC (.inr rfl)) ?_
    simp only [Act.put, pA, pB, pC]
    repeat ((fail_if_success with_reducible show wA ..); (fail_if_success with_reducible show wB ..); go_step)
    refine wv (v_moveT (.inl rfl) rfl) ?_
    simp only [Act.put, pA, pB, pC]
    refine wl_step (st_gives hE1 rfl (run_call rfl Try.call5) (HG.out _ hE1.below) ?_)
    intro w2 hb2 hE2
    clear hE1
    simp only [Act.put, pA, pB, pC]
    repeat ((fail_if_success with_reducible show wA ..); (fail_if_success with_reducible show wB ..); (fail_if_success (with_reducible show Code.wp _ (Code.cond _ _ _) _ _ _)); go_step)
    refine wp_cond_true (by first | rfl | exact congrArg Value.bool (decide_eq_true (by omega))) ?_
    skip
    repeat ((fail_if_success with_reducible show wA ..); (fail_if_success with_reducible show wB ..); go_step)
    refine wl_step (st_gives hE2 rfl (run_call rfl Try.call6) (HW.out _) ?_)
    intro w3 hb3 hE3
    clear hE2
    simp only [Act.put, pA, pB, pC]
    refine wv (v_moveT (.inr rfl) rfl) ?_
    simp only [Act.put, pA, pB, pC]
    repeat ((fail_if_success with_reducible show wA ..); (fail_if_success with_reducible show wB ..); go_step)
    go_returns
    exact ⟨rfl, hE3.below⟩
  · rw [decide_eq_false h3] at HG
    have e1 : ([l] : List (List Nat)).flatten = l := by simp
    have HP := Lib.hid (fun w => Public_any hs ds w)
    have HS : Hid (∀ (w1 : World) (v : Value), RdSs .u8 [l] v w1 → Gives 8 #[.agg (ints .u8 s), v] w1 (.agg (ints .u8 (sigL s l)))) := Lib.hid (fun w1 v h => by
      have h := Sign_any hs ds h (fun r hr => by rw [List.mem_singleton.1 hr]; exact dl) (by rw [e1]; omega) (show 1 < 1099511627776 by decide)
      rwa [e1] at h)
    have l1 := pubL_len s
    have l2 := sigL_len s l
    have lF := firstL_len s l
    have lS := lastL_len s l
    have dS := lastL_Digs s l
    have hge := addSt_ge lS dS (lastL_lt s l)
    have hL0 : sigL s l = longAt (firstL s l) (lastL s l) 0 := rfl
    have dlong : Digs 256 (longAt (firstL s l) (lastL s l) 32) := (firstL_Digs s l).append ((addSt_Digs _ 32).append (dS.drop 32))
    have hdrop : (longAt (firstL s l) (lastL s l) 32).drop 32 = (addSt (lastL s l) 32).1 := by
      unfold longAt
      rw [List.drop_left' lF, List.drop_of_length_le (by omega), List.append_nil]
    have l3 := longAt_len lF lS (Nat.le_refl 32)
    have HV : Hid (∀ (w1 : World) (v : Value), Gives 9 #[.agg (ints .u8 (pubL s)), .agg (ints .u8 (longAt (firstL s l) (lastL s l) 32)), v] w1 (.bool false)) := Lib.hid (fun w1 v => Verify_noS (P := pubP s) (pubL_len s) (pubL_Digs s) l3 dlong (encN_pub s) (by rw [hdrop]; exact hge))
    obtain ⟨F, hF⟩ : ∃ F, firstL s l = F := ⟨_, rfl⟩
    obtain ⟨S, hSS⟩ : ∃ S, lastL s l = S := ⟨_, rfl⟩
    obtain ⟨K, hK⟩ : ∃ K, pubL s = K := ⟨_, rfl⟩
    rw [hL0] at HS l2
    rw [hF, hSS] at HS HV l2
    rw [hF] at lF
    rw [hSS] at lS dS
    rw [hK] at HP HV l1
    have Hlen := Lib.hid (fun j (h : j ≤ 32) => longAt_len lF lS h)
    have Hget := Lib.hid (fun j => longAt_get (F := F) (S := S) lF (K := j))
    have Hset := Lib.hid (fun j (h : j < 32) => longAt_set (F := F) (S := S) lF lS h)
    have Hle := Lib.hid (fun j => addSt_le dS j)
    have Hnx : Hid (∀ j, (addSt S (j + 1)).2 = (S.getD j 0 + qL.getD j 0 + (addSt S j).2) / 256) := Lib.hid (fun j => rfl)
    have HdS := Lib.hid (fun j => dS.getD (by decide) j)
    have Hdq := Lib.hid (fun j => qL_Digs.getD (by decide) j)
    have lq := qL_len
    clear hv dl hge hL0 dlong hdrop hF hSS hK e1 dS l3
    have hE0 := Env.nil w
    go_enter Try.func3, Try.ntmps3
    repeat ((fail_if_success with_reducible show wA ..); (fail_if_success with_reducible show wB ..); go_step)
    refine wl_step (st_boxA hE0 rfl rfl rfl ?_)
    intro g0 w1 hb1 hE1
    clear hE0
    simp only [Act.put, pA, pB, pC]
    refine wv (v_moveC (.inr rfl)) ?_
    simp only [Act.put, pA, pB, pC]
    repeat ((fail_if_success with_reducible show wA ..); (fail_if_success with_reducible show wB ..); go_step)
    refine wv (v_moveT (.inl rfl) rfl) ?_
    simp only [Act.put, pA, pB, pC]
    refine wl_step (st_gives hE1 rfl (run_call rfl Try.call5) (HG.out _ hE1.below) ?_)
    intro w2 hb2 hE2
    clear hE1
    simp only [Act.put, pA, pB, pC]
    repeat ((fail_if_success with_reducible show wA ..); (fail_if_success with_reducible show wB ..); (fail_if_success (with_reducible show Code.wp _ (Code.cond _ _ _) _ _ _)); go_step)
    refine wp_cond_false (by first | rfl | exact congrArg Value.bool (decide_eq_false (by omega))) ?_
    skip
    repeat ((fail_if_success with_reducible show wA ..); (fail_if_success with_reducible show wB ..); go_step)
    apply wp_region_C (n := 10) (fun gr gk gs => [⟨gs, 30, ints .u8 (longAt F S 0)⟩, ⟨gk, 27, ints .u8 K⟩, ⟨gr, 24, #[Value.slice p l.length c]⟩, ⟨g0, 23, ints .u8 s⟩]) 8 (by kernel_rfl) rfl hE2
    focus
      intro hcont w3 hb3 hE3
      refine wpB_take (i := 0) (by kernel_rfl) rfl (by kernel_rfl) (fun _ _ _ h => h) rfl (v_load (i := 0) hE3 rfl rfl rfl Try.underlying23 rfl (szA (n := 32))) ?_
      simp only [Act.put, pA, pB, pC]
      refine wpB_take (i := 2) (by kernel_rfl) rfl (by kernel_rfl) (fun _ _ _ h => h) rfl (v_load (i := 0) hE3 rfl rfl rfl Try.underlying23 rfl (szA (n := 32))) ?_
      simp only [Act.put, pA, pB, pC]
      refine wpB_take (i := 3) (by kernel_rfl) rfl (by kernel_rfl) (fun _ _ _ h => h) rfl (v_moveT (.inl rfl) rfl) ?_
      simp only [Act.put, pA, pB, pC]
      refine wpB_step4 (i := 1) (j := 4) (k := 6) (l := 7) (by kernel_rfl) rfl rfl rfl rfl ?br1a ?br1b ?br1c ?br1d
      case br1a =>
        refine st_gives hE3 rfl (run_call rfl Try.call7) (HP.out _) ?_
        intro w4 hb4 hE4
        clear hE3
        refine ⟨fun _ => hb4, ?_⟩
        simp only [Act.put, pA, pB, pC]
        refine wpB_step3 (i := 4) (j := 6) (k := 7) (by kernel_rfl) rfl rfl rfl ?br2a ?br2b ?br2c
        case br2a =>
          refine st_buildVs [Value.slice p l.length c] (one_slice) hE4 rfl rfl (by first | rfl | (simp only [List.map_cons, List.map_nil, List.zipIdx_cons, List.zipIdx_nil]; rfl)) rfl (by decide) (by decide) Try.underlying47 (by kernel_rfl) Try.zeroValue24 ?_
          intro g1 w5 hb5 hE5
          clear hE4
          refine ⟨fun _ => hb5, ?_⟩
          simp only [Act.put, pA, pB, pC]
          refine wpB_step3 (i := 5) (j := 6) (k := 7) (by kernel_rfl) rfl rfl rfl ?br3a ?br3b ?br3c
          case br3a =>
            refine st_gives hE5 rfl (run_call rfl Try.call8) (HS.out _ _ (RdSs.one (hE5.get (i := 0) rfl) (Hv.out.below hE5.below))) ?_
            intro w6 hb6 hE6
            clear hE5
            refine ⟨fun _ => hb6, ?_⟩
            simp only [Act.put, pA, pB, pC]
            refine wpB_step2 (i := 6) (j := 7) (by kernel_rfl) rfl rfl ?br4a ?br4b
            case br4a =>
              refine st_alloc (zs := ints .u8 (List.replicate 32 0)) hE6 rfl rfl (fun w => by kernel_rfl) ?_
              intro g2 w7 hb7 hE7
              clear hE6
              refine ⟨fun _ => hb7, ?_⟩
              simp only [Act.put, pA, pB, pC]
              refine wpB_step (i := 7) (by kernel_rfl) rfl (st_alloc (zs := ints .u8 (List.replicate 64 0)) hE7 rfl rfl (fun w => by kernel_rfl) ?_)
              intro g3 w8 hb8 hE8
              clear hE7
              refine ⟨fun _ => hb8, ?_⟩
              simp only [Act.put, pA, pB, pC]
              refine wpB_step (i := 8) (by kernel_rfl) rfl (st_store (i := 1) hE8 rfl rfl rfl rfl rfl (szA (n := 32)) (by first | (simp only [ints_size, digs_length, List.length_replicate, List.length_cons, List.length_nil]; done) | (simp only [ints_size, digs_length, List.length_replicate, List.length_cons, List.length_nil, List.length_set, List.length_append]; omega) | rfl) (by first | exact ints_one _ _ | decide | rfl | simp [*]) ?_)
              intro w9 hE9
              clear hE8
              simp only [pB, pC] at hE9
              refine ⟨fun h => absurd h (by decide), ?_⟩
              simp only [Act.put, pA, pB, pC]
              refine wpB_step (i := 9) (by kernel_rfl) rfl (st_store (i := 0) hE9 rfl rfl rfl rfl rfl (szA (n := 64)) (by first | (simp only [ints_size, digs_length, List.length_replicate, List.length_cons, List.length_nil]; done) | (simp only [ints_size, digs_length, List.length_replicate, List.length_cons, List.length_nil, List.length_set, List.length_append]; omega) | rfl) (by first | exact ints_one _ _ | decide | rfl | simp [*]) ?_)
              intro w10 hE10
              clear hE9
              simp only [pB, pC] at hE10
              refine ⟨fun h => absurd h (by decide), ?_⟩
              simp only [Act.put, pA, pB, pC]
              refine wpB_done (by kernel_rfl) ?_ _
              exact hcont g1 g2 g3 _ (hE10)
            case br4b =>
              refine st_alloc (zs := ints .u8 (List.replicate 64 0)) hE6 rfl rfl (fun w => by kernel_rfl) ?_
              intro g2 w7 hb7 hE7
              clear hE6
              refine ⟨fun _ => hb7, ?_⟩
              simp only [Act.put, pA, pB, pC]
              refine wpB_step (i := 6) (by kernel_rfl) rfl (st_alloc (zs := ints .u8 (List.replicate 32 0)) hE7 rfl rfl (fun w => by kernel_rfl) ?_)
              intro g3 w8 hb8 hE8
              clear hE7
              refine ⟨fun _ => hb8, ?_⟩
              simp only [Act.put, pA, pB, pC]
              refine wpB_step (i := 8) (by kernel_rfl) rfl (st_store (i := 0) hE8 rfl rfl rfl rfl rfl (szA (n := 32)) (by first | (simp only [ints_size, digs_length, List.length_replicate, List.length_cons, List.length_nil]; done) | (simp only [ints_size, digs_length, List.length_replicate, List.length_cons, List.length_nil, List.length_set, List.length_append]; omega) | rfl) (by first | exact ints_one _ _ | decide | rfl | simp [*]) ?_)
              intro w9 hE9
              clear hE8
              simp only [pB, pC] at hE9
              refine ⟨fun h => absurd h (by decide), ?_⟩
              simp only [Act.put, pA, pB, pC]
              refine wpB_step (i := 9) (by kernel_rfl) rfl (st_store (i := 1) hE9 rfl rfl rfl rfl rfl (szA (n := 64)) (by first | (simp only [ints_size, digs_length, List.length_replicate, List.length_cons, List.length_nil]; done) | (simp only [ints_size, digs_length, List.length_replicate, List.length_cons, List.length_nil, List.length_set, List.length_append]; omega) | rfl) (by first | exact ints_one _ _ | decide | rfl | simp [*]) ?_)
              intro w10 hE10
              clear hE9
              simp only [pB, pC] at hE10
              refine ⟨fun h => absurd h (by decide), ?_⟩
              simp only [Act.put, pA, pB, pC]
              refine wpB_done (by kernel_rfl) ?_ _
              exact hcont g1 g3 g2 _ (hE10.perm (List.Perm.swap _ _ _))
          case br3b =>
            refine st_alloc (zs := ints .u8 (List.replicate 32 0)) hE5 rfl rfl (fun w => by kernel_rfl) ?_
            intro g2 w6 hb6 hE6
            clear hE5
            refine ⟨fun _ => hb6, ?_⟩
            simp only [Act.put, pA, pB, pC]
            refine wpB_step2 (i := 5) (j := 7) (by kernel_rfl) rfl rfl ?br5a ?br5b
            case br5a =>
              refine st_gives hE6 rfl (run_call rfl Try.call8) (HS.out _ _ (RdSs.one (hE6.get (i := 1) rfl) (Hv.out.below hE6.below))) ?_
              intro w7 hb7 hE7
              clear hE6
              refine ⟨fun _ => hb7, ?_⟩
              simp only [Act.put, pA, pB, pC]
              refine wpB_step (i := 7) (by kernel_rfl) rfl (st_alloc (zs := ints .u8 (List.replicate 64 0)) hE7 rfl rfl (fun w => by kernel_rfl) ?_)
              intro g3 w8 hb8 hE8
              clear hE7
              refine ⟨fun _ => hb8, ?_⟩
              simp only [Act.put, pA, pB, pC]
              refine wpB_step (i := 8) (by kernel_rfl) rfl (st_store (i := 1) hE8 rfl rfl rfl rfl rfl (szA (n := 32)) (by first | (simp only [ints_size, digs_length, List.length_replicate, List.length_cons, List.length_nil]; done) | (simp only [ints_size, digs_length, List.length_replicate, List.length_cons, List.length_nil, List.length_set, List.length_append]; omega) | rfl) (by first | exact ints_one _ _ | decide | rfl | simp [*]) ?_)
              intro w9 hE9
              clear hE8
              simp only [pB, pC] at hE9
              refine ⟨fun h => absurd h (by decide), ?_⟩
              simp only [Act.put, pA, pB, pC]
              refine wpB_step (i := 9) (by kernel_rfl) rfl (st_store (i := 0) hE9 rfl rfl rfl rfl rfl (szA (n := 64)) (by first | (simp only [ints_size, digs_length, List.length_replicate, List.length_cons, List.length_nil]; done) | (simp only [ints_size, digs_length, List.length_replicate, List.length_cons, List.length_nil, List.length_set, List.length_append]; omega) | rfl) (by first | exact ints_one _ _ | decide | rfl | simp [*]) ?_)
              intro w10 hE10
              clear hE9
              simp only [pB, pC] at hE10
              refine ⟨fun h => absurd h (by decide), ?_⟩
              simp only [Act.put, pA, pB, pC]
              refine wpB_done (by kernel_rfl) ?_ _
              exact hcont g1 g2 g3 _ (hE10)
            case br5b =>
              refine st_alloc (zs := ints .u8 (List.replicate 64 0)) hE6 rfl rfl (fun w => by kernel_rfl) ?_
              intro g3 w7 hb7 hE7
              clear hE6
              refine ⟨fun _ => hb7, ?_⟩
              simp only [Act.put, pA, pB, pC]
              refine wpB_step (i := 5) (by kernel_rfl) rfl (st_gives hE7 rfl (run_call rfl Try.call8) (HS.out _ _ (RdSs.one (hE7.get (i := 2) rfl) (Hv.out.below hE7.below))) ?_)
              intro w8 hb8 hE8
              clear hE7
              refine ⟨fun _ => hb8, ?_⟩
              simp only [Act.put, pA, pB, pC]
              refine wpB_step (i := 8) (by kernel_rfl) rfl (st_store (i := 1) hE8 rfl rfl rfl rfl rfl (szA (n := 32)) (by first | (simp only [ints_size, digs_length, List.length_replicate, List.length_cons, List.length_nil]; done) | (simp only [ints_size, digs_length, List.length_replicate, List.length_cons, List.length_nil, List.length_set, List.length_append]; omega) | rfl) (by first | exact ints_one _ _ | decide | rfl | simp [*]) ?_)
              intro w9 hE9
              clear hE8
              simp only [pB, pC] at hE9
              refine ⟨fun h => absurd h (by decide), ?_⟩
              simp only [Act.put, pA, pB, pC]
              refine wpB_step (i := 9) (by kernel_rfl) rfl (st_store (i := 0) hE9 rfl rfl rfl rfl rfl (szA (n := 64)) (by first | (simp only [ints_size, digs_length, List.length_replicate, List.length_cons, List.length_nil]; done) | (simp only [ints_size, digs_length, List.length_replicate, List.length_cons, List.length_nil, List.length_set, List.length_append]; omega) | rfl) (by first | exact ints_one _ _ | decide | rfl | simp [*]) ?_)
              intro w10 hE10
              clear hE9
              simp only [pB, pC] at hE10
              refine ⟨fun h => absurd h (by decide), ?_⟩
              simp only [Act.put, pA, pB, pC]
              refine wpB_done (by kernel_rfl) ?_ _
              exact hcont g1 g2 g3 _ (hE10)
          case br3c =>
            refine st_alloc (zs := ints .u8 (List.replicate 64 0)) hE5 rfl rfl (fun w => by kernel_rfl) ?_
            intro g2 w6 hb6 hE6
            clear hE5
            refine ⟨fun _ => hb6, ?_⟩
            simp only [Act.put, pA, pB, pC]
            refine wpB_step2 (i := 5) (j := 6) (by kernel_rfl) rfl rfl ?br6a ?br6b
            case br6a =>
              refine st_gives hE6 rfl (run_call rfl Try.call8) (HS.out _ _ (RdSs.one (hE6.get (i := 1) rfl) (Hv.out.below hE6.below))) ?_
              intro w7 hb7 hE7
              clear hE6
              refine ⟨fun _ => hb7, ?_⟩
              simp only [Act.put, pA, pB, pC]
              refine wpB_step (i := 6) (by kernel_rfl) rfl (st_alloc (zs := ints .u8 (List.replicate 32 0)) hE7 rfl rfl (fun w => by kernel_rfl) ?_)
              intro g3 w8 hb8 hE8
              clear hE7
              refine ⟨fun _ => hb8, ?_⟩
              simp only [Act.put, pA, pB, pC]
              refine wpB_step (i := 8) (by kernel_rfl) rfl (st_store (i := 0) hE8 rfl rfl rfl rfl rfl (szA (n := 32)) (by first | (simp only [ints_size, digs_length, List.length_replicate, List.length_cons, List.length_nil]; done) | (simp only [ints_size, digs_length, List.length_replicate, List.length_cons, List.length_nil, List.length_set, List.length_append]; omega) | rfl) (by first | exact ints_one _ _ | decide | rfl | simp [*]) ?_)
              intro w9 hE9
              clear hE8
              simp only [pB, pC] at hE9
              refine ⟨fun h => absurd h (by decide), ?_⟩
              simp only [Act.put, pA, pB, pC]
              refine wpB_step (i := 9) (by kernel_rfl) rfl (st_store (i := 1) hE9 rfl rfl rfl rfl rfl (szA (n := 64)) (by first | (simp only [ints_size, digs_length, List.length_replicate, List.length_cons, List.length_nil]; done) | (simp only [ints_size, digs_length, List.length_replicate, List.length_cons, List.length_nil, List.length_set, List.length_append]; omega) | rfl) (by first | exact ints_one _ _ | decide | rfl | simp [*]) ?_)
              intro w10 hE10
              clear hE9
              simp only [pB, pC] at hE10
              refine ⟨fun h => absurd h (by decide), ?_⟩
              simp only [Act.put, pA, pB, pC]
              refine wpB_done (by kernel_rfl) ?_ _
              exact hcont g1 g3 g2 _ (hE10.perm (List.Perm.swap _ _ _))
            case br6b =>
              refine st_alloc (zs := ints .u8 (List.replicate 32 0)) hE6 rfl rfl (fun w => by kernel_rfl) ?_
              intro g3 w7 hb7 hE7
              clear hE6
              refine ⟨fun _ => hb7, ?_⟩
              simp only [Act.put, pA, pB, pC]
              refine wpB_step (i := 5) (by kernel_rfl) rfl (st_gives hE7 rfl (run_call rfl Try.call8) (HS.out _ _ (RdSs.one (hE7.get (i := 2) rfl) (Hv.out.below hE7.below))) ?_)
              intro w8 hb8 hE8
              clear hE7
              refine ⟨fun _ => hb8, ?_⟩
              simp only [Act.put, pA, pB, pC]
              refine wpB_step (i := 8) (by kernel_rfl) rfl (st_store (i := 0) hE8 rfl rfl rfl rfl rfl (szA (n := 32)) (by first | (simp only [ints_size, digs_length, List.length_replicate, List.length_cons, List.length_nil]; done) | (simp only [ints_size, digs_length, List.length_replicate, List.length_cons, List.length_nil, List.length_set, List.length_append]; omega) | rfl) (by first | exact ints_one _ _ | decide | rfl | simp [*]) ?_)
              intro w9 hE9
              clear hE8
              simp only [pB, pC] at hE9
              refine ⟨fun h => absurd h (by decide), ?_⟩
              simp only [Act.put, pA, pB, pC]
              refine wpB_step (i := 9) (by kernel_rfl) rfl (st_store (i := 1) hE9 rfl rfl rfl rfl rfl (szA (n := 64)) (by first | (simp only [ints_size, digs_length, List.length_replicate, List.length_cons, List.length_nil]; done) | (simp only [ints_size, digs_length, List.length_replicate, List.length_cons, List.length_nil, List.length_set, List.length_append]; omega) | rfl) (by first | exact ints_one _ _ | decide | rfl | simp [*]) ?_)
              intro w10 hE10
              clear hE9
              simp only [pB, pC] at hE10
              refine ⟨fun h => absurd h (by decide), ?_⟩
              simp only [Act.put, pA, pB, pC]
              refine wpB_done (by kernel_rfl) ?_ _
              exact hcont g1 g3 g2 _ (hE10.perm (List.Perm.swap _ _ _))
        case br2b =>
          refine st_alloc (zs := ints .u8 (List.replicate 32 0)) hE4 rfl rfl (fun w => by kernel_rfl) ?_
          intro g1 w5 hb5 hE5
          clear hE4
          refine ⟨fun _ => hb5, ?_⟩
          simp only [Act.put, pA, pB, pC]
          refine wpB_step2 (i := 4) (j := 7) (by kernel_rfl) rfl rfl ?br7a ?br7b
          case br7a =>
            refine st_buildVs [Value.slice p l.length c] (one_slice) hE5 rfl rfl (by first | rfl | (simp only [List.map_cons, List.map_nil, List.zipIdx_cons, List.zipIdx_nil]; rfl)) rfl (by decide) (by decide) Try.underlying47 (by kernel_rfl) Try.zeroValue24 ?_
            intro g2 w6 hb6 hE6
            clear hE5
            refine ⟨fun _ => hb6, ?_⟩
            simp only [Act.put, pA, pB, pC]
            refine wpB_step2 (i := 5) (j := 7) (by kernel_rfl) rfl rfl ?br8a ?br8b
            case br8a =>
              refine st_gives hE6 rfl (run_call rfl Try.call8) (HS.out _ _ (RdSs.one (hE6.get (i := 0) rfl) (Hv.out.below hE6.below))) ?_
              intro w7 hb7 hE7
              clear hE6
              refine ⟨fun _ => hb7, ?_⟩
              simp only [Act.put, pA, pB, pC]
              refine wpB_step (i := 7) (by kernel_rfl) rfl (st_alloc (zs := ints .u8 (List.replicate 64 0)) hE7 rfl rfl (fun w => by kernel_rfl) ?_)
              intro g3 w8 hb8 hE8
              clear hE7
              refine ⟨fun _ => hb8, ?_⟩
              simp only [Act.put, pA, pB, pC]
              refine wpB_step (i := 8) (by kernel_rfl) rfl (st_store (i := 2) hE8 rfl rfl rfl rfl rfl (szA (n := 32)) (by first | (simp only [ints_size, digs_length, List.length_replicate, List.length_cons, List.length_nil]; done) | (simp only [ints_size, digs_length, List.length_replicate, List.length_cons, List.length_nil, List.length_set, List.length_append]; omega) | rfl) (by first | exact ints_one _ _ | decide | rfl | simp [*]) ?_)
              intro w9 hE9
              clear hE8
              simp only [pB, pC] at hE9
              refine ⟨fun h => absurd h (by decide), ?_⟩
              simp only [Act.put, pA, pB, pC]
              refine wpB_step (i := 9) (by kernel_rfl) rfl (st_store (i := 0) hE9 rfl rfl rfl rfl rfl (szA (n := 64)) (by first | (simp only [ints_size, digs_length, List.length_replicate, List.length_cons, List.length_nil]; done) | (simp only [ints_size, digs_length, List.length_replicate, List.length_cons, List.length_nil, List.length_set, List.length_append]; omega) | rfl) (by first | exact ints_one _ _ | decide | rfl | simp [*]) ?_)
              intro w10 hE10
              clear hE9
              simp only [pB, pC] at hE10
              refine ⟨fun h => absurd h (by decide), ?_⟩
              simp only [Act.put, pA, pB, pC]
              refine wpB_done (by kernel_rfl) ?_ _
              exact hcont g2 g1 g3 _ (hE10.perm (List.Perm.cons _ (List.Perm.swap _ _ _)))
            case br8b =>
              refine st_alloc (zs := ints .u8 (List.replicate 64 0)) hE6 rfl rfl (fun w => by kernel_rfl) ?_
              intro g3 w7 hb7 hE7
              clear hE6
              refine ⟨fun _ => hb7, ?_⟩
              simp only [Act.put, pA, pB, pC]
              refine wpB_step (i := 5) (by kernel_rfl) rfl (st_gives hE7 rfl (run_call rfl Try.call8) (HS.out _ _ (RdSs.one (hE7.get (i := 1) rfl) (Hv.out.below hE7.below))) ?_)
              intro w8 hb8 hE8
              clear hE7
              refine ⟨fun _ => hb8, ?_⟩
              simp only [Act.put, pA, pB, pC]
              refine wpB_step (i := 8) (by kernel_rfl) rfl (st_store (i := 2) hE8 rfl rfl rfl rfl rfl (szA (n := 32)) (by first | (simp only [ints_size, digs_length, List.length_replicate, List.length_cons, List.length_nil]; done) | (simp only [ints_size, digs_length, List.length_replicate, List.length_cons, List.length_nil, List.length_set, List.length_append]; omega) | rfl) (by first | exact ints_one _ _ | decide | rfl | simp [*]) ?_)
              intro w9 hE9
              clear hE8
              simp only [pB, pC] at hE9
              refine ⟨fun h => absurd h (by decide), ?_⟩
              simp only [Act.put, pA, pB, pC]
              refine wpB_step (i := 9) (by kernel_rfl) rfl (st_store (i := 0) hE9 rfl rfl rfl rfl rfl (szA (n := 64)) (by first | (simp only [ints_size, digs_length, List.length_replicate, List.length_cons, List.length_nil]; done) | (simp only [ints_size, digs_length, List.length_replicate, List.length_cons, List.length_nil, List.length_set, List.length_append]; omega) | rfl) (by first | exact ints_one _ _ | decide | rfl | simp [*]) ?_)
              intro w10 hE10
              clear hE9
              simp only [pB, pC] at hE10
              refine ⟨fun h => absurd h (by decide), ?_⟩
              simp only [Act.put, pA, pB, pC]
              refine wpB_done (by kernel_rfl) ?_ _
              exact hcont g2 g1 g3 _ (hE10.perm (List.Perm.cons _ (List.Perm.swap _ _ _)))
          case br7b =>
            refine st_alloc (zs := ints .u8 (List.replicate 64 0)) hE5 rfl rfl (fun w => by kernel_rfl) ?_
            intro g2 w6 hb6 hE6
            clear hE5
            refine ⟨fun _ => hb6, ?_⟩
            simp only [Act.put, pA, pB, pC]
            refine wpB_step (i := 4) (by kernel_rfl) rfl (st_buildVs [Value.slice p l.length c] (one_slice) hE6 rfl rfl (by first | rfl | (simp only [List.map_cons, List.map_nil, List.zipIdx_cons, List.zipIdx_nil]; rfl)) rfl (by decide) (by decide) Try.underlying47 (by kernel_rfl) Try.zeroValue24 ?_)
            intro g3 w7 hb7 hE7
            clear hE6
            refine ⟨fun _ => hb7, ?_⟩
            simp only [Act.put, pA, pB, pC]
            refine wpB_step (i := 5) (by kernel_rfl) rfl (st_gives hE7 rfl (run_call rfl Try.call8) (HS.out _ _ (RdSs.one (hE7.get (i := 0) rfl) (Hv.out.below hE7.below))) ?_)
            intro w8 hb8 hE8
            clear hE7
            refine ⟨fun _ => hb8, ?_⟩
            simp only [Act.put, pA, pB, pC]
            refine wpB_step (i := 8) (by kernel_rfl) rfl (st_store (i := 2) hE8 rfl rfl rfl rfl rfl (szA (n := 32)) (by first | (simp only [ints_size, digs_length, List.length_replicate, List.length_cons, List.length_nil]; done) | (simp only [ints_size, digs_length, List.length_replicate, List.length_cons, List.length_nil, List.length_set, List.length_append]; omega) | rfl) (by first | exact ints_one _ _ | decide | rfl | simp [*]) ?_)
            intro w9 hE9
            clear hE8
            simp only [pB, pC] at hE9
            refine ⟨fun h => absurd h (by decide), ?_⟩
            simp only [Act.put, pA, pB, pC]
            refine wpB_step (i := 9) (by kernel_rfl) rfl (st_store (i := 1) hE9 rfl rfl rfl rfl rfl (szA (n := 64)) (by first | (simp only [ints_size, digs_length, List.length_replicate, List.length_cons, List.length_nil]; done) | (simp only [ints_size, digs_length, List.length_replicate, List.length_cons, List.length_nil, List.length_set, List.length_append]; omega) | rfl) (by first | exact ints_one _ _ | decide | rfl | simp [*]) ?_)
            intro w10 hE10
            clear hE9
            simp only [pB, pC] at hE10
            refine ⟨fun h => absurd h (by decide), ?_⟩
            simp only [Act.put, pA, pB, pC]
            refine wpB_done (by kernel_rfl) ?_ _
            exact hcont g3 g1 g2 _ (hE10.perm ((List.Perm.swap _ _ _).trans (List.Perm.cons _ (List.Perm.swap _ _ _))))
        case br2c =>
          refine st_alloc (zs := ints .u8 (List.replicate 64 0)) hE4 rfl rfl (fun w => by kernel_rfl) ?_
          intro g1 w5 hb5 hE5
          clear hE4
          refine ⟨fun _ => hb5, ?_⟩
          simp only [Act.put, pA, pB, pC]
          refine wpB_step2 (i := 4) (j := 6) (by kernel_rfl) rfl rfl ?br9a ?br9b
          case br9a =>
            refine st_buildVs [Value.slice p l.length c] (one_slice) hE5 rfl rfl (by first | rfl | (simp only [List.map_cons, List.map_nil, List.zipIdx_cons, List.zipIdx_nil]; rfl)) rfl (by decide) (by decide) Try.underlying47 (by kernel_rfl) Try.zeroValue24 ?_
            intro g2 w6 hb6 hE6
            clear hE5
            refine ⟨fun _ => hb6, ?_⟩
            simp only [Act.put, pA, pB, pC]
            refine wpB_step2 (i := 5) (j := 6) (by kernel_rfl) rfl rfl ?br10a ?br10b
            case br10a =>
              refine st_gives hE6 rfl (run_call rfl Try.call8) (HS.out _ _ (RdSs.one (hE6.get (i := 0) rfl) (Hv.out.below hE6.below))) ?_
              intro w7 hb7 hE7
              clear hE6
              refine ⟨fun _ => hb7, ?_⟩
              simp only [Act.put, pA, pB, pC]
              refine wpB_step (i := 6) (by kernel_rfl) rfl (st_alloc (zs := ints .u8 (List.replicate 32 0)) hE7 rfl rfl (fun w => by kernel_rfl) ?_)
              intro g3 w8 hb8 hE8
              clear hE7
              refine ⟨fun _ => hb8, ?_⟩
              simp only [Act.put, pA, pB, pC]
              refine wpB_step (i := 8) (by kernel_rfl) rfl (st_store (i := 0) hE8 rfl rfl rfl rfl rfl (szA (n := 32)) (by first | (simp only [ints_size, digs_length, List.length_replicate, List.length_cons, List.length_nil]; done) | (simp only [ints_size, digs_length, List.length_replicate, List.length_cons, List.length_nil, List.length_set, List.length_append]; omega) | rfl) (by first | exact ints_one _ _ | decide | rfl | simp [*]) ?_)
              intro w9 hE9
              clear hE8
              simp only [pB, pC] at hE9
              refine ⟨fun h => absurd h (by decide), ?_⟩
              simp only [Act.put, pA, pB, pC]
              refine wpB_step (i := 9) (by kernel_rfl) rfl (st_store (i := 2) hE9 rfl rfl rfl rfl rfl (szA (n := 64)) (by first | (simp only [ints_size, digs_length, List.length_replicate, List.length_cons, List.length_nil]; done) | (simp only [ints_size, digs_length, List.length_replicate, List.length_cons, List.length_nil, List.length_set, List.length_append]; omega) | rfl) (by first | exact ints_one _ _ | decide | rfl | simp [*]) ?_)
              intro w10 hE10
              clear hE9
              simp only [pB, pC] at hE10
              refine ⟨fun h => absurd h (by decide), ?_⟩
              simp only [Act.put, pA, pB, pC]
              refine wpB_done (by kernel_rfl) ?_ _
              exact hcont g2 g3 g1 _ (hE10.perm ((List.Perm.cons _ (List.Perm.swap _ _ _)).trans (List.Perm.swap _ _ _)))
            case br10b =>
              refine st_alloc (zs := ints .u8 (List.replicate 32 0)) hE6 rfl rfl (fun w => by kernel_rfl) ?_
              intro g3 w7 hb7 hE7
              clear hE6
              refine ⟨fun _ => hb7, ?_⟩
              simp only [Act.put, pA, pB, pC]
              refine wpB_step (i := 5) (by kernel_rfl) rfl (st_gives hE7 rfl (run_call rfl Try.call8) (HS.out _ _ (RdSs.one (hE7.get (i := 1) rfl) (Hv.out.below hE7.below))) ?_)
              intro w8 hb8 hE8
              clear hE7
              refine ⟨fun _ => hb8, ?_⟩
              simp only [Act.put, pA, pB, pC]
              refine wpB_step (i := 8) (by kernel_rfl) rfl (st_store (i := 0) hE8 rfl rfl rfl rfl rfl (szA (n := 32)) (by first | (simp only [ints_size, digs_length, List.length_replicate, List.length_cons, List.length_nil]; done) | (simp only [ints_size, digs_length, List.length_replicate, List.length_cons, List.length_nil, List.length_set, List.length_append]; omega) | rfl) (by first | exact ints_one _ _ | decide | rfl | simp [*]) ?_)
              intro w9 hE9
              clear hE8
              simp only [pB, pC] at hE9
              refine ⟨fun h => absurd h (by decide), ?_⟩
              simp only [Act.put, pA, pB, pC]
              refine wpB_step (i := 9) (by kernel_rfl) rfl (st_store (i := 2) hE9 rfl rfl rfl rfl rfl (szA (n := 64)) (by first | (simp only [ints_size, digs_length, List.length_replicate, List.length_cons, List.length_nil]; done) | (simp only [ints_size, digs_length, List.length_replicate, List.length_cons, List.length_nil, List.length_set, List.length_append]; omega) | rfl) (by first | exact ints_one _ _ | decide | rfl | simp [*]) ?_)
              intro w10 hE10
              clear hE9
              simp only [pB, pC] at hE10
              refine ⟨fun h => absurd h (by decide), ?_⟩
              simp only [Act.put, pA, pB, pC]
              refine wpB_done (by kernel_rfl) ?_ _
              exact hcont g2 g3 g1 _ (hE10.perm ((List.Perm.cons _ (List.Perm.swap _ _ _)).trans (List.Perm.swap _ _ _)))
          case br9b =>
            refine st_alloc (zs := ints .u8 (List.replicate 32 0)) hE5 rfl rfl (fun w => by kernel_rfl) ?_
            intro g2 w6 hb6 hE6
            clear hE5
            refine ⟨fun _ => hb6, ?_⟩
            simp only [Act.put, pA, pB, pC]
            refine wpB_step (i := 4) (by kernel_rfl) rfl (st_buildVs [Value.slice p l.length c] (one_slice) hE6 rfl rfl (by first | rfl | (simp only [List.map_cons, List.map_nil, List.zipIdx_cons, List.zipIdx_nil]; rfl)) rfl (by decide) (by decide) Try.underlying47 (by kernel_rfl) Try.zeroValue24 ?_)
            intro g3 w7 hb7 hE7
            clear hE6
            refine ⟨fun _ => hb7, ?_⟩
            simp only [Act.put, pA, pB, pC]
            refine wpB_step (i := 5) (by kernel_rfl) rfl (st_gives hE7 rfl (run_call rfl Try.call8) (HS.out _ _ (RdSs.one (hE7.get (i := 0) rfl) (Hv.out.below hE7.below))) ?_)
            intro w8 hb8 hE8
            clear hE7
            refine ⟨fun _ => hb8, ?_⟩
            simp only [Act.put, pA, pB, pC]
            refine wpB_step (i := 8) (by kernel_rfl) rfl (st_store (i := 1) hE8 rfl rfl rfl rfl rfl (szA (n := 32)) (by first | (simp only [ints_size, digs_length, List.length_replicate, List.length_cons, List.length_nil]; done) | (simp only [ints_size, digs_length, List.length_replicate, List.length_cons, List.length_nil, List.length_set, List.length_append]; omega) | rfl) (by first | exact ints_one _ _ | decide | rfl | simp [*]) ?_)
            intro w9 hE9
            clear hE8
            simp only [pB, pC] at hE9
            refine ⟨fun h => absurd h (by decide), ?_⟩
            simp only [Act.put, pA, pB, pC]
            refine wpB_step (i := 9) (by kernel_rfl) rfl (st_store (i := 2) hE9 rfl rfl rfl rfl rfl (szA (n := 64)) (by first | (simp only [ints_size, digs_length, List.length_replicate, List.length_cons, List.length_nil]; done) | (simp only [ints_size, digs_length, List.length_replicate, List.length_cons, List.length_nil, List.length_set, List.length_append]; omega) | rfl) (by first | exact ints_one _ _ | decide | rfl | simp [*]) ?_)
            intro w10 hE10
            clear hE9
            simp only [pB, pC] at hE10
            refine ⟨fun h => absurd h (by decide), ?_⟩
            simp only [Act.put, pA, pB, pC]
            refine wpB_done (by kernel_rfl) ?_ _
            exact hcont g3 g2 g1 _ (hE10.perm ((List.Perm.cons _ (List.Perm.swap _ _ _)).trans ((List.Perm.swap _ _ _).trans (List.Perm.cons _ (List.Perm.swap _ _ _)))))
      case br1b =>
        refine st_buildVs [Value.slice p l.length c] (one_slice) hE3 rfl rfl (by first | rfl | (simp only [List.map_cons, List.map_nil, List.zipIdx_cons, List.zipIdx_nil]; rfl)) rfl (by decide) (by decide) Try.underlying47 (by kernel_rfl) Try.zeroValue24 ?_
        intro g1 w4 hb4 hE4
        clear hE3
        refine ⟨fun _ => hb4, ?_⟩
        simp only [Act.put, pA, pB, pC]
        refine wpB_step3 (i := 1) (j := 6) (k := 7) (by kernel_rfl) rfl rfl rfl ?br11a ?br11b ?br11c
        case br11a =>
          refine st_gives hE4 rfl (run_call rfl Try.call7) (HP.out _) ?_
          intro w5 hb5 hE5
          clear hE4
          refine ⟨fun _ => hb5, ?_⟩
          simp only [Act.put, pA, pB, pC]
          refine wpB_step3 (i := 5) (j := 6) (k := 7) (by kernel_rfl) rfl rfl rfl ?br12a ?br12b ?br12c
          case br12a =>
            refine st_gives hE5 rfl (run_call rfl Try.call8) (HS.out _ _ (RdSs.one (hE5.get (i := 0) rfl) (Hv.out.below hE5.below))) ?_
            intro w6 hb6 hE6
            clear hE5
            refine ⟨fun _ => hb6, ?_⟩
            simp only [Act.put, pA, pB, pC]
            refine wpB_step2 (i := 6) (j := 7) (by kernel_rfl) rfl rfl ?br13a ?br13b
            case br13a =>
              refine st_alloc (zs := ints .u8 (List.replicate 32 0)) hE6 rfl rfl (fun w => by kernel_rfl) ?_
              intro g2 w7 hb7 hE7
              clear hE6
              refine ⟨fun _ => hb7, ?_⟩
              simp only [Act.put, pA, pB, pC]
              refine wpB_step (i := 7) (by kernel_rfl) rfl (st_alloc (zs := ints .u8 (List.replicate 64 0)) hE7 rfl rfl (fun w => by kernel_rfl) ?_)
              intro g3 w8 hb8 hE8
              clear hE7
              refine ⟨fun _ => hb8, ?_⟩
              simp only [Act.put, pA, pB, pC]
              refine wpB_step (i := 8) (by kernel_rfl) rfl (st_store (i := 1) hE8 rfl rfl rfl rfl rfl (szA (n := 32)) (by first | (simp only [ints_size, digs_length, List.length_replicate, List.length_cons, List.length_nil]; done) | (simp only [ints_size, digs_length, List.length_replicate, List.length_cons, List.length_nil, List.length_set, List.length_append]; omega) | rfl) (by first | exact ints_one _ _ | decide | rfl | simp [*]) ?_)
              intro w9 hE9
              clear hE8
              simp only [pB, pC] at hE9
              refine ⟨fun h => absurd h (by decide), ?_⟩
              simp only [Act.put, pA, pB, pC]
              refine wpB_step (i := 9) (by kernel_rfl) rfl (st_store (i := 0) hE9 rfl rfl rfl rfl rfl (szA (n := 64)) (by first | (simp only [ints_size, digs_length, List.length_replicate, List.length_cons, List.length_nil]; done) | (simp only [ints_size, digs_length, List.length_replicate, List.length_cons, List.length_nil, List.length_set, List.length_append]; omega) | rfl) (by first | exact ints_one _ _ | decide | rfl | simp [*]) ?_)
              intro w10 hE10
              clear hE9
              simp only [pB, pC] at hE10
              refine ⟨fun h => absurd h (by decide), ?_⟩
              simp only [Act.put, pA, pB, pC]
              refine wpB_done (by kernel_rfl) ?_ _
              exact hcont g1 g2 g3 _ (hE10)
            case br13b =>
              refine st_alloc (zs := ints .u8 (List.replicate 64 0)) hE6 rfl rfl (fun w => by kernel_rfl) ?_
              intro g2 w7 hb7 hE7
              clear hE6
              refine ⟨fun _ => hb7, ?_⟩
              simp only [Act.put, pA, pB, pC]
              refine wpB_step (i := 6) (by kernel_rfl) rfl (st_alloc (zs := ints .u8 (List.replicate 32 0)) hE7 rfl rfl (fun w => by kernel_rfl) ?_)
              intro g3 w8 hb8 hE8
              clear hE7
              refine ⟨fun _ => hb8, ?_⟩
              simp only [Act.put, pA, pB, pC]
              refine wpB_step (i := 8) (by kernel_rfl) rfl (st_store (i := 0) hE8 rfl rfl rfl rfl rfl (szA (n := 32)) (by first | (simp only [ints_size, digs_length, List.length_replicate, List.length_cons, List.length_nil]; done) | (simp only [ints_size, digs_length, List.length_replicate, List.length_cons, List.length_nil, List.length_set, List.length_append]; omega) | rfl) (by first | exact ints_one _ _ | decide | rfl | simp [*]) ?_)
              intro w9 hE9
              clear hE8
              simp only [pB, pC] at hE9
              refine ⟨fun h => absurd h (by decide), ?_⟩
              simp only [Act.put, pA, pB, pC]
              refine wpB_step (i := 9) (by kernel_rfl) rfl (st_store (i := 1) hE9 rfl rfl rfl rfl rfl (szA (n := 64)) (by first | (simp only [ints_size, digs_length, List.length_replicate, List.length_cons, List.length_nil]; done) | (simp only [ints_size, digs_length, List.length_replicate, List.length_cons, List.length_nil, List.length_set, List.length_append]; omega) | rfl) (by first | exact ints_one _ _ | decide | rfl | simp [*]) ?_)
              intro w10 hE10
              clear hE9
              simp only [pB, pC] at hE10
              refine ⟨fun h => absurd h (by decide), ?_⟩
              simp only [Act.put, pA, pB, pC]
              refine wpB_done (by kernel_rfl) ?_ _
              exact hcont g1 g3 g2 _ (hE10.perm (List.Perm.swap _ _ _))
          case br12b =>
            refine st_alloc (zs := ints .u8 (List.replicate 32 0)) hE5 rfl rfl (fun w => by kernel_rfl) ?_
            intro g2 w6 hb6 hE6
            clear hE5
            refine ⟨fun _ => hb6, ?_⟩
            simp only [Act.put, pA, pB, pC]
            refine wpB_step2 (i := 5) (j := 7) (by kernel_rfl) rfl rfl ?br14a ?br14b
            case br14a =>
              refine st_gives hE6 rfl (run_call rfl Try.call8) (HS.out _ _ (RdSs.one (hE6.get (i := 1) rfl) (Hv.out.below hE6.below))) ?_
              intro w7 hb7 hE7
              clear hE6
              refine ⟨fun _ => hb7, ?_⟩
              simp only [Act.put, pA, pB, pC]
              refine wpB_step (i := 7) (by kernel_rfl) rfl (st_alloc (zs := ints .u8 (List.replicate 64 0)) hE7 rfl rfl (fun w => by kernel_rfl) ?_)
              intro g3 w8 hb8 hE8
              clear hE7
              refine ⟨fun _ => hb8, ?_⟩
              simp only [Act.put, pA, pB, pC]
              refine wpB_step (i := 8) (by kernel_rfl) rfl (st_store (i := 1) hE8 rfl rfl rfl rfl rfl (szA (n := 32)) (by first | (simp only [ints_size, digs_length, List.length_replicate, List.length_cons, List.length_nil]; done) | (simp only [ints_size, digs_length, List.length_replicate, List.length_cons, List.length_nil, List.length_set, List.length_append]; omega) | rfl) (by first | exact ints_one _ _ | decide | rfl | simp [*]) ?_)
              intro w9 hE9
              clear hE8
              simp only [pB, pC] at hE9
              refine ⟨fun h => absurd h (by decide), ?_⟩
              simp only [Act.put, pA, pB, pC]
              refine wpB_step (i := 9) (by kernel_rfl) rfl (st_store (i := 0) hE9 rfl rfl rfl rfl rfl (szA (n := 64)) (by first | (simp only [ints_size, digs_length, List.length_replicate, List.length_cons, List.length_nil]; done) | (simp only [ints_size, digs_length, List.length_replicate, List.length_cons, List.length_nil, List.length_set, List.length_append]; omega) | rfl) (by first | exact ints_one _ _ | decide | rfl | simp [*]) ?_)
              intro w10 hE10
              clear hE9
              simp only [pB, pC] at hE10
              refine ⟨fun h => absurd h (by decide), ?_⟩
              simp only [Act.put, pA, pB, pC]
              refine wpB_done (by kernel_rfl) ?_ _
              exact hcont g1 g2 g3 _ (hE10)
            case br14b =>
              refine st_alloc (zs := ints .u8 (List.replicate 64 0)) hE6 rfl rfl (fun w => by kernel_rfl) ?_
              intro g3 w7 hb7 hE7
              clear hE6
              refine ⟨fun _ => hb7, ?_⟩
              simp only [Act.put, pA, pB, pC]
              refine wpB_step (i := 5) (by kernel_rfl) rfl (st_gives hE7 rfl (run_call rfl Try.call8) (HS.out _ _ (RdSs.one (hE7.get (i := 2) rfl) (Hv.out.below hE7.below))) ?_)
              intro w8 hb8 hE8
              clear hE7
              refine ⟨fun _ => hb8, ?_⟩
              simp only [Act.put, pA, pB, pC]
              refine wpB_step (i := 8) (by kernel_rfl) rfl (st_store (i := 1) hE8 rfl rfl rfl rfl rfl (szA (n := 32)) (by first | (simp only [ints_size, digs_length, List.length_replicate, List.length_cons, List.length_nil]; done) | (simp only [ints_size, digs_length, List.length_replicate, List.length_cons, List.length_nil, List.length_set, List.length_append]; omega) | rfl) (by first | exact ints_one _ _ | decide | rfl | simp [*]) ?_)
              intro w9 hE9
              clear hE8
              simp only [pB, pC] at hE9
              refine ⟨fun h => absurd h (by decide), ?_⟩
              simp only [Act.put, pA, pB, pC]
              refine wpB_step (i := 9) (by kernel_rfl) rfl (st_store (i := 0) hE9 rfl rfl rfl rfl rfl (szA (n := 64)) (by first | (simp only [ints_size, digs_length, List.length_replicate, List.length_cons, List.length_nil]; done) | (simp only [ints_size, digs_length, List.length_replicate, List.length_cons, List.length_nil, List.length_set, List.length_append]; omega) | rfl) (by first | exact ints_one _ _ | decide | rfl | simp [*]) ?_)
              intro w10 hE10
              clear hE9
              simp only [pB, pC] at hE10
              refine ⟨fun h => absurd h (by decide), ?_⟩
              simp only [Act.put, pA, pB, pC]
              refine wpB_done (by kernel_rfl) ?_ _
              exact hcont g1 g2 g3 _ (hE10)
          case br12c =>
            refine st_alloc (zs := ints .u8 (List.replicate 64 0)) hE5 rfl rfl (fun w => by kernel_rfl) ?_
            intro g2 w6 hb6 hE6
            clear hE5
            refine ⟨fun _ => hb6, ?_⟩
            simp only [Act.put, pA, pB, pC]
            refine wpB_step2 (i := 5) (j := 6) (by kernel_rfl) rfl rfl ?br15a ?br15b
            case br15a =>
              refine st_gives hE6 rfl (run_call rfl Try.call8) (HS.out _ _ (RdSs.one (hE6.get (i := 1) rfl) (Hv.out.below hE6.below))) ?_
              intro w7 hb7 hE7
              clear hE6
              refine ⟨fun _ => hb7, ?_⟩
              simp only [Act.put, pA, pB, pC]
              refine wpB_step (i := 6) (by kernel_rfl) rfl (st_alloc (zs := ints .u8 (List.replicate 32 0)) hE7 rfl rfl (fun w => by kernel_rfl) ?_)
              intro g3 w8 hb8 hE8
              clear hE7
              refine ⟨fun _ => hb8, ?_⟩
              simp only [Act.put, pA, pB, pC]
              refine wpB_step (i := 8) (by kernel_rfl) rfl (st_store (i := 0) hE8 rfl rfl rfl rfl rfl (szA (n := 32)) (by first | (simp only [ints_size, digs_length, List.length_replicate, List.length_cons, List.length_nil]; done) | (simp only [ints_size, digs_length, List.length_replicate, List.length_cons, List.length_nil, List.length_set, List.length_append]; omega) | rfl) (by first | exact ints_one _ _ | decide | rfl | simp [*]) ?_)
              intro w9 hE9
              clear hE8
              simp only [pB, pC] at hE9
              refine ⟨fun h => absurd h (by decide), ?_⟩
              simp only [Act.put, pA, pB, pC]
              refine wpB_step (i := 9) (by kernel_rfl) rfl (st_store (i := 1) hE9 rfl rfl rfl rfl rfl (szA (n := 64)) (by first | (simp only [ints_size, digs_length, List.length_replicate, List.length_cons, List.length_nil]; done) | (simp only [ints_size, digs_length, List.length_replicate, List.length_cons, List.length_nil, List.length_set, List.length_append]; omega) | rfl) (by first | exact ints_one _ _ | decide | rfl | simp [*]) ?_)
              intro w10 hE10
              clear hE9
              simp only [pB, pC] at hE10
              refine ⟨fun h => absurd h (by decide), ?_⟩
              simp only [Act.put, pA, pB, pC]
              refine wpB_done (by kernel_rfl) ?_ _
              exact hcont g1 g3 g2 _ (hE10.perm (List.Perm.swap _ _ _))
            case br15b =>
              refine st_alloc (zs := ints .u8 (List.replicate 32 0)) hE6 rfl rfl (fun w => by kernel_rfl) ?_
              intro g3 w7 hb7 hE7
              clear hE6
              refine ⟨fun _ => hb7, ?_⟩
              simp only [Act.put, pA, pB, pC]
              refine wpB_step (i := 5) (by kernel_rfl) rfl (st_gives hE7 rfl (run_call rfl Try.call8) (HS.out _ _ (RdSs.one (hE7.get (i := 2) rfl) (Hv.out.below hE7.below))) ?_)
              intro w8 hb8 hE8
              clear hE7
              refine ⟨fun _ => hb8, ?_⟩
              simp only [Act.put, pA, pB, pC]
              refine wpB_step (i := 8) (by kernel_rfl) rfl (st_store (i := 0) hE8 rfl rfl rfl rfl rfl (szA (n := 32)) (by first | (simp only [ints_size, digs_length, List.length_replicate, List.length_cons, List.length_nil]; done) | (simp only [ints_size, digs_length, List.length_replicate, List.length_cons, List.length_nil, List.length_set, List.length_append]; omega) | rfl) (by first | exact ints_one _ _ | decide | rfl | simp [*]) ?_)
              intro w9 hE9
              clear hE8
              simp only [pB, pC] at hE9
              refine ⟨fun h => absurd h (by decide), ?_⟩
              simp only [Act.put, pA, pB, pC]
              refine wpB_step (i := 9) (by kernel_rfl) rfl (st_store (i := 1) hE9 rfl rfl rfl rfl rfl (szA (n := 64)) (by first | (simp only [ints_size, digs_length, List.length_replicate, List.length_cons, List.length_nil]; done) | (simp only [ints_size, digs_length, List.length_replicate, List.length_cons, List.length_nil, List.length_set, List.length_append]; omega) | rfl) (by first | exact ints_one _ _ | decide | rfl | simp [*]) ?_)
              intro w10 hE10
              clear hE9
              simp only [pB, pC] at hE10
              refine ⟨fun h => absurd h (by decide), ?_⟩
              simp only [Act.put, pA, pB, pC]
              refine wpB_done (by kernel_rfl) ?_ _
              exact hcont g1 g3 g2 _ (hE10.perm (List.Perm.swap _ _ _))
        case br11b =>
          refine st_alloc (zs := ints .u8 (List.replicate 32 0)) hE4 rfl rfl (fun w => by kernel_rfl) ?_
          intro g2 w5 hb5 hE5
          clear hE4
          refine ⟨fun _ => hb5, ?_⟩
          simp only [Act.put, pA, pB, pC]
          refine wpB_step2 (i := 1) (j := 7) (by kernel_rfl) rfl rfl ?br16a ?br16b
          case br16a =>
            refine st_gives hE5 rfl (run_call rfl Try.call7) (HP.out _) ?_
            intro w6 hb6 hE6
            clear hE5
            refine ⟨fun _ => hb6, ?_⟩
            simp only [Act.put, pA, pB, pC]
            refine wpB_step2 (i := 5) (j := 7) (by kernel_rfl) rfl rfl ?br17a ?br17b
            case br17a =>
              refine st_gives hE6 rfl (run_call rfl Try.call8) (HS.out _ _ (RdSs.one (hE6.get (i := 1) rfl) (Hv.out.below hE6.below))) ?_
              intro w7 hb7 hE7
              clear hE6
              refine ⟨fun _ => hb7, ?_⟩
              simp only [Act.put, pA, pB, pC]
              refine wpB_step (i := 7) (by kernel_rfl) rfl (st_alloc (zs := ints .u8 (List.replicate 64 0)) hE7 rfl rfl (fun w => by kernel_rfl) ?_)
              intro g3 w8 hb8 hE8
              clear hE7
              refine ⟨fun _ => hb8, ?_⟩
              simp only [Act.put, pA, pB, pC]
              refine wpB_step (i := 8) (by kernel_rfl) rfl (st_store (i := 1) hE8 rfl rfl rfl rfl rfl (szA (n := 32)) (by first | (simp only [ints_size, digs_length, List.length_replicate, List.length_cons, List.length_nil]; done) | (simp only [ints_size, digs_length, List.length_replicate, List.length_cons, List.length_nil, List.length_set, List.length_append]; omega) | rfl) (by first | exact ints_one _ _ | decide | rfl | simp [*]) ?_)
              intro w9 hE9
              clear hE8
              simp only [pB, pC] at hE9
              refine ⟨fun h => absurd h (by decide), ?_⟩
              simp only [Act.put, pA, pB, pC]
              refine wpB_step (i := 9) (by kernel_rfl) rfl (st_store (i := 0) hE9 rfl rfl rfl rfl rfl (szA (n := 64)) (by first | (simp only [ints_size, digs_length, List.length_replicate, List.length_cons, List.length_nil]; done) | (simp only [ints_size, digs_length, List.length_replicate, List.length_cons, List.length_nil, List.length_set, List.length_append]; omega) | rfl) (by first | exact ints_one _ _ | decide | rfl | simp [*]) ?_)
              intro w10 hE10
              clear hE9
              simp only [pB, pC] at hE10
              refine ⟨fun h => absurd h (by decide), ?_⟩
              simp only [Act.put, pA, pB, pC]
              refine wpB_done (by kernel_rfl) ?_ _
              exact hcont g1 g2 g3 _ (hE10)
            case br17b =>
              refine st_alloc (zs := ints .u8 (List.replicate 64 0)) hE6 rfl rfl (fun w => by kernel_rfl) ?_
              intro g3 w7 hb7 hE7
              clear hE6
              refine ⟨fun _ => hb7, ?_⟩
              simp only [Act.put, pA, pB, pC]
              refine wpB_step (i := 5) (by kernel_rfl) rfl (st_gives hE7 rfl (run_call rfl Try.call8) (HS.out _ _ (RdSs.one (hE7.get (i := 2) rfl) (Hv.out.below hE7.below))) ?_)
              intro w8 hb8 hE8
              clear hE7
              refine ⟨fun _ => hb8, ?_⟩
              simp only [Act.put, pA, pB, pC]
              refine wpB_step (i := 8) (by kernel_rfl) rfl (st_store (i := 1) hE8 rfl rfl rfl rfl rfl (szA (n := 32)) (by first | (simp only [ints_size, digs_length, List.length_replicate, List.length_cons, List.length_nil]; done) | (simp only [ints_size, digs_length, List.length_replicate, List.length_cons, List.length_nil, List.length_set, List.length_append]; omega) | rfl) (by first | exact ints_one _ _ | decide | rfl | simp [*]) ?_)
              intro w9 hE9
              clear hE8
              simp only [pB, pC] at hE9
              refine ⟨fun h => absurd h (by decide), ?_⟩
              simp only [Act.put, pA, pB, pC]
              refine wpB_step (i := 9) (by kernel_rfl) rfl (st_store (i := 0) hE9 rfl rfl rfl rfl rfl (szA (n := 64)) (by first | (simp only [ints_size, digs_length, List.length_replicate, List.length_cons, List.length_nil]; done) | (simp only [ints_size, digs_length, List.length_replicate, List.length_cons, List.length_nil, List.length_set, List.length_append]; omega) | rfl) (by first | exact ints_one _ _ | decide | rfl | simp [*]) ?_)
              intro w10 hE10
              clear hE9
              simp only [pB, pC] at hE10
              refine ⟨fun h => absurd h (by decide), ?_⟩
              simp only [Act.put, pA, pB, pC]
              refine wpB_done (by kernel_rfl) ?_ _
              exact hcont g1 g2 g3 _ (hE10)
          case br16b =>
            refine st_alloc (zs := ints .u8 (List.replicate 64 0)) hE5 rfl rfl (fun w => by kernel_rfl) ?_
            intro g3 w6 hb6 hE6
            clear hE5
            refine ⟨fun _ => hb6, ?_⟩
            simp only [Act.put, pA, pB, pC]
            refine wpB_step (i := 1) (by kernel_rfl) rfl (st_gives hE6 rfl (run_call rfl Try.call7) (HP.out _) ?_)
            intro w7 hb7 hE7
            clear hE6
            refine ⟨fun _ => hb7, ?_⟩
            simp only [Act.put, pA, pB, pC]
            refine wpB_step (i := 5) (by kernel_rfl) rfl (st_gives hE7 rfl (run_call rfl Try.call8) (HS.out _ _ (RdSs.one (hE7.get (i := 2) rfl) (Hv.out.below hE7.below))) ?_)
            intro w8 hb8 hE8
            clear hE7
            refine ⟨fun _ => hb8, ?_⟩
            simp only [Act.put, pA, pB, pC]
            refine wpB_step (i := 8) (by kernel_rfl) rfl (st_store (i := 1) hE8 rfl rfl rfl rfl rfl (szA (n := 32)) (by first | (simp only [ints_size, digs_length, List.length_replicate, List.length_cons, List.length_nil]; done) | (simp only [ints_size, digs_length, List.length_replicate, List.length_cons, List.length_nil, List.length_set, List.length_append]; omega) | rfl) (by first | exact ints_one _ _ | decide | rfl | simp [*]) ?_)
            intro w9 hE9
            clear hE8
            simp only [pB, pC] at hE9
            refine ⟨fun h => absurd h (by decide), ?_⟩
            simp only [Act.put, pA, pB, pC]
            refine wpB_step (i := 9) (by kernel_rfl) rfl (st_store (i := 0) hE9 rfl rfl rfl rfl rfl (szA (n := 64)) (by first | (simp only [ints_size, digs_length, List.length_replicate, List.length_cons, List.length_nil]; done) | (simp only [ints_size, digs_length, List.length_replicate, List.length_cons, List.length_nil, List.length_set, List.length_append]; omega) | rfl) (by first | exact ints_one _ _ | decide | rfl | simp [*]) ?_)
            intro w10 hE10
            clear hE9
            simp only [pB, pC] at hE10
            refine ⟨fun h => absurd h (by decide), ?_⟩
            simp only [Act.put, pA, pB, pC]
            refine wpB_done (by kernel_rfl) ?_ _
            exact hcont g1 g2 g3 _ (hE10)
        case br11c =>
          refine st_alloc (zs := ints .u8 (List.replicate 64 0)) hE4 rfl rfl (fun w => by kernel_rfl) ?_
          intro g2 w5 hb5 hE5
          clear hE4
          refine ⟨fun _ => hb5, ?_⟩
          simp only [Act.put, pA, pB, pC]
          refine wpB_step2 (i := 1) (j := 6) (by kernel_rfl) rfl rfl ?br18a ?br18b
          case br18a =>
            refine st_gives hE5 rfl (run_call rfl Try.call7) (HP.out _) ?_
            intro w6 hb6 hE6
            clear hE5
            refine ⟨fun _ => hb6, ?_⟩
            simp only [Act.put, pA, pB, pC]
            refine wpB_step2 (i := 5) (j := 6) (by kernel_rfl) rfl rfl ?br19a ?br19b
            case br19a =>
              refine st_gives hE6 rfl (run_call rfl Try.call8) (HS.out _ _ (RdSs.one (hE6.get (i := 1) rfl) (Hv.out.below hE6.below))) ?_
              intro w7 hb7 hE7
              clear hE6
              refine ⟨fun _ => hb7, ?_⟩
              simp only [Act.put, pA, pB, pC]
              refine wpB_step (i := 6) (by kernel_rfl) rfl (st_alloc (zs := ints .u8 (List.replicate 32 0)) hE7 rfl rfl (fun w => by kernel_rfl) ?_)
              intro g3 w8 hb8 hE8
              clear hE7
              refine ⟨fun _ => hb8, ?_⟩
              simp only [Act.put, pA, pB, pC]
              refine wpB_step (i := 8) (by kernel_rfl) rfl (st_store (i := 0) hE8 rfl rfl rfl rfl rfl (szA (n := 32)) (by first | (simp only [ints_size, digs_length, List.length_replicate, List.length_cons, List.length_nil]; done) | (simp only [ints_size, digs_length, List.length_replicate, List.length_cons, List.length_nil, List.length_set, List.length_append]; omega) | rfl) (by first | exact ints_one _ _ | decide | rfl | simp [*]) ?_)
              intro w9 hE9
              clear hE8
              simp only [pB, pC] at hE9
              refine ⟨fun h => absurd h (by decide), ?_⟩
              simp only [Act.put, pA, pB, pC]
              refine wpB_step (i := 9) (by kernel_rfl) rfl (st_store (i := 1) hE9 rfl rfl rfl rfl rfl (szA (n := 64)) (by first | (simp only [ints_size, digs_length, List.length_replicate, List.length_cons, List.length_nil]; done) | (simp only [ints_size, digs_length, List.length_replicate, List.length_cons, List.length_nil, List.length_set, List.length_append]; omega) | rfl) (by first | exact ints_one _ _ | decide | rfl | simp [*]) ?_)
              intro w10 hE10
              clear hE9
              simp only [pB, pC] at hE10
              refine ⟨fun h => absurd h (by decide), ?_⟩
              simp only [Act.put, pA, pB, pC]
              refine wpB_done (by kernel_rfl) ?_ _
              exact hcont g1 g3 g2 _ (hE10.perm (List.Perm.swap _ _ _))
            case br19b =>
              refine st_alloc (zs := ints .u8 (List.replicate 32 0)) hE6 rfl rfl (fun w => by kernel_rfl) ?_
              intro g3 w7 hb7 hE7
              clear hE6
              refine ⟨fun _ => hb7, ?_⟩
              simp only [Act.put, pA, pB, pC]
              refine wpB_step (i := 5) (by kernel_rfl) rfl (st_gives hE7 rfl (run_call rfl Try.call8) (HS.out _ _ (RdSs.one (hE7.get (i := 2) rfl) (Hv.out.below hE7.below))) ?_)
              intro w8 hb8 hE8
              clear hE7
              refine ⟨fun _ => hb8, ?_⟩
              simp only [Act.put, pA, pB, pC]
              refine wpB_step (i := 8) (by kernel_rfl) rfl (st_store (i := 0) hE8 rfl rfl rfl rfl rfl (szA (n := 32)) (by first | (simp only [ints_size, digs_length, List.length_replicate, List.length_cons, List.length_nil]; done) | (simp only [ints_size, digs_length, List.length_replicate, List.length_cons, List.length_nil, List.length_set, List.length_append]; omega) | rfl) (by first | exact ints_one _ _ | decide | rfl | simp [*]) ?_)
              intro w9 hE9
              clear hE8
              simp only [pB, pC] at hE9
              refine ⟨fun h => absurd h (by decide), ?_⟩
              simp only [Act.put, pA, pB, pC]
              refine wpB_step (i := 9) (by kernel_rfl) rfl (st_store (i := 1) hE9 rfl rfl rfl rfl rfl (szA (n := 64)) (by first | (simp only [ints_size, digs_length, List.length_replicate, List.length_cons, List.length_nil]; done) | (simp only [ints_size, digs_length, List.length_replicate, List.length_cons, List.length_nil, List.length_set, List.length_append]; omega) | rfl) (by first | exact ints_one _ _ | decide | rfl | simp [*]) ?_)
              intro w10 hE10
              clear hE9
              simp only [pB, pC] at hE10
              refine ⟨fun h => absurd h (by decide), ?_⟩
              simp only [Act.put, pA, pB, pC]
              refine wpB_done (by kernel_rfl) ?_ _
              exact hcont g1 g3 g2 _ (hE10.perm (List.Perm.swap _ _ _))
          case br18b =>
            refine st_alloc (zs := ints .u8 (List.replicate 32 0)) hE5 rfl rfl (fun w => by kernel_rfl) ?_
            intro g3 w6 hb6 hE6
            clear hE5
            refine ⟨fun _ => hb6, ?_⟩
            simp only [Act.put, pA, pB, pC]
            refine wpB_step (i := 1) (by kernel_rfl) rfl (st_gives hE6 rfl (run_call rfl Try.call7) (HP.out _) ?_)
            intro w7 hb7 hE7
            clear hE6
            refine ⟨fun _ => hb7, ?_⟩
            simp only [Act.put, pA, pB, pC]
            refine wpB_step (i := 5) (by kernel_rfl) rfl (st_gives hE7 rfl (run_call rfl Try.call8) (HS.out _ _ (RdSs.one (hE7.get (i := 2) rfl) (Hv.out.below hE7.below))) ?_)
            intro w8 hb8 hE8
            clear hE7
            refine ⟨fun _ => hb8, ?_⟩
            simp only [Act.put, pA, pB, pC]
            refine wpB_step (i := 8) (by kernel_rfl) rfl (st_store (i := 0) hE8 rfl rfl rfl rfl rfl (szA (n := 32)) (by first | (simp only [ints_size, digs_length, List.length_replicate, List.length_cons, List.length_nil]; done) | (simp only [ints_size, digs_length, List.length_replicate, List.length_cons, List.length_nil, List.length_set, List.length_append]; omega) | rfl) (by first | exact ints_one _ _ | decide | rfl | simp [*]) ?_)
            intro w9 hE9
            clear hE8
            simp only [pB, pC] at hE9
            refine ⟨fun h => absurd h (by decide), ?_⟩
            simp only [Act.put, pA, pB, pC]
            refine wpB_step (i := 9) (by kernel_rfl) rfl (st_store (i := 1) hE9 rfl rfl rfl rfl rfl (szA (n := 64)) (by first | (simp only [ints_size, digs_length, List.length_replicate, List.length_cons, List.length_nil]; done) | (simp only [ints_size, digs_length, List.length_replicate, List.length_cons, List.length_nil, List.length_set, List.length_append]; omega) | rfl) (by first | exact ints_one _ _ | decide | rfl | simp [*]) ?_)
            intro w10 hE10
            clear hE9
            simp only [pB, pC] at hE10
            refine ⟨fun h => absurd h (by decide), ?_⟩
            simp only [Act.put, pA, pB, pC]
            refine wpB_done (by kernel_rfl) ?_ _
            exact hcont g1 g3 g2 _ (hE10.perm (List.Perm.swap _ _ _))
      case br1c =>
        refine st_alloc (zs := ints .u8 (List.replicate 32 0)) hE3 rfl rfl (fun w => by kernel_rfl) ?_
        intro g1 w4 hb4 hE4
        clear hE3
        refine ⟨fun _ => hb4, ?_⟩
        simp only [Act.put, pA, pB, pC]
        refine wpB_step3 (i := 1) (j := 4) (k := 7) (by kernel_rfl) rfl rfl rfl ?br20a ?br20b ?br20c
        case br20a =>
          refine st_gives hE4 rfl (run_call rfl Try.call7) (HP.out _) ?_
          intro w5 hb5 hE5
          clear hE4
          refine ⟨fun _ => hb5, ?_⟩
          simp only [Act.put, pA, pB, pC]
          refine wpB_step2 (i := 4) (j := 7) (by kernel_rfl) rfl rfl ?br21a ?br21b
          case br21a =>
            refine st_buildVs [Value.slice p l.length c] (one_slice) hE5 rfl rfl (by first | rfl | (simp only [List.map_cons, List.map_nil, List.zipIdx_cons, List.zipIdx_nil]; rfl)) rfl (by decide) (by decide) Try.underlying47 (by kernel_rfl) Try.zeroValue24 ?_
            intro g2 w6 hb6 hE6
            clear hE5
            refine ⟨fun _ => hb6, ?_⟩
            simp only [Act.put, pA, pB, pC]
            refine wpB_step2 (i := 5) (j := 7) (by kernel_rfl) rfl rfl ?br22a ?br22b
            case br22a =>
              refine st_gives hE6 rfl (run_call rfl Try.call8) (HS.out _ _ (RdSs.one (hE6.get (i := 0) rfl) (Hv.out.below hE6.below))) ?_
              intro w7 hb7 hE7
              clear hE6
              refine ⟨fun _ => hb7, ?_⟩
              simp only [Act.put, pA, pB, pC]
              refine wpB_step (i := 7) (by kernel_rfl) rfl (st_alloc (zs := ints .u8 (List.replicate 64 0)) hE7 rfl rfl (fun w => by kernel_rfl) ?_)
              intro g3 w8 hb8 hE8
              clear hE7
              refine ⟨fun _ => hb8, ?_⟩
              simp only [Act.put, pA, pB, pC]
              refine wpB_step (i := 8) (by kernel_rfl) rfl (st_store (i := 2) hE8 rfl rfl rfl rfl rfl (szA (n := 32)) (by first | (simp only [ints_size, digs_length, List.length_replicate, List.length_cons, List.length_nil]; done) | (simp only [ints_size, digs_length, List.length_replicate, List.length_cons, List.length_nil, List.length_set, List.length_append]; omega) | rfl) (by first | exact ints_one _ _ | decide | rfl | simp [*]) ?_)
              intro w9 hE9
              clear hE8
              simp only [pB, pC] at hE9
              refine ⟨fun h => absurd h (by decide), ?_⟩
              simp only [Act.put, pA, pB, pC]
              refine wpB_step (i := 9) (by kernel_rfl) rfl (st_store (i := 0) hE9 rfl rfl rfl rfl rfl (szA (n := 64)) (by first | (simp only [ints_size, digs_length, List.length_replicate, List.length_cons, List.length_nil]; done) | (simp only [ints_size, digs_length, List.length_replicate, List.length_cons, List.length_nil, List.length_set, List.length_append]; omega) | rfl) (by first | exact ints_one _ _ | decide | rfl | simp [*]) ?_)
              intro w10 hE10
              clear hE9
              simp only [pB, pC] at hE10
              refine ⟨fun h => absurd h (by decide), ?_⟩
              simp only [Act.put, pA, pB, pC]
              refine wpB_done (by kernel_rfl) ?_ _
              exact hcont g2 g1 g3 _ (hE10.perm (List.Perm.cons _ (List.Perm.swap _ _ _)))
            case br22b =>
              refine st_alloc (zs := ints .u8 (List.replicate 64 0)) hE6 rfl rfl (fun w => by kernel_rfl) ?_
              intro g3 w7 hb7 hE7
              clear hE6
              refine ⟨fun _ => hb7, ?_⟩
              simp only [Act.put, pA, pB, pC]
              refine wpB_step (i := 5) (by kernel_rfl) rfl (st_gives hE7 rfl (run_call rfl Try.call8) (HS.out _ _ (RdSs.one (hE7.get (i := 1) rfl) (Hv.out.below hE7.below))) ?_)
              intro w8 hb8 hE8
              clear hE7
              refine ⟨fun _ => hb8, ?_⟩
              simp only [Act.put, pA, pB, pC]
              refine wpB_step (i := 8) (by kernel_rfl) rfl (st_store (i := 2) hE8 rfl rfl rfl rfl rfl (szA (n := 32)) (by first | (simp only [ints_size, digs_length, List.length_replicate, List.length_cons, List.length_nil]; done) | (simp only [ints_size, digs_length, List.length_replicate, List.length_cons, List.length_nil, List.length_set, List.length_append]; omega) | rfl) (by first | exact ints_one _ _ | decide | rfl | simp [*]) ?_)
              intro w9 hE9
              clear hE8
              simp only [pB, pC] at hE9
              refine ⟨fun h => absurd h (by decide), ?_⟩
              simp only [Act.put, pA, pB, pC]
              refine wpB_step (i := 9) (by kernel_rfl) rfl (st_store (i := 0) hE9 rfl rfl rfl rfl rfl (szA (n := 64)) (by first | (simp only [ints_size, digs_length, List.length_replicate, List.length_cons, List.length_nil]; done) | (simp only [ints_size, digs_length, List.length_replicate, List.length_cons, List.length_nil, List.length_set, List.length_append]; omega) | rfl) (by first | exact ints_one _ _ | decide | rfl | simp [*]) ?_)
              intro w10 hE10
              clear hE9
              simp only [pB, pC] at hE10
              refine ⟨fun h => absurd h (by decide), ?_⟩
              simp only [Act.put, pA, pB, pC]
              refine wpB_done (by kernel_rfl) ?_ _
              exact hcont g2 g1 g3 _ (hE10.perm (List.Perm.cons _ (List.Perm.swap _ _ _)))
          case br21b =>
            refine st_alloc (zs := ints .u8 (List.replicate 64 0)) hE5 rfl rfl (fun w => by kernel_rfl) ?_
            intro g2 w6 hb6 hE6
            clear hE5
            refine ⟨fun _ => hb6, ?_⟩
            simp only [Act.put, pA, pB, pC]
            refine wpB_step (i := 4) (by kernel_rfl) rfl (st_buildVs [Value.slice p l.length c] (one_slice) hE6 rfl rfl (by first | rfl | (simp only [List.map_cons, List.map_nil, List.zipIdx_cons, List.zipIdx_nil]; rfl)) rfl (by decide) (by decide) Try.underlying47 (by kernel_rfl) Try.zeroValue24 ?_)
            intro g3 w7 hb7 hE7
            clear hE6
            refine ⟨fun _ => hb7, ?_⟩
            simp only [Act.put, pA, pB, pC]
            refine wpB_step (i := 5) (by kernel_rfl) rfl (st_gives hE7 rfl (run_call rfl Try.call8) (HS.out _ _ (RdSs.one (hE7.get (i := 0) rfl) (Hv.out.below hE7.below))) ?_)
            intro w8 hb8 hE8
            clear hE7
            refine ⟨fun _ => hb8, ?_⟩
            simp only [Act.put, pA, pB, pC]
            refine wpB_step (i := 8) (by kernel_rfl) rfl (st_store (i := 2) hE8 rfl rfl rfl rfl rfl (szA (n := 32)) (by first | (simp only [ints_size, digs_length, List.length_replicate, List.length_cons, List.length_nil]; done) | (simp only [ints_size, digs_length, List.length_replicate, List.length_cons, List.length_nil, List.length_set, List.length_append]; omega) | rfl) (by first | exact ints_one _ _ | decide | rfl | simp [*]) ?_)
            intro w9 hE9
            clear hE8
            simp only [pB, pC] at hE9
            refine ⟨fun h => absurd h (by decide), ?_⟩
            simp only [Act.put, pA, pB, pC]
            refine wpB_step (i := 9) (by kernel_rfl) rfl (st_store (i := 1) hE9 rfl rfl rfl rfl rfl (szA (n := 64)) (by first | (simp only [ints_size, digs_length, List.length_replicate, List.length_cons, List.length_nil]; done) | (simp only [ints_size, digs_length, List.length_replicate, List.length_cons, List.length_nil, List.length_set, List.length_append]; omega) | rfl) (by first | exact ints_one _ _ | decide | rfl | simp [*]) ?_)
            intro w10 hE10
            clear hE9
            simp only [pB, pC] at hE10
            refine ⟨fun h => absurd h (by decide), ?_⟩
            simp only [Act.put, pA, pB, pC]
            refine wpB_done (by kernel_rfl) ?_ _
            exact hcont g3 g1 g2 _ (hE10.perm ((List.Perm.swap _ _ _).trans (List.Perm.cons _ (List.Perm.swap _ _ _))))
        case br20b =>
          refine st_buildVs [Value.slice p l.length c] (one_slice) hE4 rfl rfl (by first | rfl | (simp only [List.map_cons, List.map_nil, List.zipIdx_cons, List.zipIdx_nil]; rfl)) rfl (by decide) (by decide) Try.underlying47 (by kernel_rfl) Try.zeroValue24 ?_
          intro g2 w5 hb5 hE5
          clear hE4
          refine ⟨fun _ => hb5, ?_⟩
          simp only [Act.put, pA, pB, pC]
          refine wpB_step2 (i := 1) (j := 7) (by kernel_rfl) rfl rfl ?br23a ?br23b
          case br23a =>
            refine st_gives hE5 rfl (run_call rfl Try.call7) (HP.out _) ?_
            intro w6 hb6 hE6
            clear hE5
            refine ⟨fun _ => hb6, ?_⟩
            simp only [Act.put, pA, pB, pC]
            refine wpB_step2 (i := 5) (j := 7) (by kernel_rfl) rfl rfl ?br24a ?br24b
            case br24a =>
              refine st_gives hE6 rfl (run_call rfl Try.call8) (HS.out _ _ (RdSs.one (hE6.get (i := 0) rfl) (Hv.out.below hE6.below))) ?_
              intro w7 hb7 hE7
              clear hE6
              refine ⟨fun _ => hb7, ?_⟩
              simp only [Act.put, pA, pB, pC]
              refine wpB_step (i := 7) (by kernel_rfl) rfl (st_alloc (zs := ints .u8 (List.replicate 64 0)) hE7 rfl rfl (fun w => by kernel_rfl) ?_)
              intro g3 w8 hb8 hE8
              clear hE7
              refine ⟨fun _ => hb8, ?_⟩
              simp only [Act.put, pA, pB, pC]
              refine wpB_step (i := 8) (by kernel_rfl) rfl (st_store (i := 2) hE8 rfl rfl rfl rfl rfl (szA (n := 32)) (by first | (simp only [ints_size, digs_length, List.length_replicate, List.length_cons, List.length_nil]; done) | (simp only [ints_size, digs_length, List.length_replicate, List.length_cons, List.length_nil, List.length_set, List.length_append]; omega) | rfl) (by first | exact ints_one _ _ | decide | rfl | simp [*]) ?_)
              intro w9 hE9
              clear hE8
              simp only [pB, pC] at hE9
              refine ⟨fun h => absurd h (by decide), ?_⟩
              simp only [Act.put, pA, pB, pC]
              refine wpB_step (i := 9) (by kernel_rfl) rfl (st_store (i := 0) hE9 rfl rfl rfl rfl rfl (szA (n := 64)) (by first | (simp only [ints_size, digs_length, List.length_replicate, List.length_cons, List.length_nil]; done) | (simp only [ints_size, digs_length, List.length_replicate, List.length_cons, List.length_nil, List.length_set, List.length_append]; omega) | rfl) (by first | exact ints_one _ _ | decide | rfl | simp [*]) ?_)
              intro w10 hE10
              clear hE9
              simp only [pB, pC] at hE10
              refine ⟨fun h => absurd h (by decide), ?_⟩
              simp only [Act.put, pA, pB, pC]
              refine wpB_done (by kernel_rfl) ?_ _
              exact hcont g2 g1 g3 _ (hE10.perm (List.Perm.cons _ (List.Perm.swap _ _ _)))
            case br24b =>
              refine st_alloc (zs := ints .u8 (List.replicate 64 0)) hE6 rfl rfl (fun w => by kernel_rfl) ?_
              intro g3 w7 hb7 hE7
              clear hE6
              refine ⟨fun _ => hb7, ?_⟩
              simp only [Act.put, pA, pB, pC]
              refine wpB_step (i := 5) (by kernel_rfl) rfl (st_gives hE7 rfl (run_call rfl Try.call8) (HS.out _ _ (RdSs.one (hE7.get (i := 1) rfl) (Hv.out.below hE7.below))) ?_)
              intro w8 hb8 hE8
              clear hE7
              refine ⟨fun _ => hb8, ?_⟩
              simp only [Act.put, pA, pB, pC]
              refine wpB_step (i := 8) (by kernel_rfl) rfl (st_store (i := 2) hE8 rfl rfl rfl rfl rfl (szA (n := 32)) (by first | (simp only [ints_size, digs_length, List.length_replicate, List.length_cons, List.length_nil]; done) | (simp only [ints_size, digs_length, List.length_replicate, List.length_cons, List.length_nil, List.length_set, List.length_append]; omega) | rfl) (by first | exact ints_one _ _ | decide | rfl | simp [*]) ?_)
              intro w9 hE9
              clear hE8
              simp only [pB, pC] at hE9
              refine ⟨fun h => absurd h (by decide), ?_⟩
              simp only [Act.put, pA, pB, pC]
              refine wpB_step (i := 9) (by kernel_rfl) rfl (st_store (i := 0) hE9 rfl rfl rfl rfl rfl (szA (n := 64)) (by first | (simp only [ints_size, digs_length, List.length_replicate, List.length_cons, List.length_nil]; done) | (simp only [ints_size, digs_length, List.length_replicate, List.length_cons, List.length_nil, List.length_set, List.length_append]; omega) | rfl) (by first | exact ints_one _ _ | decide | rfl | simp [*]) ?_)
              intro w10 hE10
              clear hE9
              simp only [pB, pC] at hE10
              refine ⟨fun h => absurd h (by decide), ?_⟩
              simp only [Act.put, pA, pB, pC]
              refine wpB_done (by kernel_rfl) ?_ _
              exact hcont g2 g1 g3 _ (hE10.perm (List.Perm.cons _ (List.Perm.swap _ _ _)))
          case br23b =>
            refine st_alloc (zs := ints .u8 (List.replicate 64 0)) hE5 rfl rfl (fun w => by kernel_rfl) ?_
            intro g3 w6 hb6 hE6
            clear hE5
            refine ⟨fun _ => hb6, ?_⟩
            simp only [Act.put, pA, pB, pC]
            refine wpB_step (i := 1) (by kernel_rfl) rfl (st_gives hE6 rfl (run_call rfl Try.call7) (HP.out _) ?_)
            intro w7 hb7 hE7
            clear hE6
            refine ⟨fun _ => hb7, ?_⟩
            simp only [Act.put, pA, pB, pC]
            refine wpB_step (i := 5) (by kernel_rfl) rfl (st_gives hE7 rfl (run_call rfl Try.call8) (HS.out _ _ (RdSs.one (hE7.get (i := 1) rfl) (Hv.out.below hE7.below))) ?_)
            intro w8 hb8 hE8
            clear hE7
            refine ⟨fun _ => hb8, ?_⟩
            simp only [Act.put, pA, pB, pC]
            refine wpB_step (i := 8) (by kernel_rfl) rfl (st_store (i := 2) hE8 rfl rfl rfl rfl rfl (szA (n := 32)) (by first | (simp only [ints_size, digs_length, List.length_replicate, List.length_cons, List.length_nil]; done) | (simp only [ints_size, digs_length, List.length_replicate, List.length_cons, List.length_nil, List.length_set, List.length_append]; omega) | rfl) (by first | exact ints_one _ _ | decide | rfl | simp [*]) ?_)
            intro w9 hE9
            clear hE8
            simp only [pB, pC] at hE9
            refine ⟨fun h => absurd h (by decide), ?_⟩
            simp only [Act.put, pA, pB, pC]
            refine wpB_step (i := 9) (by kernel_rfl) rfl (st_store (i := 0) hE9 rfl rfl rfl rfl rfl (szA (n := 64)) (by first | (simp only [ints_size, digs_length, List.length_replicate, List.length_cons, List.length_nil]; done) | (simp only [ints_size, digs_length, List.length_replicate, List.length_cons, List.length_nil, List.length_set, List.length_append]; omega) | rfl) (by first | exact ints_one _ _ | decide | rfl | simp [*]) ?_)
            intro w10 hE10
            clear hE9
            simp only [pB, pC] at hE10
            refine ⟨fun h => absurd h (by decide), ?_⟩
            simp only [Act.put, pA, pB, pC]
            refine wpB_done (by kernel_rfl) ?_ _
            exact hcont g2 g1 g3 _ (hE10.perm (List.Perm.cons _ (List.Perm.swap _ _ _)))
        case br20c =>
          refine st_alloc (zs := ints .u8 (List.replicate 64 0)) hE4 rfl rfl (fun w => by kernel_rfl) ?_
          intro g2 w5 hb5 hE5
          clear hE4
          refine ⟨fun _ => hb5, ?_⟩
          simp only [Act.put, pA, pB, pC]
          refine wpB_step2 (i := 1) (j := 4) (by kernel_rfl) rfl rfl ?br25a ?br25b
          case br25a =>
            refine st_gives hE5 rfl (run_call rfl Try.call7) (HP.out _) ?_
            intro w6 hb6 hE6
            clear hE5
            refine ⟨fun _ => hb6, ?_⟩
            simp only [Act.put, pA, pB, pC]
            refine wpB_step (i := 4) (by kernel_rfl) rfl (st_buildVs [Value.slice p l.length c] (one_slice) hE6 rfl rfl (by first | rfl | (simp only [List.map_cons, List.map_nil, List.zipIdx_cons, List.zipIdx_nil]; rfl)) rfl (by decide) (by decide) Try.underlying47 (by kernel_rfl) Try.zeroValue24 ?_)
            intro g3 w7 hb7 hE7
            clear hE6
            refine ⟨fun _ => hb7, ?_⟩
            simp only [Act.put, pA, pB, pC]
            refine wpB_step (i := 5) (by kernel_rfl) rfl (st_gives hE7 rfl (run_call rfl Try.call8) (HS.out _ _ (RdSs.one (hE7.get (i := 0) rfl) (Hv.out.below hE7.below))) ?_)
            intro w8 hb8 hE8
            clear hE7
            refine ⟨fun _ => hb8, ?_⟩
            simp only [Act.put, pA, pB, pC]
            refine wpB_step (i := 8) (by kernel_rfl) rfl (st_store (i := 2) hE8 rfl rfl rfl rfl rfl (szA (n := 32)) (by first | (simp only [ints_size, digs_length, List.length_replicate, List.length_cons, List.length_nil]; done) | (simp only [ints_size, digs_length, List.length_replicate, List.length_cons, List.length_nil, List.length_set, List.length_append]; omega) | rfl) (by first | exact ints_one _ _ | decide | rfl | simp [*]) ?_)
            intro w9 hE9
            clear hE8
            simp only [pB, pC] at hE9
            refine ⟨fun h => absurd h (by decide), ?_⟩
            simp only [Act.put, pA, pB, pC]
            refine wpB_step (i := 9) (by kernel_rfl) rfl (st_store (i := 1) hE9 rfl rfl rfl rfl rfl (szA (n := 64)) (by first | (simp only [ints_size, digs_length, List.length_replicate, List.length_cons, List.length_nil]; done) | (simp only [ints_size, digs_length, List.length_replicate, List.length_cons, List.length_nil, List.length_set, List.length_append]; omega) | rfl) (by first | exact ints_one _ _ | decide | rfl | simp [*]) ?_)
            intro w10 hE10
            clear hE9
            simp only [pB, pC] at hE10
            refine ⟨fun h => absurd h (by decide), ?_⟩
            simp only [Act.put, pA, pB, pC]
            refine wpB_done (by kernel_rfl) ?_ _
            exact hcont g3 g1 g2 _ (hE10.perm ((List.Perm.swap _ _ _).trans (List.Perm.cons _ (List.Perm.swap _ _ _))))
          case br25b =>
            refine st_buildVs [Value.slice p l.length c] (one_slice) hE5 rfl rfl (by first | rfl | (simp only [List.map_cons, List.map_nil, List.zipIdx_cons, List.zipIdx_nil]; rfl)) rfl (by decide) (by decide) Try.underlying47 (by kernel_rfl) Try.zeroValue24 ?_
            intro g3 w6 hb6 hE6
            clear hE5
            refine ⟨fun _ => hb6, ?_⟩
            simp only [Act.put, pA, pB, pC]
            refine wpB_step (i := 1) (by kernel_rfl) rfl (st_gives hE6 rfl (run_call rfl Try.call7) (HP.out _) ?_)
            intro w7 hb7 hE7
            clear hE6
            refine ⟨fun _ => hb7, ?_⟩
            simp only [Act.put, pA, pB, pC]
            refine wpB_step (i := 5) (by kernel_rfl) rfl (st_gives hE7 rfl (run_call rfl Try.call8) (HS.out _ _ (RdSs.one (hE7.get (i := 0) rfl) (Hv.out.below hE7.below))) ?_)
            intro w8 hb8 hE8
            clear hE7
            refine ⟨fun _ => hb8, ?_⟩
            simp only [Act.put, pA, pB, pC]
            refine wpB_step (i := 8) (by kernel_rfl) rfl (st_store (i := 2) hE8 rfl rfl rfl rfl rfl (szA (n := 32)) (by first | (simp only [ints_size, digs_length, List.length_replicate, List.length_cons, List.length_nil]; done) | (simp only [ints_size, digs_length, List.length_replicate, List.length_cons, List.length_nil, List.length_set, List.length_append]; omega) | rfl) (by first | exact ints_one _ _ | decide | rfl | simp [*]) ?_)
            intro w9 hE9
            clear hE8
            simp only [pB, pC] at hE9
            refine ⟨fun h => absurd h (by decide), ?_⟩
            simp only [Act.put, pA, pB, pC]
            refine wpB_step (i := 9) (by kernel_rfl) rfl (st_store (i := 1) hE9 rfl rfl rfl rfl rfl (szA (n := 64)) (by first | (simp only [ints_size, digs_length, List.length_replicate, List.length_cons, List.length_nil]; done) | (simp only [ints_size, digs_length, List.length_replicate, List.length_cons, List.length_nil, List.length_set, List.length_append]; omega) | rfl) (by first | exact ints_one _ _ | decide | rfl | simp [*]) ?_)
            intro w10 hE10
            clear hE9
            simp only [pB, pC] at hE10
            refine ⟨fun h => absurd h (by decide), ?_⟩
            simp only [Act.put, pA, pB, pC]
            refine wpB_done (by kernel_rfl) ?_ _
            exact hcont g3 g1 g2 _ (hE10.perm ((List.Perm.swap _ _ _).trans (List.Perm.cons _ (List.Perm.swap _ _ _))))
      case br1d =>
        refine st_alloc (zs := ints .u8 (List.replicate 64 0)) hE3 rfl rfl (fun w => by kernel_rfl) ?_
        intro g1 w4 hb4 hE4
        clear hE3
        refine ⟨fun _ => hb4, ?_⟩
        simp only [Act.put, pA, pB, pC]
        refine wpB_step3 (i := 1) (j := 4) (k := 6) (by kernel_rfl) rfl rfl rfl ?br26a ?br26b ?br26c
        case br26a =>
          refine st_gives hE4 rfl (run_call rfl Try.call7) (HP.out _) ?_
          intro w5 hb5 hE5
          clear hE4
          refine ⟨fun _ => hb5, ?_⟩
          simp only [Act.put, pA, pB, pC]
          refine wpB_step2 (i := 4) (j := 6) (by kernel_rfl) rfl rfl ?br27a ?br27b
          case br27a =>
            refine st_buildVs [Value.slice p l.length c] (one_slice) hE5 rfl rfl (by first | rfl | (simp only [List.map_cons, List.map_nil, List.zipIdx_cons, List.zipIdx_nil]; rfl)) rfl (by decide) (by decide) Try.underlying47 (by kernel_rfl) Try.zeroValue24 ?_
            intro g2 w6 hb6 hE6
            clear hE5
            refine ⟨fun _ => hb6, ?_⟩
            simp only [Act.put, pA, pB, pC]
            refine wpB_step2 (i := 5) (j := 6) (by kernel_rfl) rfl rfl ?br28a ?br28b
            case br28a =>
              refine st_gives hE6 rfl (run_call rfl Try.call8) (HS.out _ _ (RdSs.one (hE6.get (i := 0) rfl) (Hv.out.below hE6.below))) ?_
              intro w7 hb7 hE7
              clear hE6
              refine ⟨fun _ => hb7, ?_⟩
              simp only [Act.put, pA, pB, pC]
              refine wpB_step (i := 6) (by kernel_rfl) rfl (st_alloc (zs := ints .u8 (List.replicate 32 0)) hE7 rfl rfl (fun w => by kernel_rfl) ?_)
              intro g3 w8 hb8 hE8
              clear hE7
              refine ⟨fun _ => hb8, ?_⟩
              simp only [Act.put, pA, pB, pC]
              refine wpB_step (i := 8) (by kernel_rfl) rfl (st_store (i := 0) hE8 rfl rfl rfl rfl rfl (szA (n := 32)) (by first | (simp only [ints_size, digs_length, List.length_replicate, List.length_cons, List.length_nil]; done) | (simp only [ints_size, digs_length, List.length_replicate, List.length_cons, List.length_nil, List.length_set, List.length_append]; omega) | rfl) (by first | exact ints_one _ _ | decide | rfl | simp [*]) ?_)
              intro w9 hE9
              clear hE8
              simp only [pB, pC] at hE9
              refine ⟨fun h => absurd h (by decide), ?_⟩
              simp only [Act.put, pA, pB, pC]
              refine wpB_step (i := 9) (by kernel_rfl) rfl (st_store (i := 2) hE9 rfl rfl rfl rfl rfl (szA (n := 64)) (by first | (simp only [ints_size, digs_length, List.length_replicate, List.length_cons, List.length_nil]; done) | (simp only [ints_size, digs_length, List.length_replicate, List.length_cons, List.length_nil, List.length_set, List.length_append]; omega) | rfl) (by first | exact ints_one _ _ | decide | rfl | simp [*]) ?_)
              intro w10 hE10
              clear hE9
              simp only [pB, pC] at hE10
              refine ⟨fun h => absurd h (by decide), ?_⟩
              simp only [Act.put, pA, pB, pC]
              refine wpB_done (by kernel_rfl) ?_ _
              exact hcont g2 g3 g1 _ (hE10.perm ((List.Perm.cons _ (List.Perm.swap _ _ _)).trans (List.Perm.swap _ _ _)))
            case br28b =>
              refine st_alloc (zs := ints .u8 (List.replicate 32 0)) hE6 rfl rfl (fun w => by kernel_rfl) ?_
              intro g3 w7 hb7 hE7
              clear hE6
              refine ⟨fun _ => hb7, ?_⟩
              simp only [Act.put, pA, pB, pC]
              refine wpB_step (i := 5) (by kernel_rfl) rfl (st_gives hE7 rfl (run_call rfl Try.call8) (HS.out _ _ (RdSs.one (hE7.get (i := 1) rfl) (Hv.out.below hE7.below))) ?_)
              intro w8 hb8 hE8
              clear hE7
              refine ⟨fun _ => hb8, ?_⟩
              simp only [Act.put, pA, pB, pC]
              refine wpB_step (i := 8) (by kernel_rfl) rfl (st_store (i := 0) hE8 rfl rfl rfl rfl rfl (szA (n := 32)) (by first | (simp only [ints_size, digs_length, List.length_replicate, List.length_cons, List.length_nil]; done) | (simp only [ints_size, digs_length, List.length_replicate, List.length_cons, List.length_nil, List.length_set, List.length_append]; omega) | rfl) (by first | exact ints_one _ _ | decide | rfl | simp [*]) ?_)
              intro w9 hE9
              clear hE8
              simp only [pB, pC] at hE9
              refine ⟨fun h => absurd h (by decide), ?_⟩
              simp only [Act.put, pA, pB, pC]
              refine wpB_step (i := 9) (by kernel_rfl) rfl (st_store (i := 2) hE9 rfl rfl rfl rfl rfl (szA (n := 64)) (by first | (simp only [ints_size, digs_length, List.length_replicate, List.length_cons, List.length_nil]; done) | (simp only [ints_size, digs_length, List.length_replicate, List.length_cons, List.length_nil, List.length_set, List.length_append]; omega) | rfl) (by first | exact ints_one _ _ | decide | rfl | simp [*]) ?_)
              intro w10 hE10
              clear hE9
              simp only [pB, pC] at hE10
              refine ⟨fun h => absurd h (by decide), ?_⟩
              simp only [Act.put, pA, pB, pC]
              refine wpB_done (by kernel_rfl) ?_ _
              exact hcont g2 g3 g1 _ (hE10.perm ((List.Perm.cons _ (List.Perm.swap _ _ _)).trans (List.Perm.swap _ _ _)))
          case br27b =>
            refine st_alloc (zs := ints .u8 (List.replicate 32 0)) hE5 rfl rfl (fun w => by kernel_rfl) ?_
            intro g2 w6 hb6 hE6
            clear hE5
            refine ⟨fun _ => hb6, ?_⟩
            simp only [Act.put, pA, pB, pC]
            refine wpB_step (i := 4) (by kernel_rfl) rfl (st_buildVs [Value.slice p l.length c] (one_slice) hE6 rfl rfl (by first | rfl | (simp only [List.map_cons, List.map_nil, List.zipIdx_cons, List.zipIdx_nil]; rfl)) rfl (by decide) (by decide) Try.underlying47 (by kernel_rfl) Try.zeroValue24 ?_)
            intro g3 w7 hb7 hE7
            clear hE6
            refine ⟨fun _ => hb7, ?_⟩
            simp only [Act.put, pA, pB, pC]
            refine wpB_step (i := 5) (by kernel_rfl) rfl (st_gives hE7 rfl (run_call rfl Try.call8) (HS.out _ _ (RdSs.one (hE7.get (i := 0) rfl) (Hv.out.below hE7.below))) ?_)
            intro w8 hb8 hE8
            clear hE7
            refine ⟨fun _ => hb8, ?_⟩
            simp only [Act.put, pA, pB, pC]
            refine wpB_step (i := 8) (by kernel_rfl) rfl (st_store (i := 1) hE8 rfl rfl rfl rfl rfl (szA (n := 32)) (by first | (simp only [ints_size, digs_length, List.length_replicate, List.length_cons, List.length_nil]; done) | (simp only [ints_size, digs_length, List.length_replicate, List.length_cons, List.length_nil, List.length_set, List.length_append]; omega) | rfl) (by first | exact ints_one _ _ | decide | rfl | simp [*]) ?_)
            intro w9 hE9
            clear hE8
            simp only [pB, pC] at hE9
            refine ⟨fun h => absurd h (by decide), ?_⟩
            simp only [Act.put, pA, pB, pC]
            refine wpB_step (i := 9) (by kernel_rfl) rfl (st_store (i := 2) hE9 rfl rfl rfl rfl rfl (szA (n := 64)) (by first | (simp only [ints_size, digs_length, List.length_replicate, List.length_cons, List.length_nil]; done) | (simp only [ints_size, digs_length, List.length_replicate, List.length_cons, List.length_nil, List.length_set, List.length_append]; omega) | rfl) (by first | exact ints_one _ _ | decide | rfl | simp [*]) ?_)
            intro w10 hE10
            clear hE9
            simp only [pB, pC] at hE10
            refine ⟨fun h => absurd h (by decide), ?_⟩
            simp only [Act.put, pA, pB, pC]
            refine wpB_done (by kernel_rfl) ?_ _
            exact hcont g3 g2 g1 _ (hE10.perm ((List.Perm.cons _ (List.Perm.swap _ _ _)).trans ((List.Perm.swap _ _ _).trans (List.Perm.cons _ (List.Perm.swap _ _ _)))))
        case br26b =>
          refine st_buildVs [Value.slice p l.length c] (one_slice) hE4 rfl rfl (by first | rfl | (simp only [List.map_cons, List.map_nil, List.zipIdx_cons, List.zipIdx_nil]; rfl)) rfl (by decide) (by decide) Try.underlying47 (by kernel_rfl) Try.zeroValue24 ?_
          intro g2 w5 hb5 hE5
          clear hE4
          refine ⟨fun _ => hb5, ?_⟩
          simp only [Act.put, pA, pB, pC]
          refine wpB_step2 (i := 1) (j := 6) (by kernel_rfl) rfl rfl ?br29a ?br29b
          case br29a =>
            refine st_gives hE5 rfl (run_call rfl Try.call7) (HP.out _) ?_
            intro w6 hb6 hE6
            clear hE5
            refine ⟨fun _ => hb6, ?_⟩
            simp only [Act.put, pA, pB, pC]
            refine wpB_step2 (i := 5) (j := 6) (by kernel_rfl) rfl rfl ?br30a ?br30b
            case br30a =>
              refine st_gives hE6 rfl (run_call rfl Try.call8) (HS.out _ _ (RdSs.one (hE6.get (i := 0) rfl) (Hv.out.below hE6.below))) ?_
              intro w7 hb7 hE7
              clear hE6
              refine ⟨fun _ => hb7, ?_⟩
              simp only [Act.put, pA, pB, pC]
              refine wpB_step (i := 6) (by kernel_rfl) rfl (st_alloc (zs := ints .u8 (List.replicate 32 0)) hE7 rfl rfl (fun w => by kernel_rfl) ?_)
              intro g3 w8 hb8 hE8
              clear hE7
              refine ⟨fun _ => hb8, ?_⟩
              simp only [Act.put, pA, pB, pC]
              refine wpB_step (i := 8) (by kernel_rfl) rfl (st_store (i := 0) hE8 rfl rfl rfl rfl rfl (szA (n := 32)) (by first | (simp only [ints_size, digs_length, List.length_replicate, List.length_cons, List.length_nil]; done) | (simp only [ints_size, digs_length, List.length_replicate, List.length_cons, List.length_nil, List.length_set, List.length_append]; omega) | rfl) (by first | exact ints_one _ _ | decide | rfl | simp [*]) ?_)
              intro w9 hE9
              clear hE8
              simp only [pB, pC] at hE9
              refine ⟨fun h => absurd h (by decide), ?_⟩
              simp only [Act.put, pA, pB, pC]
              refine wpB_step (i := 9) (by kernel_rfl) rfl (st_store (i := 2) hE9 rfl rfl rfl rfl rfl (szA (n := 64)) (by first | (simp only [ints_size, digs_length, List.length_replicate, List.length_cons, List.length_nil]; done) | (simp only [ints_size, digs_length, List.length_replicate, List.length_cons, List.length_nil, List.length_set, List.length_append]; omega) | rfl) (by first | exact ints_one _ _ | decide | rfl | simp [*]) ?_)
              intro w10 hE10
              clear hE9
              simp only [pB, pC] at hE10
              refine ⟨fun h => absurd h (by decide), ?_⟩
              simp only [Act.put, pA, pB, pC]
              refine wpB_done (by kernel_rfl) ?_ _
              exact hcont g2 g3 g1 _ (hE10.perm ((List.Perm.cons _ (List.Perm.swap _ _ _)).trans (List.Perm.swap _ _ _)))
            case br30b =>
              refine st_alloc (zs := ints .u8 (List.replicate 32 0)) hE6 rfl rfl (fun w => by kernel_rfl) ?_
              intro g3 w7 hb7 hE7
              clear hE6
              refine ⟨fun _ => hb7, ?_⟩
              simp only [Act.put, pA, pB, pC]
              refine wpB_step (i := 5) (by kernel_rfl) rfl (st_gives hE7 rfl (run_call rfl Try.call8) (HS.out _ _ (RdSs.one (hE7.get (i := 1) rfl) (Hv.out.below hE7.below))) ?_)
              intro w8 hb8 hE8
              clear hE7
              refine ⟨fun _ => hb8, ?_⟩
              simp only [Act.put, pA, pB, pC]
              refine wpB_step (i := 8) (by kernel_rfl) rfl (st_store (i := 0) hE8 rfl rfl rfl rfl rfl (szA (n := 32)) (by first | (simp only [ints_size, digs_length, List.length_replicate, List.length_cons, List.length_nil]; done) | (simp only [ints_size, digs_length, List.length_replicate, List.length_cons, List.length_nil, List.length_set, List.length_append]; omega) | rfl) (by first | exact ints_one _ _ | decide | rfl | simp [*]) ?_)
              intro w9 hE9
              clear hE8
              simp only [pB, pC] at hE9
              refine ⟨fun h => absurd h (by decide), ?_⟩
              simp only [Act.put, pA, pB, pC]
              refine wpB_step (i := 9) (by kernel_rfl) rfl (st_store (i := 2) hE9 rfl rfl rfl rfl rfl (szA (n := 64)) (by first | (simp only [ints_size, digs_length, List.length_replicate, List.length_cons, List.length_nil]; done) | (simp only [ints_size, digs_length, List.length_replicate, List.length_cons, List.length_nil, List.length_set, List.length_append]; omega) | rfl) (by first | exact ints_one _ _ | decide | rfl | simp [*]) ?_)
              intro w10 hE10
              clear hE9
              simp only [pB, pC] at hE10
              refine ⟨fun h => absurd h (by decide), ?_⟩
              simp only [Act.put, pA, pB, pC]
              refine wpB_done (by kernel_rfl) ?_ _
              exact hcont g2 g3 g1 _ (hE10.perm ((List.Perm.cons _ (List.Perm.swap _ _ _)).trans (List.Perm.swap _ _ _)))
          case br29b =>
            refine st_alloc (zs := ints .u8 (List.replicate 32 0)) hE5 rfl rfl (fun w => by kernel_rfl) ?_
            intro g3 w6 hb6 hE6
            clear hE5
            refine ⟨fun _ => hb6, ?_⟩
            simp only [Act.put, pA, pB, pC]
            refine wpB_step (i := 1) (by kernel_rfl) rfl (st_gives hE6 rfl (run_call rfl Try.call7) (HP.out _) ?_)
            intro w7 hb7 hE7
            clear hE6
            refine ⟨fun _ => hb7, ?_⟩
            simp only [Act.put, pA, pB, pC]
            refine wpB_step (i := 5) (by kernel_rfl) rfl (st_gives hE7 rfl (run_call rfl Try.call8) (HS.out _ _ (RdSs.one (hE7.get (i := 1) rfl) (Hv.out.below hE7.below))) ?_)
            intro w8 hb8 hE8
            clear hE7
            refine ⟨fun _ => hb8, ?_⟩
            simp only [Act.put, pA, pB, pC]
            refine wpB_step (i := 8) (by kernel_rfl) rfl (st_store (i := 0) hE8 rfl rfl rfl rfl rfl (szA (n := 32)) (by first | (simp only [ints_size, digs_length, List.length_replicate, List.length_cons, List.length_nil]; done) | (simp only [ints_size, digs_length, List.length_replicate, List.length_cons, List.length_nil, List.length_set, List.length_append]; omega) | rfl) (by first | exact ints_one _ _ | decide | rfl | simp [*]) ?_)
            intro w9 hE9
            clear hE8
            simp only [pB, pC] at hE9
            refine ⟨fun h => absurd h (by decide), ?_⟩
            simp only [Act.put, pA, pB, pC]
            refine wpB_step (i := 9) (by kernel_rfl) rfl (st_store (i := 2) hE9 rfl rfl rfl rfl rfl (szA (n := 64)) (by first | (simp only [ints_size, digs_length, List.length_replicate, List.length_cons, List.length_nil]; done) | (simp only [ints_size, digs_length, List.length_replicate, List.length_cons, List.length_nil, List.length_set, List.length_append]; omega) | rfl) (by first | exact ints_one _ _ | decide | rfl | simp [*]) ?_)
            intro w10 hE10
            clear hE9
            simp only [pB, pC] at hE10
            refine ⟨fun h => absurd h (by decide), ?_⟩
            simp only [Act.put, pA, pB, pC]
            refine wpB_done (by kernel_rfl) ?_ _
            exact hcont g2 g3 g1 _ (hE10.perm ((List.Perm.cons _ (List.Perm.swap _ _ _)).trans (List.Perm.swap _ _ _)))
        case br26c =>
          refine st_alloc (zs := ints .u8 (List.replicate 32 0)) hE4 rfl rfl (fun w => by kernel_rfl) ?_
          intro g2 w5 hb5 hE5
          clear hE4
          refine ⟨fun _ => hb5, ?_⟩
          simp only [Act.put, pA, pB, pC]
          refine wpB_step2 (i := 1) (j := 4) (by kernel_rfl) rfl rfl ?br31a ?br31b
          case br31a =>
            refine st_gives hE5 rfl (run_call rfl Try.call7) (HP.out _) ?_
            intro w6 hb6 hE6
            clear hE5
            refine ⟨fun _ => hb6, ?_⟩
            simp only [Act.put, pA, pB, pC]
            refine wpB_step (i := 4) (by kernel_rfl) rfl (st_buildVs [Value.slice p l.length c] (one_slice) hE6 rfl rfl (by first | rfl | (simp only [List.map_cons, List.map_nil, List.zipIdx_cons, List.zipIdx_nil]; rfl)) rfl (by decide) (by decide) Try.underlying47 (by kernel_rfl) Try.zeroValue24 ?_)
            intro g3 w7 hb7 hE7
            clear hE6
            refine ⟨fun _ => hb7, ?_⟩
            simp only [Act.put, pA, pB, pC]
            refine wpB_step (i := 5) (by kernel_rfl) rfl (st_gives hE7 rfl (run_call rfl Try.call8) (HS.out _ _ (RdSs.one (hE7.get (i := 0) rfl) (Hv.out.below hE7.below))) ?_)
            intro w8 hb8 hE8
            clear hE7
            refine ⟨fun _ => hb8, ?_⟩
            simp only [Act.put, pA, pB, pC]
            refine wpB_step (i := 8) (by kernel_rfl) rfl (st_store (i := 1) hE8 rfl rfl rfl rfl rfl (szA (n := 32)) (by first | (simp only [ints_size, digs_length, List.length_replicate, List.length_cons, List.length_nil]; done) | (simp only [ints_size, digs_length, List.length_replicate, List.length_cons, List.length_nil, List.length_set, List.length_append]; omega) | rfl) (by first | exact ints_one _ _ | decide | rfl | simp [*]) ?_)
            intro w9 hE9
            clear hE8
            simp only [pB, pC] at hE9
            refine ⟨fun h => absurd h (by decide), ?_⟩
            simp only [Act.put, pA, pB, pC]
            refine wpB_step (i := 9) (by kernel_rfl) rfl (st_store (i := 2) hE9 rfl rfl rfl rfl rfl (szA (n := 64)) (by first | (simp only [ints_size, digs_length, List.length_replicate, List.length_cons, List.length_nil]; done) | (simp only [ints_size, digs_length, List.length_replicate, List.length_cons, List.length_nil, List.length_set, List.length_append]; omega) | rfl) (by first | exact ints_one _ _ | decide | rfl | simp [*]) ?_)
            intro w10 hE10
            clear hE9
            simp only [pB, pC] at hE10
            refine ⟨fun h => absurd h (by decide), ?_⟩
            simp only [Act.put, pA, pB, pC]
            refine wpB_done (by kernel_rfl) ?_ _
            exact hcont g3 g2 g1 _ (hE10.perm ((List.Perm.cons _ (List.Perm.swap _ _ _)).trans ((List.Perm.swap _ _ _).trans (List.Perm.cons _ (List.Perm.swap _ _ _)))))
          case br31b =>
            refine st_buildVs [Value.slice p l.length c] (one_slice) hE5 rfl rfl (by first | rfl | (simp only [List.map_cons, List.map_nil, List.zipIdx_cons, List.zipIdx_nil]; rfl)) rfl (by decide) (by decide) Try.underlying47 (by kernel_rfl) Try.zeroValue24 ?_
            intro g3 w6 hb6 hE6
            clear hE5
            refine ⟨fun _ => hb6, ?_⟩
            simp only [Act.put, pA, pB, pC]
            refine wpB_step (i := 1) (by kernel_rfl) rfl (st_gives hE6 rfl (run_call rfl Try.call7) (HP.out _) ?_)
            intro w7 hb7 hE7
            clear hE6
            refine ⟨fun _ => hb7, ?_⟩
            simp only [Act.put, pA, pB, pC]
            refine wpB_step (i := 5) (by kernel_rfl) rfl (st_gives hE7 rfl (run_call rfl Try.call8) (HS.out _ _ (RdSs.one (hE7.get (i := 0) rfl) (Hv.out.below hE7.below))) ?_)
            intro w8 hb8 hE8
            clear hE7
            refine ⟨fun _ => hb8, ?_⟩
            simp only [Act.put, pA, pB, pC]
            refine wpB_step (i := 8) (by kernel_rfl) rfl (st_store (i := 1) hE8 rfl rfl rfl rfl rfl (szA (n := 32)) (by first | (simp only [ints_size, digs_length, List.length_replicate, List.length_cons, List.length_nil]; done) | (simp only [ints_size, digs_length, List.length_replicate, List.length_cons, List.length_nil, List.length_set, List.length_append]; omega) | rfl) (by first | exact ints_one _ _ | decide | rfl | simp [*]) ?_)
            intro w9 hE9
            clear hE8
            simp only [pB, pC] at hE9
            refine ⟨fun h => absurd h (by decide), ?_⟩
            simp only [Act.put, pA, pB, pC]
            refine wpB_step (i := 9) (by kernel_rfl) rfl (st_store (i := 2) hE9 rfl rfl rfl rfl rfl (szA (n := 64)) (by first | (simp only [ints_size, digs_length, List.length_replicate, List.length_cons, List.length_nil]; done) | (simp only [ints_size, digs_length, List.length_replicate, List.length_cons, List.length_nil, List.length_set, List.length_append]; omega) | rfl) (by first | exact ints_one _ _ | decide | rfl | simp [*]) ?_)
            intro w10 hE10
            clear hE9
            simp only [pB, pC] at hE10
            refine ⟨fun h => absurd h (by decide), ?_⟩
            simp only [Act.put, pA, pB, pC]
            refine wpB_done (by kernel_rfl) ?_ _
            exact hcont g3 g2 g1 _ (hE10.perm ((List.Perm.cons _ (List.Perm.swap _ _ _)).trans ((List.Perm.swap _ _ _).trans (List.Perm.cons _ (List.Perm.swap _ _ _)))))
    intro gr gk gs w4 hE4
    repeat ((fail_if_success with_reducible show wA ..); (fail_if_success with_reducible show wB ..); go_step)
    refine wv (v_built (k := .u8) (l := qL) rfl (fun w => by kernel_rfl)) ?_
    simp only [Act.put, pA, pB, pC]
    refine wl_step (st_alloc (zs := ints .u8 (List.replicate 32 0)) hE4 rfl rfl (fun w => by kernel_rfl) ?_)
    intro g1 w5 hb5 hE5
    clear hE4
    simp only [Act.put, pA, pB, pC]
    refine wl_step (st_store (i := 0) hE5 rfl rfl rfl rfl rfl (szA (n := 32)) (by first | (simp only [ints_size, digs_length, List.length_replicate, List.length_cons, List.length_nil]; done) | (simp only [ints_size, digs_length, List.length_replicate, List.length_cons, List.length_nil, List.length_set, List.length_append]; omega) | rfl) (by first | exact ints_one _ _ | decide | rfl | simp [*]) ?_)
    intro w6 hE6
    clear hE5
    simp only [pB, pC] at hE6
    simp only [Act.put, pA, pB, pC]
    repeat ((fail_if_success with_reducible show wA ..); (fail_if_success with_reducible show wB ..); go_step)
    refine wv (v_moveC (.inr rfl)) ?_
    simp only [Act.put, pA, pB, pC]
    repeat ((fail_if_success with_reducible show wA ..); (fail_if_success with_reducible show wB ..); go_step)
    refine wv (v_moveC (.inr rfl)) ?_
    simp only [Act.put, pA, pB, pC]
    have hst := hE6
    have hlong64 : (longAt F S 32).length = 64 := Hlen.out 32 (Nat.le_refl _)
    clear hE6
    go_wp2
    go_loopw [8, 9] (fun v i wr => ∃ K' : Nat, K' ≤ 32 ∧ i = .int .i64 K' ∧ v = .int .i64 ((addSt S K').2 : Nat) ∧ Env w [⟨g1, 22, ints .u8 qL⟩, ⟨gs, 30, ints .u8 (longAt F S K')⟩, ⟨gk, 27, ints .u8 K⟩, ⟨gr, 24, #[Value.slice p l.length c]⟩, ⟨g0, 23, ints .u8 s⟩] wr) (fun _ i _ => 32 - (intOf i).toNat)
    case atStart => exact ⟨0, Nat.zero_le _, rfl, rfl, hst⟩
    case round =>
      clear hst
      obtain ⟨j, hj, rfl, rfl, hE0⟩ := hrel
      by_cases hj32 : j < 32
      · have d1 := Lib.hid (decide_eq_true hj32)
        have hln := Hlen.out j hj
        have hget := Hget.out j
        have hset := Hset.out j hj32
        have hle := Hle.out j
        have hnx := Hnx.out j
        have hx := HdS.out j
        have hy := Hdq.out j
        obtain ⟨x, hxe⟩ : ∃ x, S.getD j 0 = x := ⟨_, rfl⟩
        obtain ⟨y, hye⟩ : ∃ y, qL.getD j 0 = y := ⟨_, rfl⟩
        obtain ⟨o, hoe⟩ : ∃ o, (addSt S j).2 = o := ⟨_, rfl⟩
        rw [hxe, hye, hoe] at hset hnx
        rw [hxe] at hget hx
        rw [hye] at hy
        rw [hoe] at hle
        rw [hoe]
        have hn : x + y + o < 9223372036854775808 := by omega
        have Hg := Lib.hid hget
        have Hy := Lib.hid hye
        have Hs := Lib.hid hset
        have Hn := Lib.hid hnx
        have hj64 : 32 + j < 64 := by omega
        have hjL : 32 + j < (longAt F S j).length := by omega
        clear hget hset hnx hxe hye hoe
        repeat ((fail_if_success with_reducible show wA ..); (fail_if_success with_reducible show wB ..); go_step)
        refine wv (v_moveT (.inl rfl) rfl) ?_
        simp only [Act.put, pA, pB, pC]
        refine wv (v_lss (n := 32) rfl rfl rfl) ?_
        simp only [Act.put, pA, pB, pC]
        rw [d1.out]
        repeat ((fail_if_success with_reducible show wA ..); (fail_if_success with_reducible show wB ..); (fail_if_success (with_reducible show Code.wp _ (Code.cond _ _ _) _ _ _)); go_step)
        refine wp_cond_true (by first | rfl | exact congrArg Value.bool (decide_eq_true (by omega))) ?_
        skip
        repeat ((fail_if_success with_reducible show wA ..); (fail_if_success with_reducible show wB ..); go_step)
        refine wp_region_B (n := 13) 12 (by kernel_rfl) rfl hE0 ?_
        intro w1 hb1 hE1
        clear hE0
        refine wpB_take (i := 0) (by kernel_rfl) rfl (by kernel_rfl) (fun _ _ _ h => h) rfl (v_moveT (.inl rfl) rfl) ?_
        simp only [Act.put, pA, pB, pC]
        refine wpB_take (i := 1) (by kernel_rfl) rfl (by kernel_rfl) (fun _ _ _ h => h) rfl (v_add (m := 32) rfl rfl rfl (w_i64 (by omega))) ?_
        simp only [Act.put, pA, pB, pC]
        refine wpB_take (i := 2) (by kernel_rfl) rfl (by kernel_rfl) (fun _ _ _ h => h) rfl (v_indexA0 rfl rfl rfl Try.underlying30 (by kernel_rfl) hj64) ?_
        simp only [Act.put, pA, pB, pC]
        refine wpB_take (i := 3) (by kernel_rfl) rfl (by kernel_rfl) (fun _ _ _ h => h) rfl (v_cell rfl rfl Try.underlying5 rfl (Env.cellv (i := 1) hE1 rfl (ints_get? _ _ _ hjL))) ?_
        simp only [Act.put, pA, pB, pC]
        rw [Hg.out]
        refine wpB_take (i := 4) (by kernel_rfl) rfl (by kernel_rfl) (fun _ _ _ h => h) rfl (v_convInt rfl rfl Try.underlying5 Try.underlying3 (w_i64 (by omega))) ?_
        simp only [Act.put, pA, pB, pC]
        refine wpB_take (i := 5) (by kernel_rfl) rfl (by kernel_rfl) (fun _ _ _ h => h) rfl (v_moveT (.inl rfl) rfl) ?_
        simp only [Act.put, pA, pB, pC]
        refine wpB_take (i := 6) (by kernel_rfl) rfl (by kernel_rfl) (fun _ _ _ h => h) rfl (v_indexA0 rfl rfl rfl Try.underlying22 (by kernel_rfl) (by first | assumption | omega)) ?_
        simp only [Act.put, pA, pB, pC]
        refine wpB_take (i := 7) (by kernel_rfl) rfl (by kernel_rfl) (fun _ _ _ h => h) rfl (v_cell rfl rfl Try.underlying5 rfl (Env.cellv (i := 0) hE1 rfl (ints_get? _ _ _ (by first | assumption | omega | (simp; done) | (simp; omega))))) ?_
        simp only [Act.put, pA, pB, pC]
        rw [Hy.out]
        refine wpB_take (i := 8) (by kernel_rfl) rfl (by kernel_rfl) (fun _ _ _ h => h) rfl (v_convInt rfl rfl Try.underlying5 Try.underlying3 (w_i64 (by omega))) ?_
        simp only [Act.put, pA, pB, pC]
        refine wpB_take (i := 9) (by kernel_rfl) rfl (by kernel_rfl) (fun _ _ _ h => h) rfl (v_add rfl rfl rfl (w_i64 (by omega))) ?_
        simp only [Act.put, pA, pB, pC]
        refine wpB_take (i := 10) (by kernel_rfl) rfl (by kernel_rfl) (fun _ _ _ h => h) rfl (v_moveT (.inl rfl) rfl) ?_
        simp only [Act.put, pA, pB, pC]
        refine wpB_take (i := 11) (by kernel_rfl) rfl (by kernel_rfl) (fun _ _ _ h => h) rfl (v_add rfl rfl rfl (w_i64 (by omega))) ?_
        simp only [Act.put, pA, pB, pC]
        refine wpB_step (i := 12) (by kernel_rfl) rfl (st_val rfl (v_moveT (.inr rfl) rfl) ?_)
        refine ⟨fun _ => Below.refl _ _, ?_⟩
        simp only [Act.put, pA, pB, pC]
        refine wpB_done (by kernel_rfl) ?_ _
        repeat ((fail_if_success with_reducible show wA ..); (fail_if_success with_reducible show wB ..); go_step)
        refine wv (v_moveT (.inl rfl) rfl) ?_
        simp only [Act.put, pA, pB, pC]
        refine wv (v_add (m := 32) rfl rfl rfl (w_i64 (by omega))) ?_
        simp only [Act.put, pA, pB, pC]
        refine wv (v_moveT (.inl rfl) rfl) ?_
        simp only [Act.put, pA, pB, pC]
        refine wv (v_rem (n := 256) rfl rfl rfl (by omega)) ?_
        simp only [Act.put, pA, pB, pC]
        refine wv (v_convInt rfl rfl Try.underlying3 Try.underlying5 (by first | exact w_u8 (by omega) | exact w_u8m _)) ?_
        simp only [Act.put, pA, pB, pC]
        refine wv (v_indexA0 rfl rfl rfl Try.underlying30 (by kernel_rfl) hj64) ?_
        simp only [Act.put, pA, pB, pC]
        refine wl_step (st_putN (i := 1) hE1 rfl rfl rfl rfl rfl (by kernel_rfl) hjL ?_)
        intro w2 hE2
        clear hE1
        rw [Hs.out] at hE2
        simp only [pB, pC] at hE2
        simp only [Act.put, pA, pB, pC]
        repeat ((fail_if_success with_reducible show wA ..); (fail_if_success with_reducible show wB ..); go_step)
        refine wv (v_moveT (.inl rfl) rfl) ?_
        simp only [Act.put, pA, pB, pC]
        refine wv (v_quo (n := 256) rfl rfl rfl (by omega) (w_i64 (by omega))) ?_
        simp only [Act.put, pA, pB, pC]
        refine wv (v_moveT (.inr rfl) rfl) ?_
        simp only [Act.put, pA, pB, pC]
        repeat ((fail_if_success with_reducible show wA ..); (fail_if_success with_reducible show wB ..); go_step)
        refine wv (v_moveT (.inl rfl) rfl) ?_
        simp only [Act.put, pA, pB, pC]
        refine wv (v_add (n := 1) rfl rfl rfl (w_i64 (by omega))) ?_
        simp only [Act.put, pA, pB, pC]
        refine wv (v_moveT (.inr rfl) rfl) ?_
        simp only [Act.put, pA, pB, pC]
        go_wp2
        go_roundw
        case rel => exact ⟨j + 1, by omega, rfl, by rw [Hn.out], hE2⟩
        case measure => simp [intOf]; omega
      · have hj' : j = 32 := by omega
        subst hj'
        have d1 := Lib.hid (decide_eq_false hj32)
        repeat ((fail_if_success with_reducible show wA ..); (fail_if_success with_reducible show wB ..); go_step)
        refine wv (v_moveT (.inl rfl) rfl) ?_
        simp only [Act.put, pA, pB, pC]
        refine wv (v_lss (n := 32) rfl rfl rfl) ?_
        simp only [Act.put, pA, pB, pC]
        rw [d1.out]
        repeat ((fail_if_success with_reducible show wA ..); (fail_if_success with_reducible show wB ..); (fail_if_success (with_reducible show Code.wp _ (Code.cond _ _ _) _ _ _)); go_step)
        refine wp_cond_false (by first | rfl | exact congrArg Value.bool (decide_eq_false (by omega))) ?_
        skip
        repeat ((fail_if_success with_reducible show wA ..); (fail_if_success with_reducible show wB ..); go_step)
        refine wv (v_load (i := 2) hE0 rfl rfl rfl Try.underlying27 rfl (szA (n := 32))) ?_
        simp only [Act.put, pA, pB, pC]
        refine wv (v_load (i := 1) hE0 rfl rfl rfl Try.underlying30 rfl (szA (n := 64))) ?_
        simp only [Act.put, pA, pB, pC]
        refine wv (v_moveT (.inl rfl) rfl) ?_
        simp only [Act.put, pA, pB, pC]
        refine wl_step (st_buildVs [Value.slice p l.length c] (one_slice) hE0 rfl rfl (by first | rfl | (simp only [List.map_cons, List.map_nil, List.zipIdx_cons, List.zipIdx_nil]; rfl)) rfl (by decide) (by decide) Try.underlying47 (by kernel_rfl) Try.zeroValue24 ?_)
        intro g2 w1 hb1 hE1
        clear hE0
        simp only [Act.put, pA, pB, pC]
        refine wl_step (st_gives hE1 rfl (run_call rfl Try.call9) (HV.out _ _) ?_)
        intro w2 hb2 hE2
        clear hE1
        simp only [Act.put, pA, pB, pC]
        refine wv (v_not rfl rfl) ?_
        simp only [Act.put, pA, pB, pC]
        refine wv (v_moveT (.inl rfl) rfl) ?_
        simp only [Act.put, pA, pB, pC]
        refine wl_step (st_gives hE2 rfl (run_call rfl Try.call6) (HW.out _) ?_)
        intro w3 hb3 hE3
        clear hE2
        simp only [Act.put, pA, pB, pC]
        refine wv (v_and rfl rfl (fun _ => rfl)) ?_
        simp only [Act.put, pA, pB, pC]
        refine wv (v_moveT (.inr rfl) rfl) ?_
        simp only [Act.put, pA, pB, pC]
        repeat ((fail_if_success with_reducible show wA ..); (fail_if_success with_reducible show wB ..); go_step)
        go_returns
        exact ⟨rfl, hE3.below⟩
set_option maxRecDepth 100000 in
theorem signLong_lifted (os : Os) (started : os.Started) (H : Type) (enc : TypeId × Value → H) :
    ReturnsInHanded {} Try.checked os 3 .any (Rows.signLongSpec.pre6 enc Try.prog Try.f3 Rows.signLongRow.domain false) (Rows.signLongSpec.post enc Try.prog Try.f3 false true false false) := by
  refine returnsInHanded_of_change (C := Try.checked) own started (by kernel_rfl) Try.func3
    (ChangeSpec.witness6 (enc := enc) (C := Try.checked) false ⟨#[], #[.agg (ints .u8 (List.replicate 32 0)), .slice none 0 0], []⟩ 8 (by kernel_rfl) (by kernel_rfl) (by kernel_rfl) (by kernel_rfl)) ?_
  intro W base args ds gs before hval0 hW hcnd _
  have hval : ∀ (j : Nat) t v, Try.f3.params[j]? = some t → args[j]? = some v → Value.okWide Try.prog W .any base t v := hval0
  have hW' := hW
  obtain ⟨p, q, hA0, hV, rfl, hfz, hnd⟩ := hW
  have hA : DataW.TrodAll enc Try.prog W 0 (fun _ => true) true Try.f3.params.toList args.toList ds p := hA0
  rw [Try.params3] at hA hval
  obtain ⟨v0, vs0, d0, ds0, p0, q0, hargs, rfl, rfl, h0, r0⟩ := trodAll_cons hA
  obtain ⟨v1, vs1, d1, ds1, p1, q1, rfl, rfl, rfl, h1, r1⟩ := trodAll_cons r0
  obtain ⟨rfl, rfl, rfl⟩ := trodAll_nil r1
  obtain rfl : args = #[v0, v1] := by cases args; simp_all
  obtain ⟨rfl, rfl⟩ := trodVars_none hV
  have k0 := h0
  have lt0 : ∀ x ∈ p0, x.block < W.heap.size := by obtain ⟨m, hm⟩ := k0; exact DataW.trod_lt m _ _ _ hm
  have k1 := h1
  have lt1 : ∀ x ∈ p1, x.block < W.heap.size := by obtain ⟨m, hm⟩ := k1; exact DataW.trod_lt m _ _ _ hm
  obtain ⟨l0, rfl, hl0, dl0⟩ := open_u8s Try.underlying23 Try.underlying5 (by kernel_rfl) (by kernel_rfl) (hval 0 23 v0 rfl rfl) h0
  obtain ⟨l1, hu1, hd1, hm1⟩ := open_bytes Try.underlying24 Try.underlying5 (by kernel_rfl) (hval 1 24 v1 rfl rfl) h1
  clear hA0 hval0
  refine (signLong_walk hl0 dl0 hu1 hd1 hm1).mono fun e W' ⟨he, bel⟩ => ?_
  subst he
  exact ⟨_, rfl, _, _, _, [], _, [], hW', trodAll_mk1 (shut_bool Try.underlying4 _), (trodAll_cons_mk (Below.trod laidOut (by kernel_rfl) (of_decide_eq_true (by kernel_rfl)) k0 bel lt0) (trodAll_cons_mk (Below.trod laidOut (by kernel_rfl) (of_decide_eq_true (by kernel_rfl)) k1 bel lt1) trodAll_mk0)), rfl, bel.frame _, fun h => by cases h⟩

theorem signLong_over : Rows.signLongRow.holds Try.pinned (OpenSpec.ofChange Rows.signLongSpec) :=
  OpenClaim.holds_of_wide 3 Try.f3 rfl rfl rfl rfl rfl rfl rfl ⟨rfl, rfl, rfl, rfl, rfl⟩ rfl rfl rfl rfl rfl (by kernel_rfl) Try.func3 (by kernel_rfl)
    (of_decide_eq_true (by kernel_rfl)) (by unfold Func.isWrapper; first | (rw [if_pos (by decide +kernel)]; kernel_rfl) | (rw [if_neg (by decide +kernel)]; exact ⟨rfl, rfl⟩))
    (fun os started H enc _ => signLong_lifted os started H enc)

theorem signLong_holds : Rows.SignLongSaid := signLong_over

#print axioms signLong_holds
end Go.Proofs.Ythddoelflmoedaa
