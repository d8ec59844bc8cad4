/-
  Layer 3: 'DigestLong': of as many bytes of a kind as there may be both sums are the document's. No condition.
-/
import Derived.Test.YtndnmghlgcamfaaDlwA
namespace Go.Proofs.Ytndnmghlgcamfaa
open Go.ChangeShapes Go.WideShapes Go.ChangeAt Go.RowKit
set_option linter.unusedVariables false
set_option linter.unusedSimpArgs false

theorem filled_set {x n j : Nat} (h : j < n) : (List.replicate j x ++ List.replicate (n - j) 0).set j x = List.replicate (j + 1) x ++ List.replicate (n - (j + 1)) 0 := by
  rw [List.set_append_right _ _ (by rw [List.length_replicate]; exact Nat.le_refl _), List.length_replicate, Nat.sub_self, show n - j = (n - (j + 1)) + 1 by omega, List.replicate_succ, List.set_cons_zero, List.replicate_succ', List.append_assoc]
  rfl

set_option maxRecDepth 100000 in
set_option maxHeartbeats 4000000 in
theorem digestLong_walk {x n : Nat} (hx : x < 256) (hn : n < 65536) (w : World) : Gives 6 #[.int .u8 (x : Nat), .int .u16 (n : Nat)] w (.bool true) := by
  obtain ⟨N, hN⟩ : ∃ N, n % 3000 = N := ⟨_, rfl⟩
  have hNl : N < 3000 := by rw [← hN]; exact Nat.mod_lt _ (by decide)
  have HN := Lib.hid hN
  clear hN
  have hE0 := Env.nil w
  go_enter Try.func6, Try.ntmps6
  repeat ((fail_if_success (with_reducible show wpList _ _ _ (List.cons _ _) _ _)); (fail_if_success (with_reducible show Code.wp _ (Code.region _ _ true) _ _ _)); go_step)
  refine wl_step (st_val rfl (v_moveC (.inr rfl)) ?_)
  simp only [Act.put, List.setIfInBounds_toArray, List.set_cons_zero, List.set_cons_succ]
  repeat ((fail_if_success (with_reducible show wpList _ _ _ (List.cons _ _) _ _)); (fail_if_success (with_reducible show Code.wp _ (Code.region _ _ true) _ _ _)); go_step)
  refine wl_step (st_val rfl (v_moveT (.inl rfl) rfl) ?_)
  simp only [Act.put, List.setIfInBounds_toArray, List.set_cons_zero, List.set_cons_succ]
  refine wl_step (st_val rfl (v_rem (n := 3000) rfl rfl rfl (by decide)) ?_)
  simp only [Act.put, List.setIfInBounds_toArray, List.set_cons_zero, List.set_cons_succ]
  rw [HN.out]
  refine wl_step (st_val rfl (v_convInt rfl rfl Try.underlying38 Try.underlying3 (w_i64 (by omega))) ?_)
  simp only [Act.put, List.setIfInBounds_toArray, List.set_cons_zero, List.set_cons_succ]
  refine wl_step (st_make (k := .u8) (b := 1) hE0 rfl rfl rfl rfl Try.underlying25 (by kernel_rfl) (by omega) (by omega) ?_)
  intro g0 w1 hb1 hE1
  clear hE0
  simp only [Act.put, List.setIfInBounds_toArray, List.set_cons_zero, List.set_cons_succ]
  refine wl_step (st_val rfl (v_moveT (.inr rfl) rfl) ?_)
  simp only [Act.put, List.setIfInBounds_toArray, List.set_cons_zero, List.set_cons_succ]
  repeat ((fail_if_success (with_reducible show wpList _ _ _ (List.cons _ _) _ _)); (fail_if_success (with_reducible show Code.wp _ (Code.region _ _ true) _ _ _)); go_step)
  refine wl_step (st_val rfl (v_moveC (.inr rfl)) ?_)
  simp only [Act.put, List.setIfInBounds_toArray, List.set_cons_zero, List.set_cons_succ]
  have hz : ints .u8 (List.replicate N 0) = ints .u8 (List.replicate 0 x ++ List.replicate (N - 0) 0) := by simp
  rw [hz] at hE1
  have hst := hE1
  clear hE1 hz
  go_wp2
  go_loopw [6] (fun i wr => ∃ j : Nat, j ≤ N ∧ i = .int .i64 j ∧ Env w [⟨g0, 5, ints .u8 (List.replicate j x ++ List.replicate (N - j) 0)⟩] wr) (fun i _ => N - (intOf i).toNat)
  case atStart => exact ⟨0, Nat.zero_le _, rfl, hst⟩
  case round =>
    clear hst
    obtain ⟨j, hj, rfl, hE0⟩ := hrel
    have hNl63 : N < 9223372036854775808 := by omega
    by_cases hjn : j < N
    · have d1 := Lib.hid (decide_eq_true hjn)
      have hs := Lib.hid (filled_set (x := x) hjn)
      have hlt : j < (List.replicate j x ++ List.replicate (N - j) 0).length := by rw [List.length_append, List.length_replicate, List.length_replicate]; omega
      repeat ((fail_if_success (with_reducible show wpList _ _ _ (List.cons _ _) _ _)); (fail_if_success (with_reducible show Code.wp _ (Code.region _ _ true) _ _ _)); go_step)
      refine wl_step (st_val rfl (v_moveT (.inl rfl) rfl) ?_)
      simp only [Act.put, List.setIfInBounds_toArray, List.set_cons_zero, List.set_cons_succ]
      refine wl_step (st_val rfl (v_moveT (.inl rfl) rfl) ?_)
      simp only [Act.put, List.setIfInBounds_toArray, List.set_cons_zero, List.set_cons_succ]
      refine wl_step (st_val rfl (v_len rfl rfl Try.underlying25 hNl63) ?_)
      simp only [Act.put, List.setIfInBounds_toArray, List.set_cons_zero, List.set_cons_succ]
      refine wl_step (st_val rfl (v_lss rfl rfl rfl) ?_)
      simp only [Act.put, List.setIfInBounds_toArray, List.set_cons_zero, List.set_cons_succ]
      rw [d1.out]
      repeat ((fail_if_success (with_reducible show wpList _ _ _ (List.cons _ _) _ _)); (fail_if_success (with_reducible show Code.wp _ (Code.region _ _ true) _ _ _)); (fail_if_success (with_reducible show Code.wp _ (Code.cond _ _ _) _ _ _)); go_step)
      refine wp_cond_true (by first | rfl | exact congrArg Value.bool (decide_eq_true (by omega))) ?_
      skip
      repeat ((fail_if_success (with_reducible show wpList _ _ _ (List.cons _ _) _ _)); (fail_if_success (with_reducible show Code.wp _ (Code.region _ _ true) _ _ _)); go_step)
      refine wl_step (st_val rfl (v_moveT (.inl rfl) rfl) ?_)
      simp only [Act.put, List.setIfInBounds_toArray, List.set_cons_zero, List.set_cons_succ]
      refine wl_step (st_val rfl (v_moveT (.inl rfl) rfl) ?_)
      simp only [Act.put, List.setIfInBounds_toArray, List.set_cons_zero, List.set_cons_succ]
      refine wl_step (st_val rfl (v_moveT (.inl rfl) rfl) ?_)
      simp only [Act.put, List.setIfInBounds_toArray, List.set_cons_zero, List.set_cons_succ]
      refine wl_step (st_val rfl (v_indexS0 rfl rfl rfl Try.underlying25 (by kernel_rfl) hjn) ?_)
      simp only [Act.put, List.setIfInBounds_toArray, List.set_cons_zero, List.set_cons_succ]
      refine wl_step (st_putN (i := 0) hE0 rfl rfl rfl rfl rfl (by kernel_rfl) hlt ?_)
      intro w1 hE1
      clear hE0
      rw [hs.out] at hE1
      simp only [List.set_cons_zero] at hE1
      simp only [Act.put, List.setIfInBounds_toArray, List.set_cons_zero, List.set_cons_succ]
      repeat ((fail_if_success (with_reducible show wpList _ _ _ (List.cons _ _) _ _)); (fail_if_success (with_reducible show Code.wp _ (Code.region _ _ true) _ _ _)); go_step)
      refine wl_step (st_val rfl (v_moveT (.inl rfl) rfl) ?_)
      simp only [Act.put, List.setIfInBounds_toArray, List.set_cons_zero, List.set_cons_succ]
      refine wl_step (st_val rfl (v_add (n := 1) rfl rfl rfl (w_i64 (by omega))) ?_)
      simp only [Act.put, List.setIfInBounds_toArray, List.set_cons_zero, List.set_cons_succ]
      refine wl_step (st_val rfl (v_moveT (.inr rfl) rfl) ?_)
      simp only [Act.put, List.setIfInBounds_toArray, List.set_cons_zero, List.set_cons_succ]
      go_wp2
      go_roundw
      case rel => exact ⟨j + 1, by omega, rfl, hE1⟩
      case measure => simp [intOf]; omega
    · have hj' : j = N := by omega
      subst hj'
      have d1 := Lib.hid (decide_eq_false hjn)
      obtain ⟨l, hl⟩ : ∃ l, List.replicate j x ++ List.replicate (j - j) 0 = l := ⟨_, rfl⟩
      have hll : l.length = j := by rw [← hl, List.length_append, List.length_replicate, List.length_replicate]; omega
      have dl : Digs 256 l := by
        rw [← hl]
        refine Digs.append (fun y hy => ?_) (Digs.replicate (by decide) _)
        rw [(List.mem_replicate.1 hy).2]
        exact hx
      rw [hl] at hE0
      have hv0 : RdS .u8 l (.slice (some ⟨g0, 0, none⟩) l.length l.length) wr := RdS.of_block (hE0.get (i := 0) rfl)
      rw [hll] at hv0
      have Hv : Hid (∀ w1, Below wr.heap.size wr w1 → RdS .u8 l (.slice (some ⟨g0, 0, none⟩) j j) w1) := Lib.hid (fun w1 hb => hv0.below hb)
      have hE1 := Env.nil wr
      have hbl := hE0.below
      have Hd := Lib.hid dl
      have h32 := sum256_len l
      have h64 := sum512_len l
      have hln : l.length < 549755813888 := by omega
      clear hl dl hv0 hE0
      repeat ((fail_if_success (with_reducible show wpList _ _ _ (List.cons _ _) _ _)); (fail_if_success (with_reducible show Code.wp _ (Code.region _ _ true) _ _ _)); go_step)
      refine wl_step (st_val rfl (v_moveT (.inl rfl) rfl) ?_)
      simp only [Act.put, List.setIfInBounds_toArray, List.set_cons_zero, List.set_cons_succ]
      refine wl_step (st_val rfl (v_moveT (.inl rfl) rfl) ?_)
      simp only [Act.put, List.setIfInBounds_toArray, List.set_cons_zero, List.set_cons_succ]
      refine wl_step (st_val rfl (v_len rfl rfl Try.underlying25 hNl63) ?_)
      simp only [Act.put, List.setIfInBounds_toArray, List.set_cons_zero, List.set_cons_succ]
      refine wl_step (st_val rfl (v_lss rfl rfl rfl) ?_)
      simp only [Act.put, List.setIfInBounds_toArray, List.set_cons_zero, List.set_cons_succ]
      rw [d1.out]
      repeat ((fail_if_success (with_reducible show wpList _ _ _ (List.cons _ _) _ _)); (fail_if_success (with_reducible show Code.wp _ (Code.region _ _ true) _ _ _)); (fail_if_success (with_reducible show Code.wp _ (Code.cond _ _ _) _ _ _)); go_step)
      refine wp_cond_false (by first | rfl | exact congrArg Value.bool (decide_eq_false (by omega))) ?_
      skip
      repeat ((fail_if_success (with_reducible show wpList _ _ _ (List.cons _ _) _ _)); (fail_if_success (with_reducible show Code.wp _ (Code.region _ _ true) _ _ _)); go_step)
      refine wl_step (st_val rfl (v_moveT (.inl rfl) rfl) ?_)
      simp only [Act.put, List.setIfInBounds_toArray, List.set_cons_zero, List.set_cons_succ]
      refine wl_step (st_buildVs [Value.slice (some ⟨g0, 0, none⟩) j j] (one_slice) hE1 rfl rfl (by first | rfl | (simp only [List.map_cons, List.map_nil, List.zipIdx_cons, List.zipIdx_nil]; rfl)) rfl (by decide) (by decide) Try.underlying22 (by kernel_rfl) Try.zeroValue25 ?_)
      intro g1 w2 hb2 hE2
      clear hE1
      simp only [Act.put, List.setIfInBounds_toArray, List.set_cons_zero, List.set_cons_succ]
      refine wl_step (st_gives hE2 rfl (run_call rfl Try.call13) (one_sum256 (RdSs.one (hE2.get (i := 0) rfl) (Hv.out _ hE2.below)) Hd.out hln) ?_)
      intro w3 hb3 hE3
      clear hE2
      simp only [Act.put, List.setIfInBounds_toArray, List.set_cons_zero, List.set_cons_succ]
      refine wl_step (st_val rfl (v_moveT (.inl rfl) rfl) ?_)
      simp only [Act.put, List.setIfInBounds_toArray, List.set_cons_zero, List.set_cons_succ]
      refine wl_step (st_gives hE3 rfl (run_call rfl Try.call11) (rSum32_any (Hv.out _ hE3.below) Hd.out hln) ?_)
      intro w4 hb4 hE4
      clear hE3
      simp only [Act.put, List.setIfInBounds_toArray, List.set_cons_zero, List.set_cons_succ]
      refine wl_step (st_val rfl (v_eqS32 rfl rfl rfl h32) ?_)
      simp only [Act.put, List.setIfInBounds_toArray, List.set_cons_zero, List.set_cons_succ]
      refine wl_step (st_val rfl (v_moveT (.inl rfl) rfl) ?_)
      simp only [Act.put, List.setIfInBounds_toArray, List.set_cons_zero, List.set_cons_succ]
      refine wl_step (st_val rfl (v_moveT (.inl rfl) rfl) ?_)
      simp only [Act.put, List.setIfInBounds_toArray, List.set_cons_zero, List.set_cons_succ]
      refine wl_step (st_buildVs [Value.slice (some ⟨g0, 0, none⟩) j j] (one_slice) hE4 rfl rfl (by first | rfl | (simp only [List.map_cons, List.map_nil, List.zipIdx_cons, List.zipIdx_nil]; rfl)) rfl (by decide) (by decide) Try.underlying22 (by kernel_rfl) Try.zeroValue25 ?_)
      intro g2 w5 hb5 hE5
      clear hE4
      simp only [Act.put, List.setIfInBounds_toArray, List.set_cons_zero, List.set_cons_succ]
      refine wl_step (st_gives hE5 rfl (run_call rfl Try.call14) (one_sum512 (RdSs.one (hE5.get (i := 0) rfl) (Hv.out _ hE5.below)) Hd.out hln) ?_)
      intro w6 hb6 hE6
      clear hE5
      simp only [Act.put, List.setIfInBounds_toArray, List.set_cons_zero, List.set_cons_succ]
      refine wl_step (st_val rfl (v_moveT (.inl rfl) rfl) ?_)
      simp only [Act.put, List.setIfInBounds_toArray, List.set_cons_zero, List.set_cons_succ]
      refine wl_step (st_gives hE6 rfl (run_call rfl Try.call15) (rSum64_any (Hv.out _ hE6.below) Hd.out hln) ?_)
      intro w7 hb7 hE7
      clear hE6
      simp only [Act.put, List.setIfInBounds_toArray, List.set_cons_zero, List.set_cons_succ]
      refine wl_step (st_val rfl (v_eqS64 rfl rfl rfl h64) ?_)
      simp only [Act.put, List.setIfInBounds_toArray, List.set_cons_zero, List.set_cons_succ]
      refine wl_step (st_val rfl (v_and rfl rfl (fun _ => rfl)) ?_)
      simp only [Act.put, List.setIfInBounds_toArray, List.set_cons_zero, List.set_cons_succ]
      refine wl_step (st_val rfl (v_moveT (.inl rfl) rfl) ?_)
      simp only [Act.put, List.setIfInBounds_toArray, List.set_cons_zero, List.set_cons_succ]
      refine wl_step (st_gives hE7 rfl (run_call rfl Try.call8) (awake_any _) ?_)
      intro w8 hb8 hE8
      clear hE7
      simp only [Act.put, List.setIfInBounds_toArray, List.set_cons_zero, List.set_cons_succ]
      refine wl_step (st_val rfl (v_and rfl rfl (fun _ => rfl)) ?_)
      simp only [Act.put, List.setIfInBounds_toArray, List.set_cons_zero, List.set_cons_succ]
      refine wl_step (st_val rfl (v_moveT (.inr rfl) rfl) ?_)
      simp only [Act.put, List.setIfInBounds_toArray, List.set_cons_zero, List.set_cons_succ]
      repeat ((fail_if_success (with_reducible show wpList _ _ _ (List.cons _ _) _ _)); (fail_if_success (with_reducible show Code.wp _ (Code.region _ _ true) _ _ _)); (fail_if_success (with_reducible show Code.wp _ (Code.cond _ _ _) _ _ _)); go_step)
      go_returns
      exact ⟨rfl, hbl.trans ((hE8).below.mono hbl.size)⟩
set_option maxRecDepth 100000 in
theorem digestLong_lifted (os : Os) (started : os.Started) (H : Type) (enc : TypeId × Value → H) :
    ReturnsInHanded {} Try.checked os 6 .any (Rows.digestLongSpec.pre6 enc Try.prog Try.f6 Rows.digestLongRow.domain false) (Rows.digestLongSpec.post enc Try.prog Try.f6 false true false false) := by
  refine returnsInHanded_of_change (C := Try.checked) own started (by kernel_rfl) Try.func6
    (ChangeSpec.witness6 (enc := enc) (C := Try.checked) false ⟨#[], #[.int .u8 0, .int .u16 0], []⟩ 8 (by kernel_rfl) (by kernel_rfl) (by kernel_rfl) (by kernel_rfl)) ?_
  intro W base args ds gs before hval0 hW hcnd _
  have hval : ∀ (j : Nat) t v, Try.f6.params[j]? = some t → args[j]? = some v → Value.okWide Try.prog W .any base t v := hval0
  have hW' := hW
  obtain ⟨p, q, hA0, hV, rfl, hfz, hnd⟩ := hW
  have hA : DataW.TrodAll enc Try.prog W 0 (fun _ => true) true Try.f6.params.toList args.toList ds p := hA0
  rw [Try.params6] at hA hval
  obtain ⟨v0, vs0, d0, ds0, p0, q0, hargs, rfl, rfl, h0, r0⟩ := trodAll_cons hA
  obtain ⟨v1, vs1, d1, ds1, p1, q1, rfl, rfl, rfl, h1, r1⟩ := trodAll_cons r0
  obtain ⟨rfl, rfl, rfl⟩ := trodAll_nil r1
  obtain rfl : args = #[v0, v1] := by cases args; simp_all
  obtain ⟨rfl, rfl⟩ := trodVars_none hV
  have k0 := h0
  have lt0 : ∀ x ∈ p0, x.block < W.heap.size := by obtain ⟨m, hm⟩ := k0; exact DataW.trod_lt m _ _ _ hm
  have k1 := h1
  have lt1 : ∀ x ∈ p1, x.block < W.heap.size := by obtain ⟨m, hm⟩ := k1; exact DataW.trod_lt m _ _ _ hm
  obtain ⟨a0, rfl, rfl, rfl, wf0⟩ := open_int Try.underlying5 (hval 0 5 v0 rfl rfl) h0
  obtain ⟨x0, rfl, hx0⟩ : ∃ n : Nat, a0 = (n : Int) ∧ n < 256 := by have := bounds_u8 wf0; exact ⟨a0.toNat, by omega, by omega⟩
  obtain ⟨a1, rfl, rfl, rfl, wf1⟩ := open_int Try.underlying38 (hval 1 38 v1 rfl rfl) h1
  obtain ⟨x1, rfl, hx1⟩ : ∃ n : Nat, a1 = (n : Int) ∧ n < 65536 := by simp [Lit.wf, IntKind.min, IntKind.max, IntKind.signed, IntKind.bits] at wf1; exact ⟨a1.toNat, by omega, by omega⟩
  clear hA0 hval0
  refine (digestLong_walk hx0 hx1 W).mono fun e W' ⟨he, bel⟩ => ?_
  subst he
  exact ⟨_, rfl, _, _, _, [], _, [], hW', trodAll_mk1 (shut_bool Try.underlying4 _), (trodAll_cons_mk (Below.trod laidOut (by kernel_rfl) (of_decide_eq_true (by kernel_rfl)) k0 bel lt0) (trodAll_cons_mk (Below.trod laidOut (by kernel_rfl) (of_decide_eq_true (by kernel_rfl)) k1 bel lt1) trodAll_mk0)), rfl, bel.frame _, fun h => by cases h⟩

theorem digestLong_over : Rows.digestLongRow.holds Try.pinned (OpenSpec.ofChange Rows.digestLongSpec) :=
  OpenClaim.holds_of_wide 6 Try.f6 rfl rfl rfl rfl rfl rfl rfl ⟨rfl, rfl, rfl, rfl, rfl⟩ rfl rfl rfl rfl rfl (by kernel_rfl) Try.func6 (by kernel_rfl)
    (of_decide_eq_true (by kernel_rfl)) (by unfold Func.isWrapper; first | (rw [if_pos (by decide +kernel)]; kernel_rfl) | (rw [if_neg (by decide +kernel)]; exact ⟨rfl, rfl⟩))
    (fun os started H enc _ => digestLong_lifted os started H enc)

theorem digestLong_holds : Rows.DigestLongSaid := digestLong_over

#print axioms digestLong_holds
end Go.Proofs.Ytndnmghlgcamfaa
