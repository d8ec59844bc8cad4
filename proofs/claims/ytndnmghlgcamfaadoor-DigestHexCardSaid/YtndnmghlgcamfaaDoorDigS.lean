/-
  Layer 3: bytes as digits; the document's example.
-/
import Derived.Test.YtndnmghlgcamfaaDoorDigL
import Derived.Test.YtndnmghlgcamfaaDoorStr
namespace Go.Proofs.YtndnmghlgcamfaaDoor
open Go.RowKit
set_option maxRecDepth 100000
set_option linter.unusedVariables false
set_option linter.unusedSimpArgs false

theorem take_snocH {l : List Nat} {n : Nat} (h : n < l.length) : l.take n ++ [l.getD n 0] = l.take (n + 1) := by
  rw [List.take_succ_eq_append_getElem h, List.getD_eq_getElem?_getD, List.getElem?_eq_getElem h]
  rfl
/-- A digit's letter. -/
def hx (d : Nat) : Nat := if d < 10 then 48 + d else 87 + d
def hexN (l : List Nat) : List Nat := l.flatMap fun c => [hx (c / 16), hx (c % 16)]
theorem hx_lt {d : Nat} (h : d < 16) : hx d < 256 := by unfold hx; split <;> omega
theorem hexN_len (l : List Nat) : (hexN l).length = 2 * l.length := by
  unfold hexN
  induction l with
  | nil => rfl
  | cons c l ih => rw [List.flatMap_cons, List.length_append, ih, List.length_cons]; simp; omega
theorem hexN_Digs {l : List Nat} (h : Digs 256 l) : Digs 256 (hexN l) := fun x hx' => by
  unfold hexN at hx'
  obtain ⟨c, hc, hm⟩ := List.mem_flatMap.1 hx'
  have := h c hc
  simp only [List.mem_cons, List.not_mem_nil, or_false] at hm
  rcases hm with rfl | rfl <;> exact hx_lt (by omega)
theorem hexN_snoc (l : List Nat) (c : Nat) : hexN (l ++ [c]) = hexN l ++ [hx (c / 16), hx (c % 16)] := by
  unfold hexN
  rw [List.flatMap_append]
  simp
/-- The digits' letters, as a string. -/
def hexS : ByteArray := bytesOf [48, 49, 50, 51, 52, 53, 54, 55, 56, 57, 97, 98, 99, 100, 101, 102]
theorem hexS_at {s : ByteArray} (hs : s = hexS) {d : Nat} (h : d < 16) : s[d]? = some (UInt8.ofNat (hx d)) := by
  subst hs
  have : ∀ d : Fin 16, hexS[d.val]? = some (UInt8.ofNat (hx d.val)) := by decide
  exact this ⟨d, h⟩
theorem hx_nat {d : Nat} (h : d < 16) : ((UInt8.ofNat (hx d)).toNat : Int) = ((hx d : Nat) : Int) := by
  rw [UInt8.toNat_ofNat', Nat.mod_eq_of_lt (hx_lt h)]

set_option maxRecDepth 100000 in
set_option maxHeartbeats 4000000 in
theorem Hex_any {l : List Nat} {v : Value} {w : World} (hv : RdS .u8 l v w) (dl : Digs 256 l) (hl : l.length < 549755813888) : Gives 5 #[v] w (.string (bytesOf (hexN l))) := by
  obtain ⟨p, c, rfl, hc, -⟩ := id hv
  obtain ⟨i0, hi, hz, hs, hby⟩ := info_u8
  have Hi := Lib.hid hi
  have Hz := Lib.hid hz
  have Hs := Lib.hid hs
  have Hby := Lib.hid hby
  have Hv := Lib.hid hv
  have Hd := Lib.hid dl
  have hl63 : l.length < 9223372036854775808 := by omega
  clear hi hz hs hby hv dl
  have hE0 := Env.nil w
  go_enter Tryd.func5, Tryd.ntmps5
  repeat ((fail_if_success (with_reducible show wpList _ _ _ (List.cons _ _) _ _)); (fail_if_success (with_reducible show Code.wp _ (Code.region _ _ true) _ _ _)); go_step)
  refine wl_step (st_val rfl (v_moveC (.inr rfl)) ?_)
  simp only [Act.put, List.setIfInBounds_toArray, List.set_cons_zero, List.set_cons_succ]
  repeat ((fail_if_success (with_reducible show wpList _ _ _ (List.cons _ _) _ _)); (fail_if_success (with_reducible show Code.wp _ (Code.region _ _ true) _ _ _)); go_step)
  refine wl_step (st_val rfl (v_moveC (.inr rfl)) ?_)
  simp only [Act.put, List.setIfInBounds_toArray, List.set_cons_zero, List.set_cons_succ]
  repeat ((fail_if_success (with_reducible show wpList _ _ _ (List.cons _ _) _ _)); (fail_if_success (with_reducible show Code.wp _ (Code.region _ _ true) _ _ _)); go_step)
  refine wl_step (st_val rfl (v_moveT (.inl rfl) rfl) ?_)
  simp only [Act.put, List.setIfInBounds_toArray, List.set_cons_zero, List.set_cons_succ]
  refine wl_step (st_val rfl (v_len rfl rfl Tryd.underlying22 hl63) ?_)
  simp only [Act.put, List.setIfInBounds_toArray, List.set_cons_zero, List.set_cons_succ]
  refine wl_step (st_val rfl (v_moveC (.inl rfl)) ?_)
  simp only [Act.put, List.setIfInBounds_toArray, List.set_cons_zero, List.set_cons_succ]
  have hst : Env w ([] ++ []) w := hE0
  clear hE0
  go_wp2
  go_loopw [3, 8] (fun s i wr => ∃ (j : Nat) (bs : List Blk), j ≤ l.length ∧ i = .int .i64 j ∧ Hid (Ow 5 (nats .u8 (hexN (l.take j))) s bs) ∧ Env w (bs ++ []) wr) (fun _ i _ => l.length - (intOf i).toNat)
  case atStart => exact ⟨0, [], Nat.zero_le _, rfl, Lib.hid (by rw [List.take_zero]; exact Ow.nil _), hst⟩
  case round =>
    clear hst
    obtain ⟨j, bs, hj, rfl, hO, hE0⟩ := hrel
    have hhl : (hexN (l.take j)).length = 2 * j := by rw [hexN_len, List.length_take, Nat.min_eq_left hj]
    by_cases hjl : j < l.length
    · have d1 := Lib.hid (decide_eq_true hjl)
      obtain ⟨b, off, hp, hcell⟩ := Hv.out.at hjl
      subst hp
      have hx0 := Hd.out.getD (by decide) j
      have hsn : hexN (l.take j) ++ [hx (l.getD j 0 / 16), hx (l.getD j 0 % 16)] = hexN (l.take (j + 1)) := by
        rw [← hexN_snoc, take_snocH hjl]
      obtain ⟨x, hxx⟩ : ∃ x, l.getD j 0 = x := ⟨_, rfl⟩
      rw [hxx] at hx0 hsn hcell
      have hd1 : x / 16 < 16 := by omega
      have hd2 : x % 16 < 16 := Nat.mod_lt _ (by decide)
      have e : nats .u8 (hexN (l.take j)) ++ nats .u8 [hx (x / 16), hx (x % 16)] = nats .u8 (hexN (l.take (j + 1))) := by rw [nats_append, hsn]
      have h63 : (nats .u8 (hexN (l.take j))).length + ([0, 0] : List Nat).length ≤ maxLen := by rw [nats_len, hhl]; simp only [List.length_cons, List.length_nil, maxLen]; omega
      have hft : ((nats .u8 (hexN (l.take j))).length + ([0, 0] : List Nat).length) * 1 ≤ 140737488355328 := by rw [nats_len, hhl]; simp only [List.length_cons, List.length_nil]; omega
      have HC := Lib.hid hcell
      have He := Lib.hid e
      have N1 := Lib.hid (hx_nat hd1)
      have N2 := Lib.hid (hx_nat hd2)
      clear hcell hsn e hxx
      repeat ((fail_if_success (with_reducible show wpList _ _ _ (List.cons _ _) _ _)); (fail_if_success (with_reducible show Code.wp _ (Code.region _ _ true) _ _ _)); go_step)
      refine wl_step (st_val rfl (v_lss rfl rfl rfl) ?_)
      simp only [Act.put, List.setIfInBounds_toArray, List.set_cons_zero, List.set_cons_succ]
      rw [d1.out]
      repeat ((fail_if_success (with_reducible show wpList _ _ _ (List.cons _ _) _ _)); (fail_if_success (with_reducible show Code.wp _ (Code.region _ _ true) _ _ _)); (fail_if_success (with_reducible show Code.wp _ (Code.cond _ _ _) _ _ _)); go_step)
      refine wp_cond_true (by first | rfl | exact congrArg Value.bool (decide_eq_true (by omega))) ?_
      skip
      repeat ((fail_if_success (with_reducible show wpList _ _ _ (List.cons _ _) _ _)); (fail_if_success (with_reducible show Code.wp _ (Code.region _ _ true) _ _ _)); go_step)
      refine wl_step (st_val rfl (v_indexS rfl rfl rfl Tryd.underlying22 (by kernel_rfl) hjl) ?_)
      simp only [Act.put, List.setIfInBounds_toArray, List.set_cons_zero, List.set_cons_succ]
      refine wl_step (st_val rfl (v_cell rfl rfl Tryd.underlying5 rfl (fun w1 hb => HC.out w1 (hE0.below.trans (hb.mono hE0.below.size)))) ?_)
      simp only [Act.put, List.setIfInBounds_toArray, List.set_cons_zero, List.set_cons_succ]
      refine wl_step (st_val rfl (v_moveT (.inr rfl) rfl) ?_)
      simp only [Act.put, List.setIfInBounds_toArray, List.set_cons_zero, List.set_cons_succ]
      repeat ((fail_if_success (with_reducible show wpList _ _ _ (List.cons _ _) _ _)); (fail_if_success (with_reducible show Code.wp _ (Code.region _ _ true) _ _ _)); go_step)
      refine wp_region_B (n := 10) 8 (by kernel_rfl) rfl hE0 ?_
      intro w1 hb1 hE1
      clear hE0
      refine wpB_take (i := 0) (by kernel_rfl) rfl (by kernel_rfl) (fun _ _ _ h => h) rfl (v_moveT (.inl rfl) rfl) ?_
      simp only [Act.put, List.setIfInBounds_toArray, List.set_cons_zero, List.set_cons_succ]
      refine wpB_take (i := 1) (by kernel_rfl) rfl (by kernel_rfl) (fun _ _ _ h => h) rfl (v_moveT (.inl rfl) rfl) ?_
      simp only [Act.put, List.setIfInBounds_toArray, List.set_cons_zero, List.set_cons_succ]
      refine wpB_take (i := 2) (by kernel_rfl) rfl (by kernel_rfl) (fun _ _ _ h => h) rfl (v_shrC (s := 4) (d := 16) rfl rfl rfl (by decide) (by decide)) ?_
      simp only [Act.put, List.setIfInBounds_toArray, List.set_cons_zero, List.set_cons_succ]
      refine wpB_take (i := 3) (by kernel_rfl) rfl (by kernel_rfl) (fun _ _ _ h => h) rfl (v_idxStr rfl rfl rfl Tryd.underlying9 (hexS_at (by kernel_rfl) hd1)) ?_
      simp only [Act.put, List.setIfInBounds_toArray, List.set_cons_zero, List.set_cons_succ]
      rw [N1.out]
      refine wpB_take (i := 4) (by kernel_rfl) rfl (by kernel_rfl) (fun _ _ _ h => h) rfl (v_moveT (.inl rfl) rfl) ?_
      simp only [Act.put, List.setIfInBounds_toArray, List.set_cons_zero, List.set_cons_succ]
      refine wpB_take (i := 5) (by kernel_rfl) rfl (by kernel_rfl) (fun _ _ _ h => h) rfl (v_mask (c := 15) (s := 4) (d := 16) rfl rfl rfl (by decide) (by decide) rfl (by simp only [IntKind.bits]; omega) (by decide)) ?_
      simp only [Act.put, List.setIfInBounds_toArray, List.set_cons_zero, List.set_cons_succ]
      refine wpB_take (i := 6) (by kernel_rfl) rfl (by kernel_rfl) (fun _ _ _ h => h) rfl (v_idxStr rfl rfl rfl Tryd.underlying9 (hexS_at (by kernel_rfl) hd2)) ?_
      simp only [Act.put, List.setIfInBounds_toArray, List.set_cons_zero, List.set_cons_succ]
      rw [N2.out]
      refine wpB_step (i := 7) (by kernel_rfl) rfl (st_buildNums (k := .u8) [hx (x / 16), hx (x % 16)] hE1 rfl rfl (by first | (kernel_rfl; done) | (simp only [List.map_cons, List.map_nil, List.zipIdx_cons, List.zipIdx_nil]; rfl)) rfl (by decide) (by decide) Tryd.underlying22 (by kernel_rfl) Tryd.zeroValue5 ?_)
      intro g1 w2 hb2 hE2
      clear hE1
      refine ⟨fun _ => hb2, ?_⟩
      simp only [Act.put, List.setIfInBounds_toArray, List.set_cons_zero, List.set_cons_succ]
      refine wpB_step (i := 8) (by kernel_rfl) rfl (st_append (hO.out.sl (hE2.perm List.perm_middle.symm)) rfl rfl Tryd.underlying22 Hi.out Hz.out Hs.out rfl Hby.out rfl rfl (RdS.of_block (hE2.get (i := 0) rfl)) h63 hft ?_)
      intro v3 w3 hS3
      have hE3 := hS3.env
      clear hE2
      refine ⟨fun h => absurd h (by decide), ?_⟩
      simp only [Act.put, List.setIfInBounds_toArray, List.set_cons_zero, List.set_cons_succ]
      obtain ⟨bs2, ho2, hEE⟩ := hS3.ow
      rw [He.out] at ho2
      refine wpB_step (i := 9) (by kernel_rfl) rfl (st_val rfl (v_moveT (.inr rfl) rfl) ?_)
      refine ⟨fun _ => Below.refl _ _, ?_⟩
      simp only [Act.put, List.setIfInBounds_toArray, List.set_cons_zero, List.set_cons_succ]
      refine wpB_done (by kernel_rfl) ?_ _
      repeat ((fail_if_success (with_reducible show wpList _ _ _ (List.cons _ _) _ _)); (fail_if_success (with_reducible show Code.wp _ (Code.region _ _ true) _ _ _)); go_step)
      refine wl_step (st_val rfl (v_add (n := 1) rfl rfl rfl (w_i64 (by omega))) ?_)
      simp only [Act.put, List.setIfInBounds_toArray, List.set_cons_zero, List.set_cons_succ]
      refine wl_step (st_val rfl (v_moveT (.inl rfl) rfl) ?_)
      simp only [Act.put, List.setIfInBounds_toArray, List.set_cons_zero, List.set_cons_succ]
      go_wp2
      go_roundw
      case rel => exact ⟨j + 1, bs2, by omega, rfl, Lib.hid ho2, hEE.sub (List.Sublist.append_left (List.nil_sublist _) _)⟩
      case measure => simp [intOf]; omega
    · have hj' : j = l.length := by omega
      have d1 := Lib.hid (decide_eq_false hjl)
      have htk : l.take j = l := by rw [hj', List.take_length]
      rw [htk] at hO
      have hrd := (hO.out.sl hE0).rdS
      have Hrd := Lib.hid hrd
      have Hhd := Lib.hid (hexN_Digs Hd.out)
      clear hrd htk hO
      repeat ((fail_if_success (with_reducible show wpList _ _ _ (List.cons _ _) _ _)); (fail_if_success (with_reducible show Code.wp _ (Code.region _ _ true) _ _ _)); go_step)
      refine wl_step (st_val rfl (v_lss rfl rfl rfl) ?_)
      simp only [Act.put, List.setIfInBounds_toArray, List.set_cons_zero, List.set_cons_succ]
      rw [d1.out]
      repeat ((fail_if_success (with_reducible show wpList _ _ _ (List.cons _ _) _ _)); (fail_if_success (with_reducible show Code.wp _ (Code.region _ _ true) _ _ _)); (fail_if_success (with_reducible show Code.wp _ (Code.cond _ _ _) _ _ _)); go_step)
      refine wp_cond_false (by first | rfl | exact congrArg Value.bool (decide_eq_false (by omega))) ?_
      skip
      repeat ((fail_if_success (with_reducible show wpList _ _ _ (List.cons _ _) _ _)); (fail_if_success (with_reducible show Code.wp _ (Code.region _ _ true) _ _ _)); go_step)
      refine wl_step (st_val rfl (v_moveT (.inl rfl) rfl) ?_)
      simp only [Act.put, List.setIfInBounds_toArray, List.set_cons_zero, List.set_cons_succ]
      refine wl_step (st_val rfl (v_toStr Hrd.out Hhd.out rfl rfl Tryd.underlying22 Tryd.underlying5 Tryd.underlying9) ?_)
      simp only [Act.put, List.setIfInBounds_toArray, List.set_cons_zero, List.set_cons_succ]
      refine wl_step (st_val rfl (v_moveT (.inr rfl) rfl) ?_)
      simp only [Act.put, List.setIfInBounds_toArray, List.set_cons_zero, List.set_cons_succ]
      repeat ((fail_if_success (with_reducible show wpList _ _ _ (List.cons _ _) _ _)); (fail_if_success (with_reducible show Code.wp _ (Code.region _ _ true) _ _ _)); go_step)
      go_returns
      exact ⟨rfl, hE0.below⟩

/-- The sum of 'abc'. -/
def abcL : List Nat := [186, 120, 22, 191, 143, 1, 207, 234, 65, 65, 64, 222, 93, 174, 34, 35, 176, 3, 97, 163, 150, 23, 122, 156, 180, 16, 255, 97, 242, 0, 21, 173]
theorem abc_sum : sum256 [97, 98, 99] = abcL := by decide +kernel
theorem abc_Digs : Digs 256 abcL := by unfold Digs; decide

set_option maxRecDepth 100000 in
set_option maxHeartbeats 4000000 in
theorem awake_any (w : World) : Gives 4 #[] w (.bool true) := by
  have HS : Hid (∀ w v, RdSs .u8 [[97, 98, 99]] v w → Gives 10 #[v] w (.agg (ints .u8 abcL))) := Lib.hid (fun w v hv => by
    have h := Sum256_any hv (fun r hr => by rw [List.mem_singleton.1 hr]; unfold Digs; decide) (by decide) (by decide)
    rw [show ([[97, 98, 99]] : List (List Nat)).flatten = [97, 98, 99] from rfl, abc_sum] at h
    exact h)
  have hl : abcL.length = 32 := rfl
  have hE0 := Env.nil w
  go_enter Tryd.func4, Tryd.ntmps4
  repeat ((fail_if_success (with_reducible show wpList _ _ _ (List.cons _ _) _ _)); (fail_if_success (with_reducible show Code.wp _ (Code.region _ _ true) _ _ _)); go_step)
  refine wl_step (st_val rfl (v_moveC (.inr rfl)) ?_)
  simp only [Act.put, List.setIfInBounds_toArray, List.set_cons_zero, List.set_cons_succ]
  repeat ((fail_if_success (with_reducible show wpList _ _ _ (List.cons _ _) _ _)); (fail_if_success (with_reducible show Code.wp _ (Code.region _ _ true) _ _ _)); go_step)
  refine wl_step (st_buildNums (k := .u8) [97, 98, 99] hE0 rfl rfl (by first | (kernel_rfl; done) | (simp only [List.map_cons, List.map_nil, List.zipIdx_cons, List.zipIdx_nil]; rfl)) rfl (by decide) (by decide) Tryd.underlying22 (by kernel_rfl) Tryd.zeroValue5 ?_)
  intro g0 w1 hb1 hE1
  clear hE0
  simp only [Act.put, List.setIfInBounds_toArray, List.set_cons_zero, List.set_cons_succ]
  refine wl_step (st_mark hE1 rfl rfl rfl Tryd.underlying22 Tryd.underlying5 ?_)
  intro w2 hE2 hm2
  clear hE1
  have hr3 := RdS.of_blockF (l := [97, 98, 99]) hm2
  simp only [Act.put, List.setIfInBounds_toArray, List.set_cons_zero, List.set_cons_succ]
  refine wl_step (st_buildVs [Value.slice (some ⟨g0, 0, none⟩) 3 3] (one_slice) hE2 rfl rfl (by first | rfl | (simp only [List.map_cons, List.map_nil, List.zipIdx_cons, List.zipIdx_nil]; rfl)) rfl (by decide) (by decide) Tryd.underlying39 (by kernel_rfl) Tryd.zeroValue22 ?_)
  intro g1 w3 hb3 hE3
  clear hE2
  simp only [Act.put, List.setIfInBounds_toArray, List.set_cons_zero, List.set_cons_succ]
  refine wl_step (st_gives hE3 rfl (run_call rfl Tryd.call10) (HS.out _ _ (RdSs.one (hE3.get (i := 0) rfl) (hr3.below hb3))) ?_)
  intro w4 hb4 hE4
  clear hE3
  simp only [Act.put, List.setIfInBounds_toArray, List.set_cons_zero, List.set_cons_succ]
  refine wl_step (st_alloc (zs := ints .u8 (List.replicate 32 0)) hE4 rfl rfl (fun w => by kernel_rfl) ?_)
  intro g2 w5 hb5 hE5
  clear hE4
  simp only [Act.put, List.setIfInBounds_toArray, List.set_cons_zero, List.set_cons_succ]
  refine wl_step (st_store (i := 0) hE5 rfl rfl rfl rfl rfl (sz_of (n := 32) (by kernel_rfl) (by first | (simp only [ints_size, digs_length, List.length_replicate, List.length_cons, List.length_nil]; done) | (simp only [ints_size, digs_length, List.length_replicate, List.length_cons, List.length_nil, List.length_set, List.length_append]; omega) | rfl)) (by first | (simp only [ints_size, digs_length, List.length_replicate, List.length_cons, List.length_nil]; done) | (simp only [ints_size, digs_length, List.length_replicate, List.length_cons, List.length_nil, List.length_set, List.length_append]; omega) | rfl) (by first | exact ints_one _ _ | decide | rfl | simp [*]) ?_)
  intro w6 hE6
  clear hE5
  simp only [List.set_cons_zero, List.set_cons_succ] at hE6
  simp only [Act.put, List.setIfInBounds_toArray, List.set_cons_zero, List.set_cons_succ]
  repeat ((fail_if_success (with_reducible show wpList _ _ _ (List.cons _ _) _ _)); (fail_if_success (with_reducible show Code.wp _ (Code.region _ _ true) _ _ _)); go_step)
  refine wl_step (st_val rfl (v_sliceAll rfl rfl Tryd.underlying32 (by kernel_rfl)) ?_)
  simp only [Act.put, List.setIfInBounds_toArray, List.set_cons_zero, List.set_cons_succ]
  refine wl_step (st_gives hE6 rfl (run_call rfl Tryd.call5) (Hex_any (l := abcL) (RdS.of_block (hE6.get (i := 0) rfl)) abc_Digs (by decide)) ?_)
  intro w7 hb7 hE7
  clear hE6
  simp only [Act.put, List.setIfInBounds_toArray, List.set_cons_zero, List.set_cons_succ]
  refine wl_step (st_val rfl (v_eqStrT rfl rfl rfl (by kernel_rfl)) ?_)
  simp only [Act.put, List.setIfInBounds_toArray, List.set_cons_zero, List.set_cons_succ]
  refine wl_step (st_val rfl (v_moveT (.inr rfl) rfl) ?_)
  simp only [Act.put, List.setIfInBounds_toArray, List.set_cons_zero, List.set_cons_succ]
  repeat ((fail_if_success (with_reducible show wpList _ _ _ (List.cons _ _) _ _)); (fail_if_success (with_reducible show Code.wp _ (Code.region _ _ true) _ _ _)); go_step)
  go_returns
  exact ⟨rfl, hE7.below⟩
end Go.Proofs.YtndnmghlgcamfaaDoor
