/-
  Layer 28: packets sent.
-/
import Derived.Test.YtnbbehgcnodfbaaDoorNetC
namespace Go.Proofs.YtnbbehgcnodfbaaDoor
open Go.RowKit
set_option maxRecDepth 100000
set_option linter.unusedVariables false
set_option linter.unusedSimpArgs false

section
variable {P : Program} {ops : Array Oper} {Q : Exit → Act → World → Prop} {a : Act} {w w0 : World} {l : List Blk} {o : Oper} {K : Act → World → Prop}
theorem st_oneP {t e : TypeId} {n : Nat} {parts : List (Nat × Operand)} {z : Value} (rows : List (List Value)) (hE : Env w0 l w) (hw : Region.wanted o (yielded ops a.tmps) = true) (ho : o.op = .buildSlice t n parts.toArray)
    (hp : parts.map (fun p => (p.1, a.eval p.2)) = (rows.map (·.toArray)).zipIdx.map fun x => (x.2, Value.agg x.1)) (hn : rows.length = n) (h0 : 0 < n * 3) (h24 : n * 3 ≤ 2 ^ 24) (ht : P.underlying t = some (.slice e)) (hs : (P.info? e).map (·.size) = some 3)
    (hz : ∀ w, (zeroValue e).run P w = .ok z w) (hr : ∀ r ∈ rows, r.length = 3)
    (k : ∀ g w1, Below w.heap.size w w1 → Env w0 (⟨g, e, rows.flatten.toArray⟩ :: l) w1 → K (a.put o.dst (.slice (some ⟨g, 0, none⟩) n n)) w1) : Step P ops Q o K a w :=
  st_buildZ (s := 3) rows hE hw ho hp hn h0 h24 ht hs hz hr k
end
/-- The error of a number. -/
abbrev errV (n : Int) : Value := .iface 54 (.int .i64 n)

set_option maxHeartbeats 16000000 in
theorem Send_any {w0 w : World} {g most : Nat} {M M' : List PV} {R bs : List Blk} {v x : Value} (hO : Oz 3 43 M.length (pcells M) v bs) (hS : ∀ m ∈ M, Sees w0 R m) (hE : Env w0 (⟨g, 56, #[v, .int .i64 (most : Int)]⟩ :: (bs ++ R)) w)
    (hM : M.length ≤ most) (hm : most ≤ 64) (hx : ∀ w', Env w0 R w' → RdZ 3 M'.length (pcells M') x w') (hS' : ∀ m ∈ M', Sees w0 R m) (hb : ∀ m ∈ M', m.by'.length < 1000000) (hk : M'.length < 1000000) :
    Calls Tryd.prog 17 #[.pointer (some ⟨g, 0, none⟩), x] w fun e w' => ∃ v' bo N, e = .returned (if M'.length ≤ most - M.length then .nilIface else errV 12) ∧ (fsts N).map PV.key = (M'.take (most - M.length)).map PV.key ∧ (∀ x ∈ N, OwnP 5 x) ∧ Oz 3 43 (M ++ fsts N).length (pcells (M ++ fsts N)) v' bo ∧
      Env w0 (⟨g, 56, #[v', .int .i64 (most : Int)]⟩ :: (bo ++ (blks N ++ R))) w' := by
  obtain ⟨i0, hi0, hz0, hs0, hb0⟩ : ∃ i, Tryd.prog.info? 43 = some i ∧ i.zero = some (.agg #[.int .i64 0, .int .i64 0, .slice none 0 0]) ∧ i.size = 3 ∧ i.bytes = 40 := info_parts (P := Tryd.prog) (by kernel_rfl)
  have hER0 : Env w0 R w := hE.sub (by
    refine List.Sublist.cons _ ?_
    exact List.sublist_append_right _ _)
  obtain ⟨p, c, rfl, hc⟩ := (hx w hER0).len
  have Hi := Lib.hid hi0
  have Hz := Lib.hid hz0
  have Hs := Lib.hid hs0
  have Hb := Lib.hid hb0
  have HS := Lib.hid hS'
  have HB := Lib.hid hb
  have HX := Lib.hid hx
  have HO := Lib.hid hO
  have hn63 : M'.length < 9223372036854775808 := by omega
  have hE0 := hE
  clear hi0 hz0 hs0 hb0 hO hS hb hE hx hS' hER0
  go_enter Tryd.func17, Tryd.ntmps17
  repeat ((fail_if_success (with_reducible show wpList _ _ _ (List.cons _ _) _ _)); (fail_if_success (with_reducible show Code.wp _ (Code.region _ _ true) _ _ _)); go_step)
  refine wl_step (st_val rfl (v_moveC (.inr rfl)) ?_)
  simp only [Act.put, List.setIfInBounds_toArray, List.set_cons_zero, List.set_cons_succ]
  repeat ((fail_if_success (with_reducible show wpList _ _ _ (List.cons _ _) _ _)); (fail_if_success (with_reducible show Code.wp _ (Code.region _ _ true) _ _ _)); go_step)
  refine wl_step (st_val rfl (v_moveT (.inl rfl) rfl) ?_)
  simp only [Act.put, List.setIfInBounds_toArray, List.set_cons_zero, List.set_cons_succ]
  refine wl_step (st_val rfl (v_run fun w9 => by go_simp; with_reducible rfl) ?_)
  simp only [Act.put, List.setIfInBounds_toArray, List.set_cons_zero, List.set_cons_succ]
  repeat ((fail_if_success (with_reducible show wpList _ _ _ (List.cons _ _) _ _)); (fail_if_success (with_reducible show Code.wp _ (Code.region _ _ true) _ _ _)); (fail_if_success (with_reducible show Code.wp _ (Code.cond _ _ _) _ _ _)); go_step)
  refine wp_cond_false (by first | rfl | exact congrArg Value.bool (decide_eq_false (by omega))) ?_
  skip
  repeat ((fail_if_success (with_reducible show wpList _ _ _ (List.cons _ _) _ _)); (fail_if_success (with_reducible show Code.wp _ (Code.region _ _ true) _ _ _)); go_step)
  refine wl_step (st_val rfl (v_moveT (.inl rfl) rfl) ?_)
  simp only [Act.put, List.setIfInBounds_toArray, List.set_cons_zero, List.set_cons_succ]
  refine wl_step (st_val rfl (v_len rfl rfl Tryd.underlying31 hn63) ?_)
  simp only [Act.put, List.setIfInBounds_toArray, List.set_cons_zero, List.set_cons_succ]
  refine wl_step (st_val rfl (v_moveC (.inl rfl)) ?_)
  simp only [Act.put, List.setIfInBounds_toArray, List.set_cons_zero, List.set_cons_succ]
  have hst := hE0
  clear hE0
  go_wp2
  go_loopw [12] (fun i wr => ∃ (j : Nat) (v' : Value) (bo : List Blk) (N : List (PV × List Blk)), j ≤ M'.length ∧ i = .int .i64 j ∧ N.length = j ∧ M.length + j ≤ most ∧ (fsts N).map PV.key = (M'.take j).map PV.key ∧ (∀ x ∈ N, OwnP 5 x) ∧ Oz 3 43 (M ++ fsts N).length (pcells (M ++ fsts N)) v' bo ∧
      Env w0 (⟨g, 56, #[v', .int .i64 (most : Int)]⟩ :: (bo ++ (blks N ++ R))) wr) (fun i _ => M'.length - (intOf i).toNat)
  case atStart => exact ⟨0, v, bs, [], Nat.zero_le _, rfl, rfl, hM, rfl, fun x hx => (by cases hx), by simpa using HO.out, hst⟩
  case round =>
    clear hst
    obtain ⟨j, v', bo, N, hj, rfl, hNl, hjm, hk', hown, hOz, hE0⟩ := hrel
    have hlen : (M ++ fsts N).length = M.length + j := by rw [List.length_append, List.length_map, hNl]
    by_cases hjM : j < M'.length
    · have d1 := Lib.hid (decide_eq_true hjM)
      have hg : M'[j]? = some M'[j] := List.getElem?_eq_getElem hjM
      obtain ⟨m, hme⟩ : ∃ m, M'[j] = m := ⟨_, rfl⟩
      rw [hme] at hg
      have Hme := Lib.hid hme
      have hmem : m ∈ M' := by rw [← hme]; exact List.getElem_mem hjM
      have hER1 : Env w0 R wr := hE0.sub (by
        refine List.Sublist.cons _ ?_
        refine List.Sublist.trans ?_ (List.sublist_append_right _ _)
        exact List.sublist_append_right _ _)
      obtain ⟨b, off, rfl, hran⟩ := (HX.out _ hER1).elem hjM
      rw [pcells_at hg] at hran
      have Hran := Lib.hid hran
      have hmb := HB.out m hmem
      obtain ⟨pv, cv, rfl, hcv⟩ := hOz.len
      have hER : ∀ w', Env w0 (⟨g, 56, #[.slice pv (M ++ fsts N).length cv, .int .i64 (most : Int)]⟩ :: (bo ++ (blks N ++ R))) w' → RdS .u8 m.by' m.sl w' := fun w' h => HS.out m hmem w' (h.sub (by
        refine List.Sublist.cons _ ?_
        refine List.Sublist.trans ?_ (List.sublist_append_right _ _)
        exact List.sublist_append_right _ _))
      have HER := Lib.hid hER
      obtain ⟨pm, cm, hsl, -⟩ := hER _ hE0
      rw [hlen] at hE0 hOz HER
      have hnm : M.length + j ≤ most := hjm
      have hm63 : most < 9223372036854775808 := by omega
      have HRm : Hid (∀ (w' : World) (l : List Blk) (B : Blk), Env w0 (B :: ⟨g, 56, #[.slice pv (M.length + j) cv, .int .i64 (most : Int)]⟩ :: l) w' → Gives 12 #[.pointer (some ⟨g, 0, none⟩)] w' (.int .i64 ((most - (M.length + j) : Nat) : Int))) := Lib.hid (fun w' l B h => Room_any (h.get (i := 1) rfl) hnm hm63)
      obtain ⟨room, hroom⟩ : ∃ r, most - (M.length + j) = r := ⟨_, rfl⟩
      rw [hroom] at HRm
      clear hran hER hg hme hER1
      have HN := Lib.hid hNl
      have Hk := Lib.hid hk'
      have Hown := Lib.hid hown
      have hNj : N.length < 1000000 := by omega
      have HOz := Lib.hid hOz
      have Hlen := Lib.hid hlen
      clear hNl hk' hown hOz hlen
      have hone3 : (#[Value.int .i64 m.fr, .int .i64 m.to, m.sl]).all (·.oneCell') = true := by
        rw [hsl]
        simp
        exact ⟨rfl, rfl, rfl⟩
      repeat ((fail_if_success (with_reducible show wpList _ _ _ (List.cons _ _) _ _)); (fail_if_success (with_reducible show Code.wp _ (Code.region _ _ true) _ _ _)); go_step)
      refine wl_step (st_val rfl (v_lss rfl rfl rfl) ?_)
      simp only [Act.put, List.setIfInBounds_toArray, List.set_cons_zero, List.set_cons_succ]
      rw [d1.out]
      repeat ((fail_if_success (with_reducible show wpList _ _ _ (List.cons _ _) _ _)); (fail_if_success (with_reducible show Code.wp _ (Code.region _ _ true) _ _ _)); (fail_if_success (with_reducible show Code.wp _ (Code.cond _ _ _) _ _ _)); go_step)
      refine wp_cond_true (by first | rfl | exact congrArg Value.bool (decide_eq_true (by omega))) ?_
      skip
      repeat ((fail_if_success (with_reducible show wpList _ _ _ (List.cons _ _) _ _)); (fail_if_success (with_reducible show Code.wp _ (Code.region _ _ true) _ _ _)); go_step)
      refine wl_step (st_val rfl (v_indexSs (s := 3) rfl rfl rfl Tryd.underlying31 (by kernel_rfl) hjM) ?_)
      simp only [Act.put, List.setIfInBounds_toArray, List.set_cons_zero, List.set_cons_succ]
      refine wl_step (st_val rfl (v_loadMid (cs := #[.int .i64 m.fr, .int .i64 m.to, m.sl]) rfl rfl (fun w1 hb => Hran.out w1 hb) Tryd.underlying43 rfl (by kernel_rfl)) ?_)
      simp only [Act.put, List.setIfInBounds_toArray, List.set_cons_zero, List.set_cons_succ]
      refine wl_step (st_alloc (zs := #[Value.int .i64 0, Value.int .i64 0, Value.slice none 0 0]) hE0 rfl rfl (fun w => by kernel_rfl) ?_)
      intro g0 w1 hb1 hE1
      clear hE0
      simp only [Act.put, List.setIfInBounds_toArray, List.set_cons_zero, List.set_cons_succ]
      refine wl_step (st_store (i := 0) hE1 rfl rfl rfl rfl rfl (sz_of (n := 3) (by kernel_rfl) rfl) rfl hone3 ?_)
      intro w2 hE2
      clear hE1
      simp only [List.set_cons_zero] at hE2
      simp only [Act.put, List.setIfInBounds_toArray, List.set_cons_zero, List.set_cons_succ]
      repeat ((fail_if_success (with_reducible show wpList _ _ _ (List.cons _ _) _ _)); (fail_if_success (with_reducible show Code.wp _ (Code.region _ _ true) _ _ _)); go_step)
      refine wl_step (st_val rfl (v_moveT (.inl rfl) rfl) ?_)
      simp only [Act.put, List.setIfInBounds_toArray, List.set_cons_zero, List.set_cons_succ]
      refine wl_step (st_gives hE2 rfl (run_call rfl Tryd.call12) (HRm.out _ _ _ hE2) ?_)
      intro w3 hb3 hE3
      clear hE2
      simp only [Act.put, List.setIfInBounds_toArray, List.set_cons_zero, List.set_cons_succ]
      refine wl_step (st_val rfl (v_eql (n := 0) rfl rfl rfl) ?_)
      simp only [Act.put, List.setIfInBounds_toArray, List.set_cons_zero, List.set_cons_succ]
      by_cases hfull : room = 0
      · have d2 := Lib.hid (decide_eq_true hfull)
        rw [d2.out]
        repeat ((fail_if_success (with_reducible show wpList _ _ _ (List.cons _ _) _ _)); (fail_if_success (with_reducible show Code.wp _ (Code.region _ _ true) _ _ _)); (fail_if_success (with_reducible show Code.wp _ (Code.cond _ _ _) _ _ _)); go_step)
        refine wp_cond_true (by first | rfl | exact congrArg Value.bool (decide_eq_true (by omega))) ?_
        skip
        repeat ((fail_if_success (with_reducible show wpList _ _ _ (List.cons _ _) _ _)); (fail_if_success (with_reducible show Code.wp _ (Code.region _ _ true) _ _ _)); go_step)
        refine wl_step (st_val rfl (v_run fun w9 => by go_simp; with_reducible rfl) ?_)
        simp only [Act.put, List.setIfInBounds_toArray, List.set_cons_zero, List.set_cons_succ]
        refine wl_step (st_val rfl (v_moveT (.inr rfl) rfl) ?_)
        simp only [Act.put, List.setIfInBounds_toArray, List.set_cons_zero, List.set_cons_succ]
        repeat ((fail_if_success (with_reducible show wpList _ _ _ (List.cons _ _) _ _)); (fail_if_success (with_reducible show Code.wp _ (Code.region _ _ true) _ _ _)); (fail_if_success (with_reducible show Code.wp _ (Code.cond _ _ _) _ _ _)); go_step)
        go_returns
        have hj' : most - M.length = j := by omega
        rw [hj', if_neg (by omega)]
        refine ⟨_, bo, N, rfl, Hk.out, Hown.out, ?_, (hE3).sub (List.sublist_cons_self _ _)⟩
        rw [Hlen.out]
        exact HOz.out
      · have d2 := Lib.hid (decide_eq_false hfull)
        rw [d2.out]
        have h63 : M.length + j + 1 ≤ maxLen := by simp only [maxLen]; omega
        have hfit : (M.length + j + 1) * 40 ≤ 140737488355328 := by omega
        repeat ((fail_if_success (with_reducible show wpList _ _ _ (List.cons _ _) _ _)); (fail_if_success (with_reducible show Code.wp _ (Code.region _ _ true) _ _ _)); (fail_if_success (with_reducible show Code.wp _ (Code.cond _ _ _) _ _ _)); go_step)
        refine wp_cond_false (by first | rfl | exact congrArg Value.bool (decide_eq_false (by omega))) ?_
        skip
        repeat ((fail_if_success (with_reducible show wpList _ _ _ (List.cons _ _) _ _)); (fail_if_success (with_reducible show Code.wp _ (Code.region _ _ true) _ _ _)); go_step)
        refine wp_region_B (n := 12) 8 (by kernel_rfl) rfl hE3 ?_
        intro w4 hb4 hE4
        clear hE3
        refine wpB_take1 (i := 1) (by kernel_rfl) rfl (by kernel_rfl) (fun _ _ _ h => h) rfl (v_moveT (.inl rfl) rfl) ?_
        simp only [Act.put, List.setIfInBounds_toArray, List.set_cons_zero, List.set_cons_succ]
        refine wpB_take1 (i := 2) (by kernel_rfl) rfl (by kernel_rfl) (fun _ _ _ h => h) rfl (v_nil rfl rfl) ?_
        simp only [Act.put, List.setIfInBounds_toArray, List.set_cons_zero, List.set_cons_succ]
        refine wpB_take1 (i := 3) (by kernel_rfl) rfl (by kernel_rfl) (fun _ _ _ h => h) rfl (v_field0 (s := 0) rfl rfl Tryd.underlying56 rfl (by kernel_rfl) rfl) ?_
        simp only [Act.put, List.setIfInBounds_toArray, List.set_cons_zero, List.set_cons_succ]
        refine wpB_take1 (i := 4) (by kernel_rfl) rfl (by kernel_rfl) (fun _ _ _ h => h) rfl (v_cellB (v := .slice pv (M.length + j) cv) (i := 1) hE4 rfl rfl rfl Tryd.underlying31 rfl rfl) ?_
        simp only [Act.put, List.setIfInBounds_toArray, List.set_cons_zero, List.set_cons_succ]
        refine wpB_take1 (i := 5) (by kernel_rfl) rfl (by kernel_rfl) (fun _ _ _ h => h) rfl (v_load (i := 0) hE4 rfl rfl rfl Tryd.underlying43 rfl (sz_of (n := 3) (by kernel_rfl) rfl)) ?_
        simp only [Act.put, List.setIfInBounds_toArray, List.set_cons_zero, List.set_cons_succ]
        refine wpB_takeU (i := 0) rfl (by kernel_rfl) (fun _ _ _ h => h) rfl (fun _ => (v_moveT (.inl rfl) rfl)) ?_
        simp only [Act.put, List.setIfInBounds_toArray, List.set_cons_zero, List.set_cons_succ]
        refine wpB_step (i := 6) (by kernel_rfl) rfl (st_calls rfl (run_call rfl Tryd.call25) (own_any (HER.out _ (hE4.sub (List.sublist_cons_self _ _))) hmb) ?_)
        rintro _ w5 ⟨sB, bB, rfl, hb5, hoB, hEo⟩
        have hE5 := (hE4.sub (List.sublist_cons_self _ _)).liftO hoB hEo
        refine ⟨_, rfl, ?_⟩
        clear hE4
        refine ⟨fun _ => hb5, ?_⟩
        simp only [Act.put, List.setIfInBounds_toArray, List.set_cons_zero, List.set_cons_succ]
        refine wpB_step (i := 7) (by kernel_rfl) rfl (st_oneP [[Value.int .i64 m.fr, Value.int .i64 m.to, sB]] hE5 rfl rfl (by simp only [List.map_cons, List.map_nil, List.zipIdx_cons, List.zipIdx_nil]; rfl) rfl (by decide) (by decide) Tryd.underlying31 (by kernel_rfl) Tryd.zeroValue43 (fun r hr => by rw [List.mem_singleton.1 hr]; rfl) ?_)
        intro g1 w6 hb6 hE6
        clear hE5
        refine ⟨fun _ => hb6, ?_⟩
        simp only [Act.put, List.setIfInBounds_toArray, List.set_cons_zero, List.set_cons_succ]
        have hsB : sB.oneCell' = true := by { obtain ⟨pB, cB, h, -⟩ := hoB.len; rw [h]; rfl }
        have hone : ∀ u ∈ [Value.int .i64 m.fr, .int .i64 m.to, sB], u.oneCell' = true := fun u hu => by { simp only [List.mem_cons, List.not_mem_nil, or_false] at hu; rcases hu with rfl | rfl | rfl; rfl; rfl; exact hsB }
        refine wpB_step (i := 8) (by kernel_rfl) rfl (st_appendOz HOz.out (hE6.perm (pm1 _ _ bB bo (blks N) R)) rfl rfl Tryd.underlying31 Hi.out Hz.out Hs.out rfl Hb.out rfl rfl (RdZ.of_block (hE6.get (i := 0) rfl) rfl) hone h63 hfit ?_)
        intro vA w7 boA hOzA hE7
        clear hE6
        refine ⟨fun h => absurd h (by decide), ?_⟩
        simp only [Act.put, List.setIfInBounds_toArray, List.set_cons_zero, List.set_cons_succ]
        replace hE7 := (hE7.perm (pm2 _ _ boA _)).sub (List.sublist_cons_self _ _)
        have hvA : vA.oneCell' = true ∧ vA.cells = #[vA] := by { obtain ⟨pA, cA, h, -⟩ := hOzA.len; rw [h]; exact ⟨rfl, rfl⟩ }
        refine wpB_takeU (i := 9) rfl (by kernel_rfl) (fun _ _ _ h => h) rfl (fun _ => (v_nil rfl rfl)) ?_
        simp only [Act.put, List.setIfInBounds_toArray, List.set_cons_zero, List.set_cons_succ]
        refine wpB_takeU (i := 10) rfl (by kernel_rfl) (fun _ _ _ h => h) rfl (fun _ => (v_field0 (s := 0) rfl rfl Tryd.underlying56 rfl (by kernel_rfl) rfl)) ?_
        simp only [Act.put, List.setIfInBounds_toArray, List.set_cons_zero, List.set_cons_succ]
        refine wpB_step (i := 11) (by kernel_rfl) rfl (st_put (v := vA) (i := 0) hE7 rfl rfl rfl rfl rfl (by kernel_rfl) hvA.2 hvA.1 (show 0 < 2 by decide) ?_)
        intro w8 hE8
        clear hE7
        simp only [List.setIfInBounds_toArray, List.set_cons_zero] at hE8
        refine ⟨fun h => absurd h (by decide), ?_⟩
        simp only [Act.put, List.setIfInBounds_toArray, List.set_cons_zero, List.set_cons_succ]
        refine wpB_done (by kernel_rfl) ?_ _
        repeat ((fail_if_success (with_reducible show wpList _ _ _ (List.cons _ _) _ _)); (fail_if_success (with_reducible show Code.wp _ (Code.region _ _ true) _ _ _)); go_step)
        refine wl_step (st_val rfl (v_add (n := 1) rfl rfl rfl (w_i64 (by omega))) ?_)
        simp only [Act.put, List.setIfInBounds_toArray, List.set_cons_zero, List.set_cons_succ]
        refine wl_step (st_val rfl (v_moveT (.inl rfl) rfl) ?_)
        simp only [Act.put, List.setIfInBounds_toArray, List.set_cons_zero, List.set_cons_succ]
        go_wp2
        go_roundw
        case rel =>
          refine ⟨j + 1, vA, boA, N ++ [(⟨m.fr, m.to, m.by', sB⟩, bB)], by omega, rfl, by rw [List.length_append, HN.out]; rfl, by omega, ?_, ?_, ?_, ?_⟩
          · rw [fsts_snoc, List.map_append, Hk.out, List.take_succ_eq_append_getElem hjM, List.map_append, Hme.out]
            rfl
          · intro x hx
            rcases List.mem_append.1 hx with hx | hx
            · exact Hown.out x hx
            · rw [List.mem_singleton.1 hx]
              exact hoB
          · rw [fsts_snoc, ← List.append_assoc, pcells_append, List.length_append, Hlen.out]
            exact hOzA
          · rw [blks_snoc]
            exact hE8
        case measure => simp [intOf]; omega
    · have hj' : j = M'.length := by omega
      subst hj'
      have d1 := Lib.hid (decide_eq_false hjM)
      repeat ((fail_if_success (with_reducible show wpList _ _ _ (List.cons _ _) _ _)); (fail_if_success (with_reducible show Code.wp _ (Code.region _ _ true) _ _ _)); go_step)
      refine wl_step (st_val rfl (v_lss rfl rfl rfl) ?_)
      simp only [Act.put, List.setIfInBounds_toArray, List.set_cons_zero, List.set_cons_succ]
      rw [d1.out]
      repeat ((fail_if_success (with_reducible show wpList _ _ _ (List.cons _ _) _ _)); (fail_if_success (with_reducible show Code.wp _ (Code.region _ _ true) _ _ _)); (fail_if_success (with_reducible show Code.wp _ (Code.cond _ _ _) _ _ _)); go_step)
      refine wp_cond_false (by first | rfl | exact congrArg Value.bool (decide_eq_false (by omega))) ?_
      skip
      repeat ((fail_if_success (with_reducible show wpList _ _ _ (List.cons _ _) _ _)); (fail_if_success (with_reducible show Code.wp _ (Code.region _ _ true) _ _ _)); go_step)
      refine wl_step (st_val rfl (v_moveC (.inr rfl)) ?_)
      simp only [Act.put, List.setIfInBounds_toArray, List.set_cons_zero, List.set_cons_succ]
      repeat ((fail_if_success (with_reducible show wpList _ _ _ (List.cons _ _) _ _)); (fail_if_success (with_reducible show Code.wp _ (Code.region _ _ true) _ _ _)); (fail_if_success (with_reducible show Code.wp _ (Code.cond _ _ _) _ _ _)); go_step)
      go_returns
      rw [if_pos (by omega)]
      refine ⟨_, bo, N, rfl, ?_, hown, hOz, hE0⟩
      rw [hk', List.take_length, List.take_of_length_le (by omega)]
end Go.Proofs.YtnbbehgcnodfbaaDoor
