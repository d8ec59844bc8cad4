/-
  Layer 28: a packet doubled; what is answered of packets that are not there.
-/
import Derived.Test.YtnbbehgcnodfbaaDoorNetF
namespace Go.Proofs.YtnbbehgcnodfbaaDoor
open Go.RowKit
set_option maxRecDepth 100000
set_option linter.unusedVariables false
set_option linter.unusedSimpArgs false

theorem pm7 (a b c d : Blk) (x y : List Blk) : (a :: (b :: (c :: (d :: (x ++ y))))).Perm (d :: (x ++ (a :: (b :: (c :: y))))) := by
  classical
  exact List.perm_iff_count.2 fun c => by simp only [List.count_append, List.count_cons, List.count_nil]; omega
theorem pm8 (b c d : Blk) (x y : List Blk) : (b :: (c :: (d :: (x ++ y)))).Perm (x ++ (b :: (c :: (d :: y)))) := by
  classical
  exact List.perm_iff_count.2 fun c => by simp only [List.count_append, List.count_cons, List.count_nil]; omega
theorem pm9 (a b c d : Blk) (x y z : List Blk) : (d :: (x ++ (z ++ (a :: (b :: (c :: y)))))).Perm (a :: (b :: (c :: (d :: (x ++ (z ++ y)))))) := by
  classical
  exact List.perm_iff_count.2 fun c => by simp only [List.count_append, List.count_cons, List.count_nil]; omega

set_option maxHeartbeats 8000000 in
theorem copyF_any {w0 w : World} {g gA gB most i : Nat} {M : List PV} {m : PV} {R bs : List Blk} {v : Value} (hO : Oz 3 43 M.length (pcells M) v bs) (hS : ∀ m ∈ M, Sees w0 R m) (hm : M[i]? = some m) (hM : M.length ≤ most) (hmost : most ≤ 64) (hmb : m.by'.length < 1000000)
    (hE : Env w0 (⟨gB, 3, #[.int .i64 (i : Int)]⟩ :: (⟨gA, 25, #[.pointer (some ⟨g, 0, none⟩)]⟩ :: (⟨g, 56, #[v, .int .i64 (most : Int)]⟩ :: (bs ++ R)))) w) :
    Calls Tryd.prog 30 #[.pointer (some ⟨gA, 0, none⟩), .pointer (some ⟨gB, 0, none⟩)] w fun e w' => e = .returned (if 1 ≤ most - M.length then .nilIface else errV 12) ∧ ∃ v' bo N, (fsts N).map PV.key = ([m].take (most - M.length)).map PV.key ∧ (∀ x ∈ N, OwnP 5 x) ∧ Oz 3 43 (M ++ fsts N).length (pcells (M ++ fsts N)) v' bo ∧
      Env w0 (⟨g, 56, #[v', .int .i64 (most : Int)]⟩ :: (bo ++ (blks N ++ R))) w' := by
  have hi : i < M.length := (List.getElem?_eq_some_iff.1 hm).1
  have hmem : m ∈ M := List.mem_of_getElem? hm
  obtain ⟨p, c, rfl, hc⟩ := hO.len
  have hER : Env w0 R w := hE.sub (by
    refine List.Sublist.cons _ (List.Sublist.cons _ (List.Sublist.cons _ ?_))
    exact List.sublist_append_right _ _)
  obtain ⟨b, off, rfl, -⟩ := (hO.rd (hE.perm (pm8 ..))).elem hi
  have hran : ∀ (w' : World) (l : List Blk), Env w0 (bs ++ l) w' → ∀ w1, Below w'.heap.size w' w1 → w1.rangeAt b (off + i * 3) m.cells := fun w' l h => by
    obtain ⟨b', off', he, hr⟩ := (hO.rd h).elem hi
    injection he with he
    injection he with h1 h2 _
    subst h1 h2
    rw [pcells_at hm] at hr
    exact hr
  have Hran := Lib.hid hran
  have hsm := hS m hmem
  have HSd : Hid (∀ (w' : World) (gP : Nat), Env w0 (⟨gP, 43, ([[Value.int .i64 m.fr, .int .i64 m.to, m.sl]].flatten).toArray⟩ :: (⟨gB, 3, #[.int .i64 (i : Int)]⟩ :: (⟨gA, 25, #[.pointer (some ⟨g, 0, none⟩)]⟩ :: (⟨g, 56, #[.slice (some ⟨b, off, none⟩) M.length c, .int .i64 (most : Int)]⟩ :: (bs ++ R))))) w' →
      Calls Tryd.prog 17 #[.pointer (some ⟨g, 0, none⟩), .slice (some ⟨gP, 0, none⟩) 1 1] w' fun e w'' => ∃ v' bo N, e = .returned (if 1 ≤ most - M.length then .nilIface else errV 12) ∧ (fsts N).map PV.key = ([m].take (most - M.length)).map PV.key ∧ (∀ x ∈ N, OwnP 5 x) ∧ Oz 3 43 (M ++ fsts N).length (pcells (M ++ fsts N)) v' bo ∧
        Env w0 (⟨g, 56, #[v', .int .i64 (most : Int)]⟩ :: (bo ++ (blks N ++ R))) w'') := Lib.hid (fun w' gP h => by
    have h' := h.perm (pm7 ..)
    have hsub : R.Sublist (⟨gP, 43, ([[Value.int .i64 m.fr, .int .i64 m.to, m.sl]].flatten).toArray⟩ :: (⟨gB, 3, #[.int .i64 (i : Int)]⟩ :: (⟨gA, 25, #[.pointer (some ⟨g, 0, none⟩)]⟩ :: R))) := List.Sublist.cons _ (List.Sublist.cons _ (List.sublist_cons_self _ _))
    refine (Send_any (M' := [m]) hO (fun m hm => (hS m hm).mono hsub) h' hM hmost (fun w1 h1 => ?_) (fun m' hm' => by rw [List.mem_singleton.1 hm']; exact hsm.mono hsub) (fun m' hm' => by rw [List.mem_singleton.1 hm']; exact hmb) (show 1 < 1000000 by decide)).mono ?_
    · exact RdZ.of_block (h1.get (i := 0) rfl) rfl
    · rintro e w2 ⟨v', bo, N, h1, h2, h3, h4, h5⟩
      refine ⟨v', bo, N, h1, h2, h3, h4, ?_⟩
      refine (h5.perm (pm9 ..)).sub ?_
      exact List.Sublist.cons _ (List.Sublist.cons _ (List.sublist_cons_self _ _)))
  have hE0 := hE
  clear hO hS hm hE hER hran hsm
  go_enter Tryd.func30, Tryd.ntmps30
  repeat ((fail_if_success (with_reducible show wpList _ _ _ (List.cons _ _) _ _)); (fail_if_success (with_reducible show Code.wp _ (Code.region _ _ true) _ _ _)); go_step)
  refine wl_step (st_val rfl (v_moveC (.inr rfl)) ?_)
  simp only [Act.put, List.setIfInBounds_toArray, List.set_cons_zero, List.set_cons_succ]
  repeat ((fail_if_success (with_reducible show wpList _ _ _ (List.cons _ _) _ _)); (fail_if_success (with_reducible show Code.wp _ (Code.region _ _ true) _ _ _)); go_step)
  refine wp_region_B (n := 11) 9 (by kernel_rfl) rfl hE0 ?_
  intro w1 hb1 hE1
  clear hE0
  refine wpB_take1 (i := 0) (by kernel_rfl) rfl (by kernel_rfl) (fun _ _ _ h => h) rfl (v_cellB (v := .pointer (some ⟨g, 0, none⟩)) (i := 1) hE1 rfl rfl rfl Tryd.underlying25 rfl rfl) ?_
  simp only [Act.put, List.setIfInBounds_toArray, List.set_cons_zero, List.set_cons_succ]
  refine wpB_take1 (i := 1) (by kernel_rfl) rfl (by kernel_rfl) (fun _ _ _ h => h) rfl (v_cellB (v := .pointer (some ⟨g, 0, none⟩)) (i := 1) hE1 rfl rfl rfl Tryd.underlying25 rfl rfl) ?_
  simp only [Act.put, List.setIfInBounds_toArray, List.set_cons_zero, List.set_cons_succ]
  refine wpB_take1 (i := 2) (by kernel_rfl) rfl (by kernel_rfl) (fun _ _ _ h => h) rfl (v_nil rfl rfl) ?_
  simp only [Act.put, List.setIfInBounds_toArray, List.set_cons_zero, List.set_cons_succ]
  refine wpB_take1 (i := 3) (by kernel_rfl) rfl (by kernel_rfl) (fun _ _ _ h => h) rfl (v_field0 (s := 0) rfl rfl Tryd.underlying56 rfl (by kernel_rfl) rfl) ?_
  simp only [Act.put, List.setIfInBounds_toArray, List.set_cons_zero, List.set_cons_succ]
  refine wpB_take1 (i := 4) (by kernel_rfl) rfl (by kernel_rfl) (fun _ _ _ h => h) rfl (v_cellB (v := .slice (some ⟨b, off, none⟩) M.length c) (i := 2) hE1 rfl rfl rfl Tryd.underlying31 rfl rfl) ?_
  simp only [Act.put, List.setIfInBounds_toArray, List.set_cons_zero, List.set_cons_succ]
  refine wpB_take1 (i := 5) (by kernel_rfl) rfl (by kernel_rfl) (fun _ _ _ h => h) rfl (v_cellB (v := .int .i64 (i : Int)) (i := 0) hE1 rfl rfl rfl Tryd.underlying3 rfl rfl) ?_
  simp only [Act.put, List.setIfInBounds_toArray, List.set_cons_zero, List.set_cons_succ]
  refine wpB_take1 (i := 6) (by kernel_rfl) rfl (by kernel_rfl) (fun _ _ _ h => h) rfl (v_indexSs (s := 3) rfl rfl rfl Tryd.underlying31 (by kernel_rfl) hi) ?_
  simp only [Act.put, List.setIfInBounds_toArray, List.set_cons_zero, List.set_cons_succ]
  refine wpB_take1 (i := 7) (by kernel_rfl) rfl (by kernel_rfl) (fun _ _ _ h => h) rfl (v_loadMid (cs := #[.int .i64 m.fr, .int .i64 m.to, m.sl]) rfl rfl (Hran.out _ _ (hE1.perm (pm8 ..))) Tryd.underlying43 rfl (by kernel_rfl)) ?_
  simp only [Act.put, List.setIfInBounds_toArray, List.set_cons_zero, List.set_cons_succ]
  refine wpB_step (i := 8) (by kernel_rfl) rfl (st_oneP [[Value.int .i64 m.fr, Value.int .i64 m.to, m.sl]] hE1 rfl rfl (by simp only [List.map_cons, List.map_nil, List.zipIdx_cons, List.zipIdx_nil]; rfl) rfl (by decide) (by decide) Tryd.underlying31 (by kernel_rfl) Tryd.zeroValue43 (fun r hr => by rw [List.mem_singleton.1 hr]; rfl) ?_)
  intro g1 w2 hb2 hE2
  clear hE1
  refine ⟨fun _ => hb2, ?_⟩
  simp only [Act.put, List.setIfInBounds_toArray, List.set_cons_zero, List.set_cons_succ]
  refine wpB_step (i := 9) (by kernel_rfl) rfl (st_calls rfl (run_call rfl Tryd.call17) (HSd.out _ _ hE2) ?_)
  rintro _ w3 ⟨vS, bS, NS, rfl, hkS, hoS, hzS, hE3⟩
  skip
  refine ⟨_, rfl, ?_⟩
  clear hE2
  refine ⟨fun h => absurd h (by decide), ?_⟩
  simp only [Act.put, List.setIfInBounds_toArray, List.set_cons_zero, List.set_cons_succ]
  refine wpB_step (i := 10) (by kernel_rfl) rfl (st_val rfl (v_moveT (.inr rfl) rfl) ?_)
  refine ⟨fun _ => Below.refl _ _, ?_⟩
  simp only [Act.put, List.setIfInBounds_toArray, List.set_cons_zero, List.set_cons_succ]
  refine wpB_done (by kernel_rfl) ?_ _
  repeat ((fail_if_success (with_reducible show wpList _ _ _ (List.cons _ _) _ _)); (fail_if_success (with_reducible show Code.wp _ (Code.region _ _ true) _ _ _)); (fail_if_success (with_reducible show Code.wp _ (Code.cond _ _ _) _ _ _)); go_step)
  go_returns
  exact ⟨rfl, vS, bS, NS, hkS, hoS, hzS, hE3⟩
set_option maxHeartbeats 8000000 in
theorem Copy_any {w0 w : World} {g most i : Nat} {M : List PV} {m : PV} {R bs : List Blk} {v : Value} (hO : Oz 3 43 M.length (pcells M) v bs) (hS : ∀ m ∈ M, Sees w0 R m) (hm : M[i]? = some m) (hM : M.length ≤ most) (hmost : most ≤ 64) (hmb : m.by'.length < 1000000)
    (hE : Env w0 (⟨g, 56, #[v, .int .i64 (most : Int)]⟩ :: (bs ++ R)) w) :
    Calls Tryd.prog 18 #[.pointer (some ⟨g, 0, none⟩), .int .i64 (i : Int)] w fun e w' => e = .returned (if 1 ≤ most - M.length then .nilIface else errV 12) ∧ ∃ v' bo N, (fsts N).map PV.key = ([m].take (most - M.length)).map PV.key ∧ (∀ x ∈ N, OwnP 5 x) ∧ Oz 3 43 (M ++ fsts N).length (pcells (M ++ fsts N)) v' bo ∧
      Env w0 (⟨g, 56, #[v', .int .i64 (most : Int)]⟩ :: (bo ++ (blks N ++ R))) w' := by
  have hi : i < M.length := (List.getElem?_eq_some_iff.1 hm).1
  have hMl : M.length < 1000000 := by omega
  obtain ⟨p, c, rfl, hc⟩ := hO.len
  have HO := Lib.hid hO
  have HS := Lib.hid hS
  have Hm := Lib.hid hm
  have hE0 := hE
  clear hO hS hE hm
  go_enter Tryd.func18, Tryd.ntmps18
  repeat ((fail_if_success (with_reducible show wpList _ _ _ (List.cons _ _) _ _)); (fail_if_success (with_reducible show Code.wp _ (Code.region _ _ true) _ _ _)); go_step)
  refine wl_step (st_box hE0 rfl rfl rfl ?_)
  intro g1 w1 hb1 hE1
  clear hE0
  simp only [Act.put, List.setIfInBounds_toArray, List.set_cons_zero, List.set_cons_succ]
  refine wl_step (st_box hE1 rfl rfl rfl ?_)
  intro g2 w2 hb2 hE2
  clear hE1
  simp only [Act.put, List.setIfInBounds_toArray, List.set_cons_zero, List.set_cons_succ]
  refine wl_step (st_val rfl (v_moveC (.inr rfl)) ?_)
  simp only [Act.put, List.setIfInBounds_toArray, List.set_cons_zero, List.set_cons_succ]
  repeat ((fail_if_success (with_reducible show wpList _ _ _ (List.cons _ _) _ _)); (fail_if_success (with_reducible show Code.wp _ (Code.region _ _ true) _ _ _)); go_step)
  refine wl_step (st_val rfl (v_cellB (v := .pointer (some ⟨g, 0, none⟩)) (i := 1) hE2 rfl rfl rfl Tryd.underlying25 rfl rfl) ?_)
  simp only [Act.put, List.setIfInBounds_toArray, List.set_cons_zero, List.set_cons_succ]
  refine wl_step (st_val rfl (v_cellB (v := .int .i64 (i : Int)) (i := 0) hE2 rfl rfl rfl Tryd.underlying3 rfl rfl) ?_)
  simp only [Act.put, List.setIfInBounds_toArray, List.set_cons_zero, List.set_cons_succ]
  refine wl_step (st_val rfl (v_makeFunc rfl rfl) ?_)
  simp only [Act.put, List.setIfInBounds_toArray, List.set_cons_zero, List.set_cons_succ]
  refine wl_step (st_calls rfl (run_call rfl Tryd.call27) (with_in (caps := [.pointer (some ⟨g1, 0, none⟩), .pointer (some ⟨g2, 0, none⟩)]) (hE2.get (i := 2) rfl) hMl hi Tryd.call30 (copyF_any HO.out HS.out Hm.out hM hmost hmb hE2) (fun e w' h => ⟨_, h.1⟩)) ?_)
  rintro _ w3 ⟨rfl, vS, bS, NS, hkS, hoS, hzS, hE3⟩
  skip
  refine ⟨_, rfl, ?_⟩
  clear hE2
  simp only [Act.put, List.setIfInBounds_toArray, List.set_cons_zero, List.set_cons_succ]
  refine wl_step (st_val rfl (v_moveT (.inr rfl) rfl) ?_)
  simp only [Act.put, List.setIfInBounds_toArray, List.set_cons_zero, List.set_cons_succ]
  repeat ((fail_if_success (with_reducible show wpList _ _ _ (List.cons _ _) _ _)); (fail_if_success (with_reducible show Code.wp _ (Code.region _ _ true) _ _ _)); (fail_if_success (with_reducible show Code.wp _ (Code.cond _ _ _) _ _ _)); go_step)
  go_returns
  exact ⟨rfl, vS, bS, NS, hkS, hoS, hzS, hE3⟩
set_option maxHeartbeats 8000000 in
theorem Copy_out {g n c most : Nat} {p : Option Addr} {w : World} {fr : Nat × Nat} {i : Int} (hg : w.heap[g]? = some (.cells #[.slice p n c, .int .i64 (most : Int)] 56 fr)) (hn : n < 1000000) (hi : ¬ (0 ≤ i ∧ i < n)) :
    Gives 18 #[.pointer (some ⟨g, 0, none⟩), .int .i64 i] w (errV 7) := by
  have HW : Hid (∀ (w1 : World) (F : Value), Below w.heap.size w w1 → Gives 27 #[.pointer (some ⟨g, 0, none⟩), .int .i64 i, F] w1 (errV 7)) := Lib.hid (fun w1 F hb => with_out ((hb.block g (Array.getElem?_eq_some_iff.1 hg).1).trans hg) hn hi)
  clear hg
  have hE0 := Env.nil w
  go_enter Tryd.func18, Tryd.ntmps18
  repeat ((fail_if_success (with_reducible show wpList _ _ _ (List.cons _ _) _ _)); (fail_if_success (with_reducible show Code.wp _ (Code.region _ _ true) _ _ _)); go_step)
  refine wl_step (st_box hE0 rfl rfl rfl ?_)
  intro g0 w1 hb1 hE1
  clear hE0
  simp only [Act.put, List.setIfInBounds_toArray, List.set_cons_zero, List.set_cons_succ]
  refine wl_step (st_box hE1 rfl rfl rfl ?_)
  intro g1 w2 hb2 hE2
  clear hE1
  simp only [Act.put, List.setIfInBounds_toArray, List.set_cons_zero, List.set_cons_succ]
  refine wl_step (st_val rfl (v_moveC (.inr rfl)) ?_)
  simp only [Act.put, List.setIfInBounds_toArray, List.set_cons_zero, List.set_cons_succ]
  repeat ((fail_if_success (with_reducible show wpList _ _ _ (List.cons _ _) _ _)); (fail_if_success (with_reducible show Code.wp _ (Code.region _ _ true) _ _ _)); go_step)
  refine wl_step (st_val rfl (v_cellB (v := .pointer (some ⟨g, 0, none⟩)) (i := 1) hE2 rfl rfl rfl Tryd.underlying25 rfl rfl) ?_)
  simp only [Act.put, List.setIfInBounds_toArray, List.set_cons_zero, List.set_cons_succ]
  refine wl_step (st_val rfl (v_cellB (v := .int .i64 i) (i := 0) hE2 rfl rfl rfl Tryd.underlying3 rfl rfl) ?_)
  simp only [Act.put, List.setIfInBounds_toArray, List.set_cons_zero, List.set_cons_succ]
  refine wl_step (st_val rfl (v_makeFunc rfl rfl) ?_)
  simp only [Act.put, List.setIfInBounds_toArray, List.set_cons_zero, List.set_cons_succ]
  refine wl_step (st_gives hE2 rfl (run_call rfl Tryd.call27) (HW.out _ _ hE2.below) ?_)
  intro w3 hb3 hE3
  clear hE2
  simp only [Act.put, List.setIfInBounds_toArray, List.set_cons_zero, List.set_cons_succ]
  refine wl_step (st_val rfl (v_moveT (.inr rfl) rfl) ?_)
  simp only [Act.put, List.setIfInBounds_toArray, List.set_cons_zero, List.set_cons_succ]
  repeat ((fail_if_success (with_reducible show wpList _ _ _ (List.cons _ _) _ _)); (fail_if_success (with_reducible show Code.wp _ (Code.region _ _ true) _ _ _)); go_step)
  go_returns
  exact ⟨rfl, hE3.below⟩
set_option maxHeartbeats 8000000 in
theorem Swap_out {g n c most : Nat} {p : Option Addr} {w : World} {fr : Nat × Nat} {i k : Int} (hg : w.heap[g]? = some (.cells #[.slice p n c, .int .i64 (most : Int)] 56 fr)) (hn : n < 1000000) (hi : ¬ (0 ≤ i ∧ i < n)) :
    Gives 19 #[.pointer (some ⟨g, 0, none⟩), .int .i64 i, .int .i64 k] w (errV 7) := by
  have HW : Hid (∀ (w1 : World) (F : Value), Below w.heap.size w w1 → Gives 27 #[.pointer (some ⟨g, 0, none⟩), .int .i64 i, F] w1 (errV 7)) := Lib.hid (fun w1 F hb => with_out ((hb.block g (Array.getElem?_eq_some_iff.1 hg).1).trans hg) hn hi)
  clear hg
  have hE0 := Env.nil w
  go_enter Tryd.func19, Tryd.ntmps19
  repeat ((fail_if_success (with_reducible show wpList _ _ _ (List.cons _ _) _ _)); (fail_if_success (with_reducible show Code.wp _ (Code.region _ _ true) _ _ _)); go_step)
  refine wl_step (st_box hE0 rfl rfl rfl ?_)
  intro g0 w1 hb1 hE1
  clear hE0
  simp only [Act.put, List.setIfInBounds_toArray, List.set_cons_zero, List.set_cons_succ]
  refine wl_step (st_box hE1 rfl rfl rfl ?_)
  intro g1 w2 hb2 hE2
  clear hE1
  simp only [Act.put, List.setIfInBounds_toArray, List.set_cons_zero, List.set_cons_succ]
  refine wl_step (st_box hE2 rfl rfl rfl ?_)
  intro g2 w3 hb3 hE3
  clear hE2
  simp only [Act.put, List.setIfInBounds_toArray, List.set_cons_zero, List.set_cons_succ]
  refine wl_step (st_val rfl (v_moveC (.inr rfl)) ?_)
  simp only [Act.put, List.setIfInBounds_toArray, List.set_cons_zero, List.set_cons_succ]
  repeat ((fail_if_success (with_reducible show wpList _ _ _ (List.cons _ _) _ _)); (fail_if_success (with_reducible show Code.wp _ (Code.region _ _ true) _ _ _)); go_step)
  refine wl_step (st_val rfl (v_cellB (v := .pointer (some ⟨g, 0, none⟩)) (i := 2) hE3 rfl rfl rfl Tryd.underlying25 rfl rfl) ?_)
  simp only [Act.put, List.setIfInBounds_toArray, List.set_cons_zero, List.set_cons_succ]
  refine wl_step (st_val rfl (v_cellB (v := .int .i64 i) (i := 1) hE3 rfl rfl rfl Tryd.underlying3 rfl rfl) ?_)
  simp only [Act.put, List.setIfInBounds_toArray, List.set_cons_zero, List.set_cons_succ]
  refine wl_step (st_val rfl (v_makeFunc rfl rfl) ?_)
  simp only [Act.put, List.setIfInBounds_toArray, List.set_cons_zero, List.set_cons_succ]
  refine wl_step (st_gives hE3 rfl (run_call rfl Tryd.call27) (HW.out _ _ hE3.below) ?_)
  intro w4 hb4 hE4
  clear hE3
  simp only [Act.put, List.setIfInBounds_toArray, List.set_cons_zero, List.set_cons_succ]
  refine wl_step (st_val rfl (v_moveT (.inr rfl) rfl) ?_)
  simp only [Act.put, List.setIfInBounds_toArray, List.set_cons_zero, List.set_cons_succ]
  repeat ((fail_if_success (with_reducible show wpList _ _ _ (List.cons _ _) _ _)); (fail_if_success (with_reducible show Code.wp _ (Code.region _ _ true) _ _ _)); go_step)
  go_returns
  exact ⟨rfl, hE4.below⟩
set_option maxHeartbeats 8000000 in
theorem swapG_out {g n c most gA gB gC : Nat} {p : Option Addr} {w : World} {fr fa fc : Nat × Nat} {k : Int} {TA TC : TypeId} (hg : w.heap[g]? = some (.cells #[.slice p n c, .int .i64 (most : Int)] 56 fr)) (hn : n < 1000000) (hk : ¬ (0 ≤ k ∧ k < n))
    (hA : w.heap[gA]? = some (.cells #[.pointer (some ⟨g, 0, none⟩)] TA fa)) (hC : w.heap[gC]? = some (.cells #[.int .i64 k] TC fc)) :
    Gives 31 #[.pointer (some ⟨gA, 0, none⟩), .pointer (some ⟨gC, 0, none⟩), .pointer (some ⟨gB, 0, none⟩)] w (errV 7) := by
  have HW : Hid (∀ (w1 : World) (F : Value), Below w.heap.size w w1 → Gives 27 #[.pointer (some ⟨g, 0, none⟩), .int .i64 k, F] w1 (errV 7)) := Lib.hid (fun w1 F hb => with_out ((hb.block g (Array.getElem?_eq_some_iff.1 hg).1).trans hg) hn hk)
  have HA := Lib.hid hA
  have HC := Lib.hid hC
  clear hg hA hC
  have hE0 := Env.nil w
  go_enter Tryd.func31, Tryd.ntmps31
  repeat ((fail_if_success (with_reducible show wpList _ _ _ (List.cons _ _) _ _)); (fail_if_success (with_reducible show Code.wp _ (Code.region _ _ true) _ _ _)); go_step)
  refine wl_step (st_val rfl (v_moveC (.inr rfl)) ?_)
  simp only [Act.put, List.setIfInBounds_toArray, List.set_cons_zero, List.set_cons_succ]
  repeat ((fail_if_success (with_reducible show wpList _ _ _ (List.cons _ _) _ _)); (fail_if_success (with_reducible show Code.wp _ (Code.region _ _ true) _ _ _)); go_step)
  refine wl_step (st_val rfl (v_cellW (cs := [.pointer (some ⟨g, 0, none⟩)]) HA.out rfl hE0 rfl rfl Tryd.underlying25 rfl) ?_)
  simp only [Act.put, List.setIfInBounds_toArray, List.set_cons_zero, List.set_cons_succ]
  refine wl_step (st_val rfl (v_cellW (cs := [.int .i64 k]) HC.out rfl hE0 rfl rfl Tryd.underlying3 rfl) ?_)
  simp only [Act.put, List.setIfInBounds_toArray, List.set_cons_zero, List.set_cons_succ]
  refine wl_step (st_val rfl (v_makeFunc rfl rfl) ?_)
  simp only [Act.put, List.setIfInBounds_toArray, List.set_cons_zero, List.set_cons_succ]
  refine wl_step (st_gives hE0 rfl (run_call rfl Tryd.call27) (HW.out _ _ hE0.below) ?_)
  intro w1 hb1 hE1
  clear hE0
  simp only [Act.put, List.setIfInBounds_toArray, List.set_cons_zero, List.set_cons_succ]
  refine wl_step (st_val rfl (v_moveT (.inr rfl) rfl) ?_)
  simp only [Act.put, List.setIfInBounds_toArray, List.set_cons_zero, List.set_cons_succ]
  repeat ((fail_if_success (with_reducible show wpList _ _ _ (List.cons _ _) _ _)); (fail_if_success (with_reducible show Code.wp _ (Code.region _ _ true) _ _ _)); go_step)
  go_returns
  exact ⟨rfl, hE1.below⟩
set_option maxHeartbeats 8000000 in
theorem Swap_out2 {g n c most i : Nat} {p : Option Addr} {w : World} {fr : Nat × Nat} {k : Int} (hg : w.heap[g]? = some (.cells #[.slice p n c, .int .i64 (most : Int)] 56 fr)) (hn : n < 1000000) (hi : i < n) (hk : ¬ (0 ≤ k ∧ k < n)) :
    Gives 19 #[.pointer (some ⟨g, 0, none⟩), .int .i64 (i : Int), .int .i64 k] w (errV 7) := by
  have Hg : Hid (∀ w1, Below w.heap.size w w1 → w1.heap[g]? = some (.cells #[.slice p n c, .int .i64 (most : Int)] 56 fr)) := Lib.hid (fun w1 hb => (hb.block g (Array.getElem?_eq_some_iff.1 hg).1).trans hg)
  clear hg
  have hE0 := Env.nil w
  go_enter Tryd.func19, Tryd.ntmps19
  repeat ((fail_if_success (with_reducible show wpList _ _ _ (List.cons _ _) _ _)); (fail_if_success (with_reducible show Code.wp _ (Code.region _ _ true) _ _ _)); go_step)
  refine wl_step (st_box hE0 rfl rfl rfl ?_)
  intro g0 w1 hb1 hE1
  clear hE0
  simp only [Act.put, List.setIfInBounds_toArray, List.set_cons_zero, List.set_cons_succ]
  refine wl_step (st_box hE1 rfl rfl rfl ?_)
  intro g1 w2 hb2 hE2
  clear hE1
  simp only [Act.put, List.setIfInBounds_toArray, List.set_cons_zero, List.set_cons_succ]
  refine wl_step (st_box hE2 rfl rfl rfl ?_)
  intro g2 w3 hb3 hE3
  clear hE2
  simp only [Act.put, List.setIfInBounds_toArray, List.set_cons_zero, List.set_cons_succ]
  refine wl_step (st_val rfl (v_moveC (.inr rfl)) ?_)
  simp only [Act.put, List.setIfInBounds_toArray, List.set_cons_zero, List.set_cons_succ]
  repeat ((fail_if_success (with_reducible show wpList _ _ _ (List.cons _ _) _ _)); (fail_if_success (with_reducible show Code.wp _ (Code.region _ _ true) _ _ _)); go_step)
  refine wl_step (st_val rfl (v_cellB (v := .pointer (some ⟨g, 0, none⟩)) (i := 2) hE3 rfl rfl rfl Tryd.underlying25 rfl rfl) ?_)
  simp only [Act.put, List.setIfInBounds_toArray, List.set_cons_zero, List.set_cons_succ]
  refine wl_step (st_val rfl (v_cellB (v := .int .i64 (i : Int)) (i := 1) hE3 rfl rfl rfl Tryd.underlying3 rfl rfl) ?_)
  simp only [Act.put, List.setIfInBounds_toArray, List.set_cons_zero, List.set_cons_succ]
  refine wl_step (st_val rfl (v_makeFunc rfl rfl) ?_)
  simp only [Act.put, List.setIfInBounds_toArray, List.set_cons_zero, List.set_cons_succ]
  refine wl_step (st_gives hE3 rfl (run_call rfl Tryd.call27) (with_in (caps := [.pointer (some ⟨g0, 0, none⟩), .pointer (some ⟨g2, 0, none⟩), .pointer (some ⟨g1, 0, none⟩)]) (Hg.out _ hE3.below) hn hi Tryd.call31 (swapG_out (Hg.out _ hE3.below) hn hk (hE3.get (i := 2) rfl) (hE3.get (i := 0) rfl)) (fun e w' h => ⟨_, h.1⟩)) ?_)
  intro w4 hb4 hE4
  clear hE3
  simp only [Act.put, List.setIfInBounds_toArray, List.set_cons_zero, List.set_cons_succ]
  refine wl_step (st_val rfl (v_moveT (.inr rfl) rfl) ?_)
  simp only [Act.put, List.setIfInBounds_toArray, List.set_cons_zero, List.set_cons_succ]
  repeat ((fail_if_success (with_reducible show wpList _ _ _ (List.cons _ _) _ _)); (fail_if_success (with_reducible show Code.wp _ (Code.region _ _ true) _ _ _)); go_step)
  go_returns
  exact ⟨rfl, hE4.below⟩
end Go.Proofs.YtnbbehgcnodfbaaDoor
