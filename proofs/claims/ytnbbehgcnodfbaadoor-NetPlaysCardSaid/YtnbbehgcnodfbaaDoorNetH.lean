/-
  Layer 28: the document's example; bytes of an own slice read and written.
-/
import Derived.Test.YtnbbehgcnodfbaaDoorNetG
import Derived.Test.YtnbbehgcnodfbaaDoorFrame
namespace Go.Proofs.YtnbbehgcnodfbaaDoor
open Go.RowKit
set_option maxRecDepth 100000
set_option linter.unusedVariables false
set_option linter.unusedSimpArgs false

theorem one_of {N : List (PV × List Blk)} {f t : Int} {c : List Nat} (h : (fsts N).map PV.key = [(f, t, c)]) : ∃ s b, N = [(⟨f, t, c, s⟩, b)] := by
  match N, h with
  | [(⟨f1, t1, c1, s1⟩, b1)], h =>
    simp only [fsts, List.map_cons, List.map_nil, PV.key, List.cons.injEq, Prod.mk.injEq, and_true] at h
    obtain ⟨rfl, rfl, rfl⟩ := h
    exact ⟨s1, b1, rfl⟩
theorem two_of {N : List (PV × List Blk)} {f t g u : Int} {c d : List Nat} (h : (fsts N).map PV.key = [(f, t, c), (g, u, d)]) : ∃ s b r e, N = [(⟨f, t, c, s⟩, b), (⟨g, u, d, r⟩, e)] := by
  match N, h with
  | [(⟨f1, t1, c1, s1⟩, b1), (⟨f2, t2, c2, s2⟩, b2)], h =>
    simp only [fsts, List.map_cons, List.map_nil, PV.key, List.cons.injEq, Prod.mk.injEq, and_true] at h
    obtain ⟨⟨rfl, rfl, rfl⟩, rfl, rfl, rfl⟩ := h
    exact ⟨s1, b1, s2, b2, rfl⟩
/-- Packets sent, for which there is room. -/
theorem Send_ok {w0 w : World} {g most : Nat} {M M' : List PV} {R bs : List Blk} {v x : Value} (hO : Oz 3 43 M.length (pcells M) v bs) (hS : ∀ m ∈ M, Sees w0 R m) (hE : Env w0 (⟨g, 56, #[v, .int .i64 (most : Int)]⟩ :: (bs ++ R)) w)
    (hm : most ≤ 64) (hx : ∀ w', Env w0 R w' → RdZ 3 M'.length (pcells M') x w') (hS' : ∀ m ∈ M', Sees w0 R m) (hb : ∀ m ∈ M', m.by'.length < 1000000) (hr : M.length + M'.length ≤ most) :
    Calls Tryd.prog 17 #[.pointer (some ⟨g, 0, none⟩), x] w fun e w' => ∃ v' bo N, e = .returned .nilIface ∧ (fsts N).map PV.key = M'.map PV.key ∧ (∀ x ∈ N, OwnP 5 x) ∧ Oz 3 43 (M ++ fsts N).length (pcells (M ++ fsts N)) v' bo ∧
      Env w0 (⟨g, 56, #[v', .int .i64 (most : Int)]⟩ :: (bo ++ (blks N ++ R))) w' := by
  refine (Send_any hO hS hE (by omega) hm hx hS' hb (by omega)).mono ?_
  rintro e w' ⟨v', bo, N, rfl, h2, h3, h4, h5⟩
  rw [List.take_of_length_le (by omega)] at h2
  rw [if_pos (by omega)]
  exact ⟨v', bo, N, rfl, h2, h3, h4, h5⟩

set_option maxHeartbeats 16000000 in
theorem awake_any (w : World) : Gives 6 #[] w (.bool true) := by
  have hz1 : ∀ (w0 : World) (R : List Blk) (t : Int), Sees w0 R ⟨0, t, [], .slice none 0 0⟩ := fun w0 R t w' _ => RdS.nil .u8 w'
  have HSend : Hid (∀ (w' : World) (gN gP : Nat), Env w (⟨gP, 43, ([[Value.int .i64 0, .int .i64 1, .slice none 0 0], [.int .i64 0, .int .i64 2, .slice none 0 0]].flatten).toArray⟩ :: [⟨gN, 56, #[.slice none 0 0, .int .i64 ((3 : Nat) : Int)]⟩]) w' →
      Calls Tryd.prog 17 #[.pointer (some ⟨gN, 0, none⟩), .slice (some ⟨gP, 0, none⟩) 2 2] w' fun e w'' => ∃ v' bo s1 b1 s2 b2, e = .returned .nilIface ∧ Ow 5 (nats .u8 []) s1 b1 ∧ Ow 5 (nats .u8 []) s2 b2 ∧ Oz 3 43 2 (pcells [⟨0, 1, [], s1⟩, ⟨0, 2, [], s2⟩]) v' bo ∧
        Env w (⟨gN, 56, #[v', .int .i64 ((3 : Nat) : Int)]⟩ :: (bo ++ (b1 ++ b2))) w'') := Lib.hid (fun w' gN gP h => by
    have h' : Env w (⟨gN, 56, #[.slice none 0 0, .int .i64 ((3 : Nat) : Int)]⟩ :: ([] ++ [⟨gP, 43, ([[Value.int .i64 0, .int .i64 1, .slice none 0 0], [.int .i64 0, .int .i64 2, .slice none 0 0]].flatten).toArray⟩])) w' := h.perm (List.Perm.swap _ _ _)
    refine (Send_ok (M := []) (M' := [⟨0, 1, [], .slice none 0 0⟩, ⟨0, 2, [], .slice none 0 0⟩]) (Oz.nil _ _) (fun m hm => by cases hm) h' (by decide) (fun w1 h1 => RdZ.of_block (h1.get (i := 0) rfl) rfl) (fun m hm => ?_) (fun m hm => ?_) (by decide)).mono ?_
    · simp only [List.mem_cons, List.not_mem_nil, or_false] at hm
      rcases hm with rfl | rfl <;> exact hz1 _ _ _
    · simp only [List.mem_cons, List.not_mem_nil, or_false] at hm
      rcases hm with rfl | rfl <;> exact (show 0 < 1000000 by decide)
    · rintro e w2 ⟨v', bo, N, he, hk, hown, hO, hE⟩
      obtain ⟨s1, b1, s2, b2, rfl⟩ := two_of (f := 0) (t := 1) (g := 0) (u := 2) (c := []) (d := []) hk
      refine ⟨v', bo, s1, b1, s2, b2, he, hown _ (List.mem_cons_self ..), hown _ (List.mem_cons_of_mem _ (List.mem_cons_self ..)), hO, hE.sub ?_⟩
      refine List.Sublist.cons_cons _ (List.Sublist.append_left ?_ _)
      simp only [blks, List.flatMap_cons, List.flatMap_nil, List.append_nil]
      exact List.sublist_append_left _ _)
  have hE0 := Env.nil w
  go_enter Tryd.func6, Tryd.ntmps6
  repeat ((fail_if_success (with_reducible show wpList _ _ _ (List.cons _ _) _ _)); (fail_if_success (with_reducible show Code.wp _ (Code.region _ _ true) _ _ _)); go_step)
  refine wl_step (st_val rfl (v_moveC (.inr rfl)) ?_)
  simp only [Act.put, List.setIfInBounds_toArray, List.set_cons_zero, List.set_cons_succ]
  repeat ((fail_if_success (with_reducible show wpList _ _ _ (List.cons _ _) _ _)); (fail_if_success (with_reducible show Code.wp _ (Code.region _ _ true) _ _ _)); go_step)
  refine wl_step (st_calls rfl (run_call rfl Tryd.call7) (New_any (n := 3) (by decide) (by decide) _) ?_)
  rintro _ w1 ⟨g0, rfl, hb1, hn, hgN⟩
  have hE1 := hE0.more hb1 hn hgN
  refine ⟨_, rfl, ?_⟩
  clear hE0
  simp only [Act.put, List.setIfInBounds_toArray, List.set_cons_zero, List.set_cons_succ]
  refine wl_step (st_val rfl (v_moveT (.inl rfl) rfl) ?_)
  simp only [Act.put, List.setIfInBounds_toArray, List.set_cons_zero, List.set_cons_succ]
  refine wl_step (st_val rfl (v_extract rfl rfl rfl) ?_)
  simp only [Act.put, List.setIfInBounds_toArray, List.set_cons_zero, List.set_cons_succ]
  refine wl_step (st_val rfl (v_extract rfl rfl rfl) ?_)
  simp only [Act.put, List.setIfInBounds_toArray, List.set_cons_zero, List.set_cons_succ]
  refine wl_step (st_val rfl (v_moveT (.inr rfl) rfl) ?_)
  simp only [Act.put, List.setIfInBounds_toArray, List.set_cons_zero, List.set_cons_succ]
  refine wl_step (st_val rfl (v_moveT (.inr rfl) rfl) ?_)
  simp only [Act.put, List.setIfInBounds_toArray, List.set_cons_zero, List.set_cons_succ]
  repeat ((fail_if_success (with_reducible show wpList _ _ _ (List.cons _ _) _ _)); (fail_if_success (with_reducible show Code.wp _ (Code.region _ _ true) _ _ _)); go_step)
  refine wl_step (st_val rfl (v_moveT (.inl rfl) rfl) ?_)
  simp only [Act.put, List.setIfInBounds_toArray, List.set_cons_zero, List.set_cons_succ]
  refine wl_step (st_val rfl (v_run fun w9 => by go_simp; with_reducible rfl) ?_)
  simp only [Act.put, List.setIfInBounds_toArray, List.set_cons_zero, List.set_cons_succ]
  refine wl_step (st_val rfl (v_moveT (.inl rfl) rfl) ?_)
  simp only [Act.put, List.setIfInBounds_toArray, List.set_cons_zero, List.set_cons_succ]
  refine wl_step (st_val rfl (v_moveT (.inl rfl) rfl) ?_)
  simp only [Act.put, List.setIfInBounds_toArray, List.set_cons_zero, List.set_cons_succ]
  refine wl_step (st_val rfl (v_run fun w9 => by go_simp; with_reducible rfl) ?_)
  simp only [Act.put, List.setIfInBounds_toArray, List.set_cons_zero, List.set_cons_succ]
  refine wl_step (st_val rfl (v_orF rfl rfl rfl) ?_)
  simp only [Act.put, List.setIfInBounds_toArray, List.set_cons_zero, List.set_cons_succ]
  repeat ((fail_if_success (with_reducible show wpList _ _ _ (List.cons _ _) _ _)); (fail_if_success (with_reducible show Code.wp _ (Code.region _ _ true) _ _ _)); (fail_if_success (with_reducible show Code.wp _ (Code.cond _ _ _) _ _ _)); go_step)
  refine wp_cond_false (by first | rfl | exact congrArg Value.bool (decide_eq_false (by omega))) ?_
  skip
  repeat ((fail_if_success (with_reducible show wpList _ _ _ (List.cons _ _) _ _)); (fail_if_success (with_reducible show Code.wp _ (Code.region _ _ true) _ _ _)); go_step)
  refine wl_step (st_val rfl (v_moveT (.inl rfl) rfl) ?_)
  simp only [Act.put, List.setIfInBounds_toArray, List.set_cons_zero, List.set_cons_succ]
  refine wl_step (st_val rfl (v_buildV (zs := [.int .i64 0, .int .i64 0, .slice none 0 0]) (lay := [(0, 1), (1, 1), (2, 1)]) (vals := [(1, .int .i64 1)]) [.int .i64 0, .int .i64 1, .slice none 0 0] rfl (by kernel_rfl) Tryd.underlying43 (by kernel_rfl) rfl rfl) ?_)
  simp only [Act.put, List.setIfInBounds_toArray, List.set_cons_zero, List.set_cons_succ]
  refine wl_step (st_val rfl (v_buildV (zs := [.int .i64 0, .int .i64 0, .slice none 0 0]) (lay := [(0, 1), (1, 1), (2, 1)]) (vals := [(1, .int .i64 2)]) [.int .i64 0, .int .i64 2, .slice none 0 0] rfl (by kernel_rfl) Tryd.underlying43 (by kernel_rfl) rfl rfl) ?_)
  simp only [Act.put, List.setIfInBounds_toArray, List.set_cons_zero, List.set_cons_succ]
  refine wl_step (st_oneP [[Value.int .i64 0, .int .i64 1, .slice none 0 0], [.int .i64 0, .int .i64 2, .slice none 0 0]] hE1 rfl rfl (by simp only [List.map_cons, List.map_nil, List.zipIdx_cons, List.zipIdx_nil]; rfl) rfl (by decide) (by decide) Tryd.underlying31 (by kernel_rfl) Tryd.zeroValue43 (fun r hr => by simp only [List.mem_cons, List.not_mem_nil, or_false] at hr; rcases hr with rfl | rfl <;> rfl) ?_)
  intro g1 w2 hb2 hE2
  clear hE1
  simp only [Act.put, List.setIfInBounds_toArray, List.set_cons_zero, List.set_cons_succ]
  refine wl_step (st_calls rfl (run_call rfl Tryd.call17) (HSend.out _ _ _ hE2) ?_)
  rintro _ w3 ⟨vS, bS, s1, b1, s2, b2, rfl, ho1, ho2, hzS, hE3⟩
  skip
  refine ⟨_, rfl, ?_⟩
  clear hE2
  simp only [Act.put, List.setIfInBounds_toArray, List.set_cons_zero, List.set_cons_succ]
  refine wl_step (st_val rfl (v_moveT (.inr rfl) rfl) ?_)
  simp only [Act.put, List.setIfInBounds_toArray, List.set_cons_zero, List.set_cons_succ]
  have hs1 : Sees w (b1 ++ b2) ⟨0, 1, [], s1⟩ := fun w' h => ho1.seesW _ (h.sub (List.sublist_append_left _ _))
  have hs2 : Sees w (b1 ++ b2) ⟨0, 2, [], s2⟩ := fun w' h => ho2.seesW _ (h.sub (List.sublist_append_right _ _))
  have hsee : ∀ (M : List PV), (∀ m ∈ M, m = ⟨0, 1, [], s1⟩ ∨ m = ⟨0, 2, [], s2⟩) → ∀ m ∈ M, Sees w (b1 ++ b2) m := fun M h m hm => by
    rcases h m hm with rfl | rfl
    · exact hs1
    · exact hs2
  have hm12 : ∀ m ∈ [(⟨0, 1, [], s1⟩ : PV), ⟨0, 2, [], s2⟩], m = ⟨0, 1, [], s1⟩ ∨ m = ⟨0, 2, [], s2⟩ := fun m hm => by simpa using hm
  have hm21 : ∀ m ∈ [(⟨0, 2, [], s2⟩ : PV), ⟨0, 1, [], s1⟩], m = ⟨0, 1, [], s1⟩ ∨ m = ⟨0, 2, [], s2⟩ := fun m hm => by
    simp only [List.mem_cons, List.not_mem_nil, or_false] at hm
    exact hm.symm
  have S12 := Lib.hid (hsee _ hm12)
  have S21 := Lib.hid (hsee _ hm21)
  obtain ⟨p2, c2, rfl, -⟩ := ho2.lenN
  have HO := Lib.hid hzS
  clear hs1 hs2 hsee hm12 hm21 hzS
  repeat ((fail_if_success (with_reducible show wpList _ _ _ (List.cons _ _) _ _)); (fail_if_success (with_reducible show Code.wp _ (Code.region _ _ true) _ _ _)); go_step)
  refine wl_step (st_val rfl (v_moveT (.inl rfl) rfl) ?_)
  simp only [Act.put, List.setIfInBounds_toArray, List.set_cons_zero, List.set_cons_succ]
  refine wl_step (st_calls rfl (run_call rfl Tryd.call19) (Swap_any (i := 0) (k := 1) (M := [⟨0, 1, [], s1⟩, ⟨0, 2, [], .slice p2 ([] : List Nat).length c2⟩]) HO.out S12.out rfl rfl (show 2 < 1000000 by decide) hE3) ?_)
  rintro _ w4 ⟨rfl, bW, hzW, hE4⟩
  skip
  refine ⟨_, rfl, ?_⟩
  clear hE3
  simp only [Act.put, List.setIfInBounds_toArray, List.set_cons_zero, List.set_cons_succ]
  refine wl_step (st_val rfl (v_moveT (.inr rfl) rfl) ?_)
  simp only [Act.put, List.setIfInBounds_toArray, List.set_cons_zero, List.set_cons_succ]
  have HW := Lib.hid hzW
  repeat ((fail_if_success (with_reducible show wpList _ _ _ (List.cons _ _) _ _)); (fail_if_success (with_reducible show Code.wp _ (Code.region _ _ true) _ _ _)); go_step)
  refine wl_step (st_val rfl (v_moveT (.inl rfl) rfl) ?_)
  simp only [Act.put, List.setIfInBounds_toArray, List.set_cons_zero, List.set_cons_succ]
  refine wl_step (st_calls rfl (run_call rfl Tryd.call16) (Take_any (i := 0) (m := ⟨0, 2, [], .slice p2 ([] : List Nat).length c2⟩) (M := [⟨0, 2, [], .slice p2 ([] : List Nat).length c2⟩, ⟨0, 1, [], s1⟩]) HW.out S21.out hE4 rfl (show 2 < 1000000 by decide)) ?_)
  rintro _ w5 ⟨vT, bT, rfl, hzT, hE5⟩
  skip
  refine ⟨_, rfl, ?_⟩
  clear hE4
  simp only [Act.put, List.setIfInBounds_toArray, List.set_cons_zero, List.set_cons_succ]
  refine wl_step (st_val rfl (v_moveT (.inl rfl) rfl) ?_)
  simp only [Act.put, List.setIfInBounds_toArray, List.set_cons_zero, List.set_cons_succ]
  refine wl_step (st_val rfl (v_extract rfl rfl rfl) ?_)
  simp only [Act.put, List.setIfInBounds_toArray, List.set_cons_zero, List.set_cons_succ]
  refine wl_step (st_val rfl (v_extract rfl rfl rfl) ?_)
  simp only [Act.put, List.setIfInBounds_toArray, List.set_cons_zero, List.set_cons_succ]
  refine wl_step (st_alloc (zs := #[Value.int .i64 0, Value.int .i64 0, Value.slice none 0 0]) hE5 rfl rfl (fun w => by kernel_rfl) ?_)
  intro g2 w6 hb6 hE6
  clear hE5
  simp only [Act.put, List.setIfInBounds_toArray, List.set_cons_zero, List.set_cons_succ]
  refine wl_step (st_store (i := 0) hE6 rfl rfl rfl rfl rfl (sz_of (n := 3) (by kernel_rfl) rfl) rfl (by simp; exact ⟨rfl, rfl, rfl⟩) ?_)
  intro w7 hE7
  clear hE6
  simp only [List.set_cons_zero] at hE7
  simp only [Act.put, List.setIfInBounds_toArray, List.set_cons_zero, List.set_cons_succ]
  refine wl_step (st_val rfl (v_moveT (.inr rfl) rfl) ?_)
  simp only [Act.put, List.setIfInBounds_toArray, List.set_cons_zero, List.set_cons_succ]
  obtain ⟨pT, cT, rfl, -⟩ := hzT.len
  repeat ((fail_if_success (with_reducible show wpList _ _ _ (List.cons _ _) _ _)); (fail_if_success (with_reducible show Code.wp _ (Code.region _ _ true) _ _ _)); go_step)
  refine wl_step (st_val rfl (v_moveT (.inl rfl) rfl) ?_)
  simp only [Act.put, List.setIfInBounds_toArray, List.set_cons_zero, List.set_cons_succ]
  refine wl_step (st_val rfl (v_run fun w9 => by go_simp; with_reducible rfl) ?_)
  simp only [Act.put, List.setIfInBounds_toArray, List.set_cons_zero, List.set_cons_succ]
  refine wl_step (st_val rfl (v_moveT (.inl rfl) rfl) ?_)
  simp only [Act.put, List.setIfInBounds_toArray, List.set_cons_zero, List.set_cons_succ]
  refine wl_step (st_val rfl (v_moveT (.inl rfl) rfl) ?_)
  simp only [Act.put, List.setIfInBounds_toArray, List.set_cons_zero, List.set_cons_succ]
  refine wl_step (st_val rfl (v_run fun w9 => by go_simp; with_reducible rfl) ?_)
  simp only [Act.put, List.setIfInBounds_toArray, List.set_cons_zero, List.set_cons_succ]
  refine wl_step (st_val rfl (v_andT rfl rfl rfl) ?_)
  simp only [Act.put, List.setIfInBounds_toArray, List.set_cons_zero, List.set_cons_succ]
  refine wl_step (st_val rfl (v_moveT (.inl rfl) rfl) ?_)
  simp only [Act.put, List.setIfInBounds_toArray, List.set_cons_zero, List.set_cons_succ]
  refine wl_step (st_val rfl (v_moveT (.inl rfl) rfl) ?_)
  simp only [Act.put, List.setIfInBounds_toArray, List.set_cons_zero, List.set_cons_succ]
  refine wl_step (st_val rfl (v_run fun w9 => by go_simp; with_reducible rfl) ?_)
  simp only [Act.put, List.setIfInBounds_toArray, List.set_cons_zero, List.set_cons_succ]
  refine wl_step (st_val rfl (v_andT rfl rfl rfl) ?_)
  simp only [Act.put, List.setIfInBounds_toArray, List.set_cons_zero, List.set_cons_succ]
  refine wl_step (st_val rfl (v_moveT (.inl rfl) rfl) ?_)
  simp only [Act.put, List.setIfInBounds_toArray, List.set_cons_zero, List.set_cons_succ]
  refine wl_step (st_val rfl (v_fieldB (s := 0) rfl rfl Tryd.underlying43 rfl (by kernel_rfl) rfl) ?_)
  simp only [Act.put, List.setIfInBounds_toArray, List.set_cons_zero, List.set_cons_succ]
  refine wl_step (st_val rfl (v_cellB (v := .int .i64 2) (i := 0) hE7 rfl rfl rfl Tryd.underlying3 rfl rfl) ?_)
  simp only [Act.put, List.setIfInBounds_toArray, List.set_cons_zero, List.set_cons_succ]
  refine wl_step (st_val rfl (v_eqlI rfl rfl rfl) ?_)
  simp only [Act.put, List.setIfInBounds_toArray, List.set_cons_zero, List.set_cons_succ]
  refine wl_step (st_val rfl (v_andT rfl rfl rfl) ?_)
  simp only [Act.put, List.setIfInBounds_toArray, List.set_cons_zero, List.set_cons_succ]
  refine wl_step (st_val rfl (v_moveT (.inl rfl) rfl) ?_)
  simp only [Act.put, List.setIfInBounds_toArray, List.set_cons_zero, List.set_cons_succ]
  refine wl_step (st_val rfl (v_moveT (.inl rfl) rfl) ?_)
  simp only [Act.put, List.setIfInBounds_toArray, List.set_cons_zero, List.set_cons_succ]
  refine wl_step (st_gives hE7 rfl (run_call rfl Tryd.call11) (Len_any (n := 1) (hE7.get (i := 1) rfl) (by decide)) ?_)
  intro w8 hb8 hE8
  clear hE7
  simp only [Act.put, List.setIfInBounds_toArray, List.set_cons_zero, List.set_cons_succ]
  refine wl_step (st_val rfl (v_eql (m := 1) (n := 1) rfl rfl rfl) ?_)
  simp only [Act.put, List.setIfInBounds_toArray, List.set_cons_zero, List.set_cons_succ]
  refine wl_step (st_val rfl (v_andT rfl rfl rfl) ?_)
  simp only [Act.put, List.setIfInBounds_toArray, List.set_cons_zero, List.set_cons_succ]
  refine wl_step (st_val rfl (v_moveT (.inr rfl) rfl) ?_)
  simp only [Act.put, List.setIfInBounds_toArray, List.set_cons_zero, List.set_cons_succ]
  repeat ((fail_if_success (with_reducible show wpList _ _ _ (List.cons _ _) _ _)); (fail_if_success (with_reducible show Code.wp _ (Code.region _ _ true) _ _ _)); go_step)
  go_returns
  exact ⟨rfl, hE8.below⟩
end Go.Proofs.YtnbbehgcnodfbaaDoor
