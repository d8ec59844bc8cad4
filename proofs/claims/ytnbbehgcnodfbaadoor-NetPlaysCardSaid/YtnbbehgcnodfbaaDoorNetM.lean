/-
  Layer 28: the document's net: a packet is taken; two are changed about. Conditions: such packets are there.
-/
import Derived.Test.YtnbbehgcnodfbaaDoorNetL
namespace Go.Proofs.YtnbbehgcnodfbaaDoor
open Go.RowKit
set_option maxRecDepth 100000
set_option linter.unusedVariables false
set_option linter.unusedSimpArgs false

theorem pmT1 (a c b n : Blk) (y R : List Blk) : (a :: (c :: (b :: (n :: (y ++ R))))).Perm (y ++ (a :: (c :: (b :: (n :: R))))) := by
  classical
  exact List.perm_iff_count.2 fun c => by simp only [List.count_append, List.count_cons]; omega
theorem pmT2 (c b n : Blk) (x y R : List Blk) : (x ++ (c :: (b :: (n :: (y ++ R))))).Perm (y ++ (x ++ (c :: (b :: (n :: R))))) := by
  classical
  exact List.perm_iff_count.2 fun c => by simp only [List.count_append, List.count_cons]; omega
theorem pmT3 (c b n : Blk) (x y R : List Blk) : (x ++ (c :: (b :: (n :: (y ++ R))))).Perm (n :: (c :: (b :: (x ++ (y ++ R))))) := by
  classical
  exact List.perm_iff_count.2 fun c => by simp only [List.count_append, List.count_cons]; omega
theorem pmT0 (b n : Blk) (y R : List Blk) : (b :: (n :: (y ++ R))).Perm (y ++ (b :: (n :: R))) := by
  classical
  exact List.perm_iff_count.2 fun c => by simp only [List.count_append, List.count_cons]; omega
set_option maxHeartbeats 8000000 in
theorem rTake_any {w0 w : World} {g most i : Nat} {M : List PV} {m : PV} {R bs : List Blk} {v : Value} (hO : Oz 3 43 M.length (pcells M) v bs) (hones : ∀ u ∈ pcells M, u.oneCell' = true)
    (hE : Env w0 (rnb g v most :: (bs ++ R)) w) (hm : M[i]? = some m) (hM : M.length < 1000000) :
    Calls Tryd.prog 22 #[.pointer (some ⟨g, 0, none⟩), .int .i64 (i : Int)] w fun e w' => e = .returned (.agg #[.int .i64 m.fr, .int .i64 m.to, m.sl]) ∧ ∃ v' bo, Oz 3 43 (M.eraseIdx i).length (pcells (M.eraseIdx i)) v' bo ∧ Env w0 (rnb g v' most :: (bo ++ R)) w' := by
  obtain ⟨i0, hi0, hz0, hs0, hb0⟩ := info_packet
  have hi : i < M.length := (List.getElem?_eq_some_iff.1 hm).1
  obtain ⟨p, c, rfl, hc⟩ := hO.len
  obtain ⟨b, off, rfl, -⟩ := (hO.rd (l := rnb g (.slice p M.length c) most :: R) (hE.perm (List.perm_middle.symm))).elem hi
  have hrd : ∀ w' l, Env w0 (bs ++ l) w' → RdZ 3 M.length (pcells M) (.slice (some ⟨b, off, none⟩) M.length c) w' := fun w' l h => hO.rd h
  have hran : ∀ w' l, Env w0 (bs ++ l) w' → ∀ w1, Below w'.heap.size w' w1 → w1.rangeAt b (off + i * 3) [.int .i64 m.fr, .int .i64 m.to, m.sl] := fun w' l h => by
    obtain ⟨b', off', he, hr⟩ := (hO.rd h).elem hi
    injection he with he
    injection he with h1 h2 _
    subst h1 h2
    rw [pcells_at hm] at hr
    exact hr
  have hh : ∀ w' l, Env w0 (bs ++ l) w' → RdZ 3 i (pcells (M.take i)) (.slice (some ⟨b, off, none⟩) i c) w' := fun w' l h => by
    have := (hO.rd h).head (i := i) (by omega)
    rwa [pcells_take] at this
  have ht : ∀ w' l, Env w0 (bs ++ l) w' → RdZ 3 (M.length - (i + 1)) (pcells (M.drop (i + 1))) (.slice (some ⟨b, if c = i + 1 then off else off + (i + 1) * 3, none⟩) (M.length - (i + 1)) (c - (i + 1))) w' := fun w' l h => by
    have := (hO.rd h).tail (i := i + 1) (by omega)
    rwa [pcells_drop] at this
  have hone1 : ∀ u ∈ pcells (M.take i), u.oneCell' = true := fun u hu => hones u (by rw [← pcells_take] at hu; exact List.mem_of_mem_take hu)
  have hone2 : ∀ u ∈ pcells (M.drop (i + 1)), u.oneCell' = true := fun u hu => hones u (by rw [← pcells_drop] at hu; exact List.mem_of_mem_drop hu)
  have hmc : (#[Value.int .i64 m.fr, .int .i64 m.to, m.sl]).all (·.oneCell') = true := by
    have h1 : m.sl ∈ pcells M := by
      unfold pcells
      rw [List.mem_flatMap]
      exact ⟨m, List.mem_of_getElem? hm, by simp [PV.cells]⟩
    simp [hones _ h1]
    exact ⟨rfl, rfl⟩
  have hel : (M.eraseIdx i).length = i + (M.length - (i + 1)) := by rw [List.length_eraseIdx, if_pos hi]; omega
  have hec : pcells (M.eraseIdx i) = pcells (M.take i) ++ pcells (M.drop (i + 1)) := by rw [List.eraseIdx_eq_take_drop_succ, pcells_append]
  have hm63 : M.length < 9223372036854775808 := by omega
  have hl1 : i ≤ maxLen := by simp only [maxLen]; omega
  have hl2 : i * 40 ≤ 140737488355328 := by omega
  have hl3 : i + (M.length - (i + 1)) ≤ maxLen := by simp only [maxLen]; omega
  have hl4 : (i + (M.length - (i + 1))) * 40 ≤ 140737488355328 := by omega
  have hic : i ≤ c := by omega
  have hi2 : i + 1 ≤ M.length := by omega
  rw [hel, hec]
  have Hran := Lib.hid hran
  have Hh := Lib.hid hh
  have Ht := Lib.hid ht
  have H1 := Lib.hid hone1
  have H2 := Lib.hid hone2
  have Hi := Lib.hid hi0
  have Hz := Lib.hid hz0
  have Hs := Lib.hid hs0
  have Hb := Lib.hid hb0
  have hE0 := hE
  clear hE hi0 hz0 hs0 hb0 hO hrd hran hh ht hone1 hone2 hones hel hec hm
  go_enter Tryd.func22, Tryd.ntmps22
  repeat ((fail_if_success (with_reducible show wpList _ _ _ (List.cons _ _) _ _)); (fail_if_success (with_reducible show Code.wp _ (Code.region _ _ true) _ _ _)); go_step)
  refine wl_step (st_alloc (zs := #[Value.int .i64 0, Value.int .i64 0, Value.slice none 0 0]) hE0 rfl rfl (fun w => by kernel_rfl) ?_)
  intro g0 w1 hb1 hE1
  clear hE0
  simp only [Act.put, List.setIfInBounds_toArray, List.set_cons_zero, List.set_cons_succ]
  repeat ((fail_if_success (with_reducible show wpList _ _ _ (List.cons _ _) _ _)); (fail_if_success (with_reducible show Code.wp _ (Code.region _ _ true) _ _ _)); go_step)
  (with_reducible refine' wl_valS ?_ ?_ ?_); rotate_left; exact rfl; exact (v_moveT (.inl rfl) rfl)
  simp only [Act.put, List.setIfInBounds_toArray, List.set_cons_zero, List.set_cons_succ]
  (with_reducible refine' wl_valS ?_ ?_ ?_); rotate_left; exact rfl; exact (v_nil rfl rfl)
  simp only [Act.put, List.setIfInBounds_toArray, List.set_cons_zero, List.set_cons_succ]
  (with_reducible refine' wl_valS ?_ ?_ ?_); rotate_left; exact rfl; exact (v_field0 (s := 0) rfl rfl Tryd.underlying33 rfl (by kernel_rfl) rfl)
  simp only [Act.put, List.setIfInBounds_toArray, List.set_cons_zero, List.set_cons_succ]
  (with_reducible refine' wl_valS ?_ ?_ ?_); rotate_left; exact rfl; exact (v_cellB (v := .slice (some ⟨b, off, none⟩) M.length c) (i := 1) hE1 rfl rfl rfl Tryd.underlying31 rfl rfl)
  simp only [Act.put, List.setIfInBounds_toArray, List.set_cons_zero, List.set_cons_succ]
  (with_reducible refine' wl_valS ?_ ?_ ?_); rotate_left; exact rfl; exact (v_moveT (.inl rfl) rfl)
  simp only [Act.put, List.setIfInBounds_toArray, List.set_cons_zero, List.set_cons_succ]
  (with_reducible refine' wl_valS ?_ ?_ ?_); rotate_left; exact rfl; exact (v_indexSs (s := 3) rfl rfl rfl Tryd.underlying31 (by kernel_rfl) hi)
  simp only [Act.put, List.setIfInBounds_toArray, List.set_cons_zero, List.set_cons_succ]
  (with_reducible refine' wl_valS ?_ ?_ ?_); rotate_left; exact rfl; exact (v_loadMid (cs := #[.int .i64 m.fr, .int .i64 m.to, m.sl]) rfl rfl (Hran.out _ _ (hE1.perm (pmT0 ..))) Tryd.underlying43 rfl (by kernel_rfl))
  simp only [Act.put, List.setIfInBounds_toArray, List.set_cons_zero, List.set_cons_succ]
  refine wl_step (st_alloc (zs := #[Value.int .i64 0, Value.int .i64 0, Value.slice none 0 0]) hE1 rfl rfl (fun w => by kernel_rfl) ?_)
  intro g1 w2 hb2 hE2
  clear hE1
  simp only [Act.put, List.setIfInBounds_toArray, List.set_cons_zero, List.set_cons_succ]
  refine wl_step (st_store (i := 0) hE2 rfl rfl rfl rfl rfl (sz_of (n := 3) (by kernel_rfl) rfl) rfl hmc ?_)
  intro w3 hE3
  clear hE2
  simp only [List.set_cons_zero] at hE3
  simp only [Act.put, List.setIfInBounds_toArray, List.set_cons_zero, List.set_cons_succ]
  repeat ((fail_if_success (with_reducible show wpList _ _ _ (List.cons _ _) _ _)); (fail_if_success (with_reducible show Code.wp _ (Code.region _ _ true) _ _ _)); go_step)
  refine wp_region_B (n := 20) 16 (by kernel_rfl) rfl hE3 ?_
  intro w4 hb4 hE4
  clear hE3
  refine wpB_take1 (i := 2) (by kernel_rfl) rfl (by kernel_rfl) (fun _ _ _ h => h) rfl (v_moveT (.inl rfl) rfl) ?_
  simp only [Act.put, List.setIfInBounds_toArray, List.set_cons_zero, List.set_cons_succ]
  refine wpB_take1 (i := 3) (by kernel_rfl) rfl (by kernel_rfl) (fun _ _ _ h => h) rfl (v_nil rfl rfl) ?_
  simp only [Act.put, List.setIfInBounds_toArray, List.set_cons_zero, List.set_cons_succ]
  refine wpB_take1 (i := 4) (by kernel_rfl) rfl (by kernel_rfl) (fun _ _ _ h => h) rfl (v_field0 (s := 0) rfl rfl Tryd.underlying33 rfl (by kernel_rfl) rfl) ?_
  simp only [Act.put, List.setIfInBounds_toArray, List.set_cons_zero, List.set_cons_succ]
  refine wpB_take1 (i := 5) (by kernel_rfl) rfl (by kernel_rfl) (fun _ _ _ h => h) rfl (v_cellB (v := .slice (some ⟨b, off, none⟩) M.length c) (i := 2) hE4 rfl rfl rfl Tryd.underlying31 rfl rfl) ?_
  simp only [Act.put, List.setIfInBounds_toArray, List.set_cons_zero, List.set_cons_succ]
  refine wpB_take1 (i := 6) (by kernel_rfl) rfl (by kernel_rfl) (fun _ _ _ h => h) rfl (v_moveT (.inl rfl) rfl) ?_
  simp only [Act.put, List.setIfInBounds_toArray, List.set_cons_zero, List.set_cons_succ]
  refine wpB_take1 (i := 7) (by kernel_rfl) rfl (by kernel_rfl) (fun _ _ _ h => h) rfl (v_sliceHZ (s := 3) rfl rfl rfl Tryd.underlying31 (by kernel_rfl) hic) ?_
  simp only [Act.put, List.setIfInBounds_toArray, List.set_cons_zero, List.set_cons_succ]
  refine wpB_take1 (i := 9) (by kernel_rfl) rfl (by kernel_rfl) (fun _ _ _ h => h) rfl (v_moveT (.inl rfl) rfl) ?_
  simp only [Act.put, List.setIfInBounds_toArray, List.set_cons_zero, List.set_cons_succ]
  refine wpB_take1 (i := 10) (by kernel_rfl) rfl (by kernel_rfl) (fun _ _ _ h => h) rfl (v_nil rfl rfl) ?_
  simp only [Act.put, List.setIfInBounds_toArray, List.set_cons_zero, List.set_cons_succ]
  refine wpB_take1 (i := 11) (by kernel_rfl) rfl (by kernel_rfl) (fun _ _ _ h => h) rfl (v_field0 (s := 0) rfl rfl Tryd.underlying33 rfl (by kernel_rfl) rfl) ?_
  simp only [Act.put, List.setIfInBounds_toArray, List.set_cons_zero, List.set_cons_succ]
  refine wpB_take1 (i := 12) (by kernel_rfl) rfl (by kernel_rfl) (fun _ _ _ h => h) rfl (v_cellB (v := .slice (some ⟨b, off, none⟩) M.length c) (i := 2) hE4 rfl rfl rfl Tryd.underlying31 rfl rfl) ?_
  simp only [Act.put, List.setIfInBounds_toArray, List.set_cons_zero, List.set_cons_succ]
  refine wpB_take1 (i := 13) (by kernel_rfl) rfl (by kernel_rfl) (fun _ _ _ h => h) rfl (v_moveT (.inl rfl) rfl) ?_
  simp only [Act.put, List.setIfInBounds_toArray, List.set_cons_zero, List.set_cons_succ]
  refine wpB_take1 (i := 14) (by kernel_rfl) rfl (by kernel_rfl) (fun _ _ _ h => h) rfl (v_add (m := i) (n := 1) rfl rfl rfl (w_i64 (by omega))) ?_
  simp only [Act.put, List.setIfInBounds_toArray, List.set_cons_zero, List.set_cons_succ]
  refine wpB_take1 (i := 15) (by kernel_rfl) rfl (by kernel_rfl) (fun _ _ _ h => h) rfl (v_sliceLZ (s := 3) (lo := i + 1) rfl rfl rfl Tryd.underlying31 (by kernel_rfl) hi2) ?_
  simp only [Act.put, List.setIfInBounds_toArray, List.set_cons_zero, List.set_cons_succ]
  refine wpB_takeU (i := 0) rfl (by kernel_rfl) (fun _ _ _ h => h) rfl (fun _ => (v_moveT (.inl rfl) rfl)) ?_
  simp only [Act.put, List.setIfInBounds_toArray, List.set_cons_zero, List.set_cons_succ]
  refine wpB_step (i := 1) (by kernel_rfl) rfl (st_build0Z (s := 3) hE4 rfl rfl Tryd.underlying31 (by kernel_rfl) ?_)
  intro g2 w5 hb5 hE5
  clear hE4
  refine ⟨fun _ => hb5, ?_⟩
  simp only [Act.put, List.setIfInBounds_toArray, List.set_cons_zero, List.set_cons_succ]
  refine wpB_step (i := 8) (by kernel_rfl) rfl (st_append0 hE5 rfl rfl Tryd.underlying31 Hi.out Hz.out Hs.out rfl Hb.out rfl rfl (Hh.out _ _ (hE5.perm (pmT1 ..))) H1.out hl1 hl2 ?_)
  intro v21 w6 bo21 hb6 hO21 hE6
  clear hE5
  refine ⟨fun _ => hb6, ?_⟩
  simp only [Act.put, List.setIfInBounds_toArray, List.set_cons_zero, List.set_cons_succ]
  refine wpB_step (i := 16) (by kernel_rfl) rfl (st_appendOz hO21 hE6 rfl rfl Tryd.underlying31 Hi.out Hz.out Hs.out rfl Hb.out rfl rfl (Ht.out _ _ (hE6.perm (pmT2 ..))) H2.out hl3 hl4 ?_)
  intro vA w7 boA hOzA hE7
  clear hE6
  refine ⟨fun h => absurd h (by decide), ?_⟩
  simp only [Act.put, List.setIfInBounds_toArray, List.set_cons_zero, List.set_cons_succ]
  replace hE7 := (hE7.perm (pmT3 ..)).sub (List.Sublist.cons_cons _ (List.Sublist.cons_cons _ (List.Sublist.cons_cons _ (List.Sublist.append_left (List.sublist_append_right _ _) _))))
  have hvA : vA.oneCell' = true ∧ vA.cells = #[vA] := by { obtain ⟨pA, cA, h, -⟩ := hOzA.len; rw [h]; exact ⟨rfl, rfl⟩ }
  refine wpB_takeU (i := 17) rfl (by kernel_rfl) (fun _ _ _ h => h) rfl (fun _ => (v_nil rfl rfl)) ?_
  simp only [Act.put, List.setIfInBounds_toArray, List.set_cons_zero, List.set_cons_succ]
  refine wpB_takeU (i := 18) rfl (by kernel_rfl) (fun _ _ _ h => h) rfl (fun _ => (v_field0 (s := 0) rfl rfl Tryd.underlying33 rfl (by kernel_rfl) rfl)) ?_
  simp only [Act.put, List.setIfInBounds_toArray, List.set_cons_zero, List.set_cons_succ]
  refine wpB_step (i := 19) (by kernel_rfl) rfl (st_put (v := vA) (i := 0) hE7 rfl rfl rfl rfl rfl (by kernel_rfl) hvA.2 hvA.1 (show 0 < 2 by decide) ?_)
  intro w8 hE8
  clear hE7
  simp only [List.setIfInBounds_toArray, List.set_cons_zero] at hE8
  refine ⟨fun h => absurd h (by decide), ?_⟩
  simp only [Act.put, List.setIfInBounds_toArray, List.set_cons_zero, List.set_cons_succ]
  refine wpB_done (by kernel_rfl) ?_ _
  repeat ((fail_if_success (with_reducible show wpList _ _ _ (List.cons _ _) _ _)); (fail_if_success (with_reducible show Code.wp _ (Code.region _ _ true) _ _ _)); go_step)
  (with_reducible refine' wl_valS ?_ ?_ ?_); rotate_left; exact rfl; exact (v_load (i := 1) hE8 rfl rfl rfl Tryd.underlying43 rfl (sz_of (n := 3) (by kernel_rfl) rfl))
  simp only [Act.put, List.setIfInBounds_toArray, List.set_cons_zero, List.set_cons_succ]
  refine wl_step (st_store (i := 2) hE8 rfl rfl rfl rfl rfl (sz_of (n := 3) (by kernel_rfl) rfl) rfl hmc ?_)
  intro w9 hE9
  clear hE8
  simp only [List.set_cons_zero, List.set_cons_succ] at hE9
  simp only [Act.put, List.setIfInBounds_toArray, List.set_cons_zero, List.set_cons_succ]
  repeat ((fail_if_success (with_reducible show wpList _ _ _ (List.cons _ _) _ _)); (fail_if_success (with_reducible show Code.wp _ (Code.region _ _ true) _ _ _)); (fail_if_success (with_reducible show Code.wp _ (Code.cond _ _ _) _ _ _)); go_step)
  refine bodyPost_ret (results_cell_row rfl _ _ _ _ _ (0, 0) _ rfl ((hE9).get (i := 2) rfl) Tryd.underlying43 rfl (sz_of (n := 3) (by kernel_rfl) rfl)) rfl ?_
  exact ⟨rfl, vA, boA, hOzA, (hE9).sub (List.Sublist.cons_cons _ (List.Sublist.cons _ (List.Sublist.cons _ (List.Sublist.refl _))))⟩
theorem pmW0 (n : Blk) (y R : List Blk) (a : Blk) : (a :: (n :: (y ++ R))).Perm (y ++ (a :: (n :: R))) := pmT0 ..
theorem pmW1 (n b : Blk) (R : List Blk) : (b :: (n :: R)).Perm (n :: ([b] ++ R)) := List.Perm.swap _ _ _
set_option maxHeartbeats 8000000 in
theorem rSwap_any {w0 w : World} {g most i k : Nat} {M : List PV} {mi mk : PV} {R bs : List Blk} {v : Value} (hO : Oz 3 43 M.length (pcells M) v bs) (hones : ∀ u ∈ pcells M, u.oneCell' = true) (hmi : M[i]? = some mi) (hmk : M[k]? = some mk) (hM : M.length < 1000000)
    (hE : Env w0 (rnb g v most :: (bs ++ R)) w) :
    Calls Tryd.prog 24 #[.pointer (some ⟨g, 0, none⟩), .int .i64 (i : Int), .int .i64 (k : Int)] w fun e w' => e = .returned (.tuple #[]) ∧ ∃ v' bo, Oz 3 43 ((M.set i mk).set k mi).length (pcells ((M.set i mk).set k mi)) v' bo ∧ Env w0 (rnb g v' most :: (bo ++ R)) w' := by
  obtain ⟨i0, hi0, hz0, hs0, hb0⟩ := info_packet
  have hi : i < M.length := (List.getElem?_eq_some_iff.1 hmi).1
  have hk : k < M.length := (List.getElem?_eq_some_iff.1 hmk).1
  obtain ⟨p, c, rfl, hc⟩ := hO.len
  obtain ⟨b, off, rfl, -⟩ := (hO.rd (l := rnb g (.slice p M.length c) most :: R) (hE.perm (List.perm_middle.symm))).elem hi
  have hrd : ∀ w' l, Env w0 (bs ++ l) w' → RdZ 3 M.length (pcells M) (.slice (some ⟨b, off, none⟩) M.length c) w' := fun w' l h => hO.rd h
  have hran : ∀ j mj, M[j]? = some mj → ∀ w' l, Env w0 (bs ++ l) w' → ∀ w1, Below w'.heap.size w' w1 → w1.rangeAt b (off + j * 3) [.int .i64 mj.fr, .int .i64 mj.to, mj.sl] := fun j mj hmj w' l h => by
    obtain ⟨b', off', he, hr⟩ := (hO.rd h).elem (List.getElem?_eq_some_iff.1 hmj).1
    injection he with he
    injection he with h1 h2 _
    subst h1 h2
    rw [pcells_at hmj] at hr
    exact hr
  have hrani := hran i mi hmi
  have hrank := hran k mk hmk
  have three : ∀ m ∈ M, ([.int .i64 m.fr, .int .i64 m.to, m.sl] : List Value).all (·.oneCell') = true := fun m hm => by
    have h1 : m.sl ∈ pcells M := by
      unfold pcells
      rw [List.mem_flatMap]
      exact ⟨m, hm, by simp [PV.cells]⟩
    simp [hones _ h1]
    exact ⟨rfl, rfl⟩
  have honei := three mi (List.mem_of_getElem? hmi)
  have honek := three mk (List.mem_of_getElem? hmk)
  have hl1 : M.length ≤ maxLen := by simp only [maxLen]; omega
  have hl2 : M.length * 40 ≤ 140737488355328 := by omega
  have Hrd := Lib.hid hrd
  have Hrani := Lib.hid hrani
  have Hrank := Lib.hid hrank
  have Hones := Lib.hid hones
  have Hi := Lib.hid hi0
  have Hz := Lib.hid hz0
  have Hs := Lib.hid hs0
  have Hb := Lib.hid hb0
  have hE0 := hE
  clear hE hi0 hz0 hs0 hb0 hO hrd hran hrani hrank hones three hmi hmk
  go_enter Tryd.func24, Tryd.ntmps24
  repeat ((fail_if_success (with_reducible show wpList _ _ _ (List.cons _ _) _ _)); (fail_if_success (with_reducible show Code.wp _ (Code.region _ _ true) _ _ _)); go_step)
  refine wl_step (st_build0Z (s := 3) hE0 rfl rfl Tryd.underlying31 (by kernel_rfl) ?_)
  intro g0 w1 hb1 hE1
  clear hE0
  simp only [Act.put, List.setIfInBounds_toArray, List.set_cons_zero, List.set_cons_succ]
  (with_reducible refine' wl_valS ?_ ?_ ?_); rotate_left; exact rfl; exact (v_moveT (.inl rfl) rfl)
  simp only [Act.put, List.setIfInBounds_toArray, List.set_cons_zero, List.set_cons_succ]
  (with_reducible refine' wl_valS ?_ ?_ ?_); rotate_left; exact rfl; exact (v_nil rfl rfl)
  simp only [Act.put, List.setIfInBounds_toArray, List.set_cons_zero, List.set_cons_succ]
  (with_reducible refine' wl_valS ?_ ?_ ?_); rotate_left; exact rfl; exact (v_field0 (s := 0) rfl rfl Tryd.underlying33 rfl (by kernel_rfl) rfl)
  simp only [Act.put, List.setIfInBounds_toArray, List.set_cons_zero, List.set_cons_succ]
  (with_reducible refine' wl_valS ?_ ?_ ?_); rotate_left; exact rfl; exact (v_cellB (v := .slice (some ⟨b, off, none⟩) M.length c) (i := 1) hE1 rfl rfl rfl Tryd.underlying31 rfl rfl)
  simp only [Act.put, List.setIfInBounds_toArray, List.set_cons_zero, List.set_cons_succ]
  refine wl_step (st_append0 hE1 rfl rfl Tryd.underlying31 Hi.out Hz.out Hs.out rfl Hb.out rfl rfl (Hrd.out _ _ (hE1.perm (pmT0 ..))) Hones.out hl1 hl2 ?_)
  intro v12 w2 bo12 hb2 hO12 hE2
  clear hE1
  simp only [Act.put, List.setIfInBounds_toArray, List.set_cons_zero, List.set_cons_succ]
  (with_reducible refine' wl_valS ?_ ?_ ?_); rotate_left; exact rfl; exact (v_moveT (.inr rfl) rfl)
  simp only [Act.put, List.setIfInBounds_toArray, List.set_cons_zero, List.set_cons_succ]
  obtain ⟨hl, ⟨-, h0, -⟩ | ⟨q, cap, cs, rfl, h2, h3, h4, h5, rfl⟩⟩ := hO12
  · omega
  have hcap : M.length * 3 ≤ cap * 3 := Nat.mul_le_mul_right _ h2
  have hfi : 0 + i * 3 + 3 ≤ cs.size := by rw [h4]; omega
  have hfk : 0 + k * 3 + 3 ≤ cs.size := by rw [h4]; omega
  have hp1 := put_cells (m := mk) h5 hi
  obtain ⟨Z1, hZ1⟩ : ∃ Z, cs.toList.take (0 + i * 3) ++ [.int .i64 mk.fr, .int .i64 mk.to, mk.sl] ++ cs.toList.drop (0 + i * 3 + 3) = Z := ⟨_, rfl⟩
  have hp1' : Z1.take (M.length * 3) = pcells (M.set i mk) := by rw [← hZ1]; exact hp1
  have hZ1l : Z1.length = cap * 3 := by
    rw [← hZ1]
    simp only [List.length_append, List.length_take, List.length_drop, Array.length_toList, List.length_cons, List.length_nil, h4]
    omega
  have hp2 := put_cells (X := Z1) (M := M.set i mk) (i := k) (m := mi) (by rw [List.length_set]; exact hp1') (by rw [List.length_set]; exact hk)
  obtain ⟨Z2, hZ2⟩ : ∃ Z, Z1.toArray.toList.take (0 + k * 3) ++ [.int .i64 mi.fr, .int .i64 mi.to, mi.sl] ++ Z1.toArray.toList.drop (0 + k * 3 + 3) = Z := ⟨_, rfl⟩
  have hp2' : Z2.take (M.length * 3) = pcells ((M.set i mk).set k mi) := by
    rw [← hZ2]
    rw [List.length_set] at hp2
    exact hp2
  have hZ2l : Z2.length = cap * 3 := by
    rw [← hZ2]
    simp only [List.length_append, List.length_take, List.length_drop, List.toList_toArray, List.length_cons, List.length_nil, hZ1l]
    omega
  have hfk2 : 0 + k * 3 + 3 ≤ Z1.toArray.size := by rw [List.size_toArray, hZ1l]; omega
  have hll : ((M.set i mk).set k mi).length = M.length := by rw [List.length_set, List.length_set]
  have hfin : Oz 3 43 ((M.set i mk).set k mi).length (pcells ((M.set i mk).set k mi)) (.slice (some ⟨q, 0, none⟩) M.length cap) [⟨q, 43, Z2.toArray⟩] := by
    rw [hll]
    exact ⟨by rw [pcells_len, hll], .inr ⟨q, cap, _, rfl, h2, h3, by rw [List.size_toArray, hZ2l], by simpa using hp2', rfl⟩⟩
  have HZ1 := Lib.hid hZ1
  have HZ2 := Lib.hid hZ2
  have hEq : Env w0 (⟨q, 43, cs⟩ :: (rnb g (.slice (some ⟨b, off, none⟩) M.length c) most :: (bs ++ R))) w2 := hE2
  clear hE2 hp1 hp1' hp2 hp2' hZ1 hZ2 h5 hl
  repeat ((fail_if_success (with_reducible show wpList _ _ _ (List.cons _ _) _ _)); (fail_if_success (with_reducible show Code.wp _ (Code.region _ _ true) _ _ _)); go_step)
  refine wp_region_B (n := 22) 19 (by kernel_rfl) rfl hEq ?_
  intro w11 hb11 hE11
  clear hEq
  refine wpB_take1 (i := 0) (by kernel_rfl) rfl (by kernel_rfl) (fun _ _ _ h => h) rfl (v_moveT (.inl rfl) rfl) ?_
  simp only [Act.put, List.setIfInBounds_toArray, List.set_cons_zero, List.set_cons_succ]
  refine wpB_take1 (i := 1) (by kernel_rfl) rfl (by kernel_rfl) (fun _ _ _ h => h) rfl (v_moveT (.inl rfl) rfl) ?_
  simp only [Act.put, List.setIfInBounds_toArray, List.set_cons_zero, List.set_cons_succ]
  refine wpB_take1 (i := 4) (by kernel_rfl) rfl (by kernel_rfl) (fun _ _ _ h => h) rfl (v_moveT (.inl rfl) rfl) ?_
  simp only [Act.put, List.setIfInBounds_toArray, List.set_cons_zero, List.set_cons_succ]
  refine wpB_take1 (i := 5) (by kernel_rfl) rfl (by kernel_rfl) (fun _ _ _ h => h) rfl (v_nil rfl rfl) ?_
  simp only [Act.put, List.setIfInBounds_toArray, List.set_cons_zero, List.set_cons_succ]
  refine wpB_take1 (i := 6) (by kernel_rfl) rfl (by kernel_rfl) (fun _ _ _ h => h) rfl (v_field0 (s := 0) rfl rfl Tryd.underlying33 rfl (by kernel_rfl) rfl) ?_
  simp only [Act.put, List.setIfInBounds_toArray, List.set_cons_zero, List.set_cons_succ]
  refine wpB_take1 (i := 7) (by kernel_rfl) rfl (by kernel_rfl) (fun _ _ _ h => h) rfl (v_cellB (v := .slice (some ⟨b, off, none⟩) M.length c) (i := 1) hE11 rfl rfl rfl Tryd.underlying31 rfl rfl) ?_
  simp only [Act.put, List.setIfInBounds_toArray, List.set_cons_zero, List.set_cons_succ]
  refine wpB_take1 (i := 8) (by kernel_rfl) rfl (by kernel_rfl) (fun _ _ _ h => h) rfl (v_moveT (.inl rfl) rfl) ?_
  simp only [Act.put, List.setIfInBounds_toArray, List.set_cons_zero, List.set_cons_succ]
  refine wpB_take1 (i := 9) (by kernel_rfl) rfl (by kernel_rfl) (fun _ _ _ h => h) rfl (v_indexSs (s := 3) rfl rfl rfl Tryd.underlying31 (by kernel_rfl) hk) ?_
  simp only [Act.put, List.setIfInBounds_toArray, List.set_cons_zero, List.set_cons_succ]
  refine wpB_take1 (i := 10) (by kernel_rfl) rfl (by kernel_rfl) (fun _ _ _ h => h) rfl (v_loadMid (cs := #[.int .i64 mk.fr, .int .i64 mk.to, mk.sl]) rfl rfl (Hrank.out _ _ (hE11.perm (pmT0 ..))) Tryd.underlying43 rfl (by kernel_rfl)) ?_
  simp only [Act.put, List.setIfInBounds_toArray, List.set_cons_zero, List.set_cons_succ]
  refine wpB_take1 (i := 11) (by kernel_rfl) rfl (by kernel_rfl) (fun _ _ _ h => h) rfl (v_moveT (.inl rfl) rfl) ?_
  simp only [Act.put, List.setIfInBounds_toArray, List.set_cons_zero, List.set_cons_succ]
  refine wpB_take1 (i := 12) (by kernel_rfl) rfl (by kernel_rfl) (fun _ _ _ h => h) rfl (v_nil rfl rfl) ?_
  simp only [Act.put, List.setIfInBounds_toArray, List.set_cons_zero, List.set_cons_succ]
  refine wpB_take1 (i := 13) (by kernel_rfl) rfl (by kernel_rfl) (fun _ _ _ h => h) rfl (v_field0 (s := 0) rfl rfl Tryd.underlying33 rfl (by kernel_rfl) rfl) ?_
  simp only [Act.put, List.setIfInBounds_toArray, List.set_cons_zero, List.set_cons_succ]
  refine wpB_take1 (i := 14) (by kernel_rfl) rfl (by kernel_rfl) (fun _ _ _ h => h) rfl (v_cellB (v := .slice (some ⟨b, off, none⟩) M.length c) (i := 1) hE11 rfl rfl rfl Tryd.underlying31 rfl rfl) ?_
  simp only [Act.put, List.setIfInBounds_toArray, List.set_cons_zero, List.set_cons_succ]
  refine wpB_take1 (i := 15) (by kernel_rfl) rfl (by kernel_rfl) (fun _ _ _ h => h) rfl (v_moveT (.inl rfl) rfl) ?_
  simp only [Act.put, List.setIfInBounds_toArray, List.set_cons_zero, List.set_cons_succ]
  refine wpB_take1 (i := 16) (by kernel_rfl) rfl (by kernel_rfl) (fun _ _ _ h => h) rfl (v_indexSs (s := 3) rfl rfl rfl Tryd.underlying31 (by kernel_rfl) hi) ?_
  simp only [Act.put, List.setIfInBounds_toArray, List.set_cons_zero, List.set_cons_succ]
  refine wpB_take1 (i := 17) (by kernel_rfl) rfl (by kernel_rfl) (fun _ _ _ h => h) rfl (v_loadMid (cs := #[.int .i64 mi.fr, .int .i64 mi.to, mi.sl]) rfl rfl (Hrani.out _ _ (hE11.perm (pmT0 ..))) Tryd.underlying43 rfl (by kernel_rfl)) ?_
  simp only [Act.put, List.setIfInBounds_toArray, List.set_cons_zero, List.set_cons_succ]
  refine wpB_take1 (i := 18) (by kernel_rfl) rfl (by kernel_rfl) (fun _ _ _ h => h) rfl (v_indexSs (s := 3) rfl rfl rfl Tryd.underlying31 (by kernel_rfl) hi) ?_
  simp only [Act.put, List.setIfInBounds_toArray, List.set_cons_zero, List.set_cons_succ]
  refine wpB_takeU (i := 2) rfl (by kernel_rfl) (fun _ _ _ h => h) rfl (fun _ => (v_moveT (.inl rfl) rfl)) ?_
  simp only [Act.put, List.setIfInBounds_toArray, List.set_cons_zero, List.set_cons_succ]
  refine wpB_takeU (i := 3) rfl (by kernel_rfl) (fun _ _ _ h => h) rfl (fun _ => (v_moveT (.inl rfl) rfl)) ?_
  simp only [Act.put, List.setIfInBounds_toArray, List.set_cons_zero, List.set_cons_succ]
  refine wpB_step (i := 19) (by kernel_rfl) rfl (st_putCut (i := 0) (Y := [.int .i64 mk.fr, .int .i64 mk.to, mk.sl]) (Z := Z1) hE11 rfl rfl rfl rfl rfl (by kernel_rfl) rfl hfi honek HZ1.out ?_)
  intro w12 hE12
  clear hE11
  simp only [List.set_cons_zero] at hE12
  refine ⟨fun h => absurd h (by decide), ?_⟩
  simp only [Act.put, List.setIfInBounds_toArray, List.set_cons_zero, List.set_cons_succ]
  refine wpB_takeU (i := 20) rfl (by kernel_rfl) (fun _ _ _ h => h) rfl (fun _ => (v_indexSs (s := 3) rfl rfl rfl Tryd.underlying31 (by kernel_rfl) hk)) ?_
  simp only [Act.put, List.setIfInBounds_toArray, List.set_cons_zero, List.set_cons_succ]
  refine wpB_step (i := 21) (by kernel_rfl) rfl (st_putCut (i := 0) (Y := [.int .i64 mi.fr, .int .i64 mi.to, mi.sl]) (Z := Z2) hE12 rfl rfl rfl rfl rfl (by kernel_rfl) rfl hfk2 honei HZ2.out ?_)
  intro w13 hE13
  clear hE12
  simp only [List.set_cons_zero] at hE13
  refine ⟨fun h => absurd h (by decide), ?_⟩
  simp only [Act.put, List.setIfInBounds_toArray, List.set_cons_zero, List.set_cons_succ]
  refine wpB_done (by kernel_rfl) ?_ _
  repeat ((fail_if_success (with_reducible show wpList _ _ _ (List.cons _ _) _ _)); (fail_if_success (with_reducible show Code.wp _ (Code.region _ _ true) _ _ _)); go_step)
  (with_reducible refine' wl_valS ?_ ?_ ?_); rotate_left; exact rfl; exact (v_moveT (.inl rfl) rfl)
  simp only [Act.put, List.setIfInBounds_toArray, List.set_cons_zero, List.set_cons_succ]
  (with_reducible refine' wl_valS ?_ ?_ ?_); rotate_left; exact rfl; exact (v_moveT (.inl rfl) rfl)
  simp only [Act.put, List.setIfInBounds_toArray, List.set_cons_zero, List.set_cons_succ]
  (with_reducible refine' wl_valS ?_ ?_ ?_); rotate_left; exact rfl; exact (v_nil rfl rfl)
  simp only [Act.put, List.setIfInBounds_toArray, List.set_cons_zero, List.set_cons_succ]
  (with_reducible refine' wl_valS ?_ ?_ ?_); rotate_left; exact rfl; exact (v_field0 (s := 0) rfl rfl Tryd.underlying33 rfl (by kernel_rfl) rfl)
  simp only [Act.put, List.setIfInBounds_toArray, List.set_cons_zero, List.set_cons_succ]
  refine wl_step (st_put (v := .slice (some ⟨q, 0, none⟩) M.length cap) (i := 1) hE13 rfl rfl rfl rfl rfl (by kernel_rfl) rfl rfl (show 0 < 2 by decide) ?_)
  intro w14 hE14
  clear hE13
  simp only [List.setIfInBounds_toArray, List.set_cons_zero, List.set_cons_succ] at hE14
  simp only [Act.put, List.setIfInBounds_toArray, List.set_cons_zero, List.set_cons_succ]
  repeat ((fail_if_success (with_reducible show wpList _ _ _ (List.cons _ _) _ _)); (fail_if_success (with_reducible show Code.wp _ (Code.region _ _ true) _ _ _)); (fail_if_success (with_reducible show Code.wp _ (Code.cond _ _ _) _ _ _)); go_step)
  go_returns
  exact ⟨rfl, _, _, hfin, ((hE14).sub (List.Sublist.cons_cons _ (List.Sublist.cons_cons _ (List.sublist_append_right _ _)))).perm (pmW1 ..)⟩
end Go.Proofs.YtnbbehgcnodfbaaDoor
