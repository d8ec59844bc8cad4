/-
  Layer 28: a packet doubled; two packets changed about.
-/
import Derived.Test.YtnbbehgcnodfbaaDoorNetE
namespace Go.Proofs.YtnbbehgcnodfbaaDoor
open Go.RowKit
set_option maxRecDepth 100000
set_option linter.unusedVariables false
set_option linter.unusedSimpArgs false

/-- The cells when element i is another: plain. -/
theorem put_cells {X : List Value} {M : List PV} {i : Nat} {m : PV} (hX : X.take (M.length * 3) = pcells M) (hi : i < M.length) : (X.take (0 + i * 3) ++ m.cells ++ X.drop (0 + i * 3 + 3)).take (M.length * 3) = pcells (M.set i m) := by
  have h1 : X.take (0 + i * 3) = pcells (M.take i) := by rw [Nat.zero_add, ← pcells_take, ← hX, List.take_take, Nat.min_eq_left (by omega)]
  have h2 : (pcells (M.take i)).length = i * 3 := by rw [pcells_len, List.length_take, Nat.min_eq_left (by omega)]
  have h3 : (X.drop (0 + i * 3 + 3)).take (M.length * 3 - i * 3 - 3) = pcells (M.drop (i + 1)) := by
    rw [← pcells_drop, ← hX, List.drop_take, show (i + 1) * 3 = 0 + i * 3 + 3 by omega, show M.length * 3 - (0 + i * 3 + 3) = M.length * 3 - i * 3 - 3 by omega]
  have hA : (pcells (M.take i)).take (M.length * 3) = pcells (M.take i) := List.take_of_length_le (by rw [h2]; omega)
  have hB : m.cells.take (M.length * 3 - i * 3) = m.cells := List.take_of_length_le (by rw [PV.len]; omega)
  rw [h1, List.append_assoc, List.take_append, h2, List.take_append, PV.len, hA, hB, h3, List.set_eq_take_append_cons_drop, if_pos hi, pcells_append, pcells_cons]
theorem cells_at {X : List Value} {M : List PV} {i : Nat} {m : PV} (hX : X.take (M.length * 3) = pcells M) (hm : M[i]? = some m) : (X.drop (0 + i * 3)).take 3 = [.int .i64 m.fr, .int .i64 m.to, m.sl] := by
  have hi := (List.getElem?_eq_some_iff.1 hm).1
  have h := pcells_at hm
  rw [← hX, List.drop_take, List.take_take, Nat.min_eq_left (by omega)] at h
  rw [Nat.zero_add]
  exact h

set_option maxHeartbeats 16000000 in
theorem swapF_any {w0 w : World} {g gA gB gC most i k : Nat} {M : List PV} {mi mk : PV} {R bs : List Blk} {v : Value} (hO : Oz 3 43 M.length (pcells M) v bs) (hS : ∀ m ∈ M, Sees w0 R m) (hmi : M[i]? = some mi) (hmk : M[k]? = some mk) (hM : M.length < 1000000)
    (hE : Env w0 (⟨gC, 3, #[.int .i64 (k : Int)]⟩ :: (⟨gB, 3, #[.int .i64 (i : Int)]⟩ :: (⟨gA, 25, #[.pointer (some ⟨g, 0, none⟩)]⟩ :: (⟨g, 56, #[v, .int .i64 (most : Int)]⟩ :: (bs ++ R))))) w) :
    Calls Tryd.prog 32 #[.pointer (some ⟨gA, 0, none⟩), .pointer (some ⟨gC, 0, none⟩), .pointer (some ⟨gB, 0, none⟩)] w fun e w' => e = .returned .nilIface ∧ ∃ bo, Oz 3 43 ((M.set i mk).set k mi).length (pcells ((M.set i mk).set k mi)) v bo ∧
      Env w0 (⟨gC, 3, #[.int .i64 (k : Int)]⟩ :: (⟨gB, 3, #[.int .i64 (i : Int)]⟩ :: (⟨gA, 25, #[.pointer (some ⟨g, 0, none⟩)]⟩ :: (⟨g, 56, #[v, .int .i64 (most : Int)]⟩ :: (bo ++ R))))) w' := by
  have hi : i < M.length := (List.getElem?_eq_some_iff.1 hmi).1
  have hk : k < M.length := (List.getElem?_eq_some_iff.1 hmk).1
  have hER : Env w0 R w := hE.sub (by
    refine List.Sublist.cons _ (List.Sublist.cons _ (List.Sublist.cons _ (List.Sublist.cons _ ?_)))
    exact List.sublist_append_right _ _)
  obtain ⟨hl, ⟨-, h0, -⟩ | ⟨b, cap, cs, rfl, h2, h3, h4, h5, rfl⟩⟩ := hO
  · omega
  have three : ∀ m ∈ M, ([.int .i64 m.fr, .int .i64 m.to, m.sl] : List Value).all (·.oneCell') = true := fun m hm => by
    have := (hS m hm).one hER
    simp [this]
    exact ⟨rfl, rfl⟩
  have honei := three mi (List.mem_of_getElem? hmi)
  have honek := three mk (List.mem_of_getElem? hmk)
  have hci := cells_at h5 hmi
  have hck := cells_at h5 hmk
  have hcap : M.length * 3 ≤ cap * 3 := Nat.mul_le_mul_right _ h2
  have hfi : 0 + i * 3 + 3 ≤ cs.size := by rw [h4]; omega
  have hfk : 0 + k * 3 + 3 ≤ cs.size := by rw [h4]; omega
  have hp1 := put_cells (m := mk) h5 hi
  obtain ⟨Z1, hZ1⟩ : ∃ Z, cs.toList.take (0 + i * 3) ++ [.int .i64 mk.fr, .int .i64 mk.to, mk.sl] ++ cs.toList.drop (0 + i * 3 + 3) = Z := ⟨_, rfl⟩
  have hp1' : Z1.take (M.length * 3) = pcells (M.set i mk) := by rw [← hZ1]; exact hp1
  have hZ1l : Z1.length = cap * 3 := by
    rw [← hZ1]
    simp only [List.length_append, List.length_take, List.length_drop, Array.length_toList, List.length_cons, List.length_nil, h4]
    omega
  have hp2 := put_cells (X := Z1) (M := M.set i mk) (i := k) (m := mi) (by rw [List.length_set]; exact hp1') (by rw [List.length_set]; exact hk)
  obtain ⟨Z2, hZ2⟩ : ∃ Z, Z1.toArray.toList.take (0 + k * 3) ++ [.int .i64 mi.fr, .int .i64 mi.to, mi.sl] ++ Z1.toArray.toList.drop (0 + k * 3 + 3) = Z := ⟨_, rfl⟩
  have hp2' : Z2.take (M.length * 3) = pcells ((M.set i mk).set k mi) := by
    rw [← hZ2]
    rw [List.length_set] at hp2
    exact hp2
  have hZ2l : Z2.length = cap * 3 := by
    rw [← hZ2]
    simp only [List.length_append, List.length_take, List.length_drop, List.toList_toArray, List.length_cons, List.length_nil, hZ1l]
    omega
  have hfk2 : 0 + k * 3 + 3 ≤ Z1.toArray.size := by rw [List.size_toArray, hZ1l]; omega
  have hll : ((M.set i mk).set k mi).length = M.length := by rw [List.length_set, List.length_set]
  have hfin : ∀ w', Env w0 (⟨gC, 3, #[.int .i64 (k : Int)]⟩ :: (⟨gB, 3, #[.int .i64 (i : Int)]⟩ :: (⟨gA, 25, #[.pointer (some ⟨g, 0, none⟩)]⟩ :: (⟨g, 56, #[.slice (some ⟨b, 0, none⟩) M.length cap, .int .i64 (most : Int)]⟩ :: (⟨b, 43, Z2.toArray⟩ :: R))))) w' →
      Ending.returned Value.nilIface = .returned .nilIface ∧ ∃ bo, Oz 3 43 ((M.set i mk).set k mi).length (pcells ((M.set i mk).set k mi)) (.slice (some ⟨b, 0, none⟩) M.length cap) bo ∧
      Env w0 (⟨gC, 3, #[.int .i64 (k : Int)]⟩ :: (⟨gB, 3, #[.int .i64 (i : Int)]⟩ :: (⟨gA, 25, #[.pointer (some ⟨g, 0, none⟩)]⟩ :: (⟨g, 56, #[.slice (some ⟨b, 0, none⟩) M.length cap, .int .i64 (most : Int)]⟩ :: (bo ++ R))))) w' := fun w' h => by
    rw [hll]
    exact ⟨rfl, [⟨b, 43, Z2.toArray⟩], ⟨by rw [pcells_len, hll], .inr ⟨b, cap, _, rfl, h2, h3, by rw [List.size_toArray, hZ2l], by simpa using hp2', rfl⟩⟩, h⟩
  have Hci := Lib.hid hci
  have Hck := Lib.hid hck
  have HZ1 := Lib.hid hZ1
  have HZ2 := Lib.hid hZ2
  have HIs : Hid (∀ (w' : World) (B : Blk), Env w0 (⟨gC, 3, #[.int .i64 (k : Int)]⟩ :: (⟨gB, 3, #[.int .i64 (i : Int)]⟩ :: (⟨gA, 25, #[.pointer (some ⟨g, 0, none⟩)]⟩ :: (⟨g, 56, #[.slice (some ⟨b, 0, none⟩) M.length cap, .int .i64 (most : Int)]⟩ :: (B :: R))))) w' →
      Env w0 (⟨gC, 3, #[.int .i64 (k : Int)]⟩ :: (⟨gB, 3, #[.int .i64 (i : Int)]⟩ :: (⟨gA, 25, #[.pointer (some ⟨g, 0, none⟩)]⟩ :: (⟨g, 56, #[.slice (some ⟨b, 0, none⟩) M.length cap, .int .i64 (most : Int)]⟩ :: R)))) w') := Lib.hid (fun w' B h => h.sub (List.Sublist.cons_cons _ (List.Sublist.cons_cons _ (List.Sublist.cons_cons _ (List.Sublist.cons_cons _ (List.sublist_cons_self _ _))))))
  have hE0 : Env w0 (⟨gC, 3, #[.int .i64 (k : Int)]⟩ :: (⟨gB, 3, #[.int .i64 (i : Int)]⟩ :: (⟨gA, 25, #[.pointer (some ⟨g, 0, none⟩)]⟩ :: (⟨g, 56, #[.slice (some ⟨b, 0, none⟩) M.length cap, .int .i64 (most : Int)]⟩ :: (⟨b, 43, cs⟩ :: R))))) w := hE
  clear hS hmi hmk hE hER hl three hci hck hp1 hp1' hp2 hp2' hZ1 hZ2 h5
  go_enter Tryd.func32, Tryd.ntmps32
  repeat ((fail_if_success (with_reducible show wpList _ _ _ (List.cons _ _) _ _)); (fail_if_success (with_reducible show Code.wp _ (Code.region _ _ true) _ _ _)); go_step)
  refine wl_step (st_val rfl (v_moveC (.inr rfl)) ?_)
  simp only [Act.put, List.setIfInBounds_toArray, List.set_cons_zero, List.set_cons_succ]
  repeat ((fail_if_success (with_reducible show wpList _ _ _ (List.cons _ _) _ _)); (fail_if_success (with_reducible show Code.wp _ (Code.region _ _ true) _ _ _)); (fail_if_success (with_reducible show Code.wp _ (Code.cond _ _ _) _ _ _)); go_step)
  refine wp_region_I (n := 28) (fun w' => Env w0 (⟨gC, 3, #[.int .i64 (k : Int)]⟩ :: (⟨gB, 3, #[.int .i64 (i : Int)]⟩ :: (⟨gA, 25, #[.pointer (some ⟨g, 0, none⟩)]⟩ :: (⟨g, 56, #[.slice (some ⟨b, 0, none⟩) M.length cap, .int .i64 (most : Int)]⟩ :: R)))) w') 27 (by kernel_rfl) rfl hE0 ?_
  intro w1 hb1 hE1
  clear hE0
  have hI := HIs.out _ _ hE1
  refine wpI_take (i := 0) (by kernel_rfl) rfl (by kernel_rfl) (fun _ _ _ h => h) rfl hI (fun w9 hK => (v_cellB (v := .pointer (some ⟨g, 0, none⟩)) (i := 2) hK rfl rfl rfl Tryd.underlying25 rfl rfl)) ?_
  simp only [Act.put, List.setIfInBounds_toArray, List.set_cons_zero, List.set_cons_succ]
  refine wpI_take (i := 1) (by kernel_rfl) rfl (by kernel_rfl) (fun _ _ _ h => h) rfl hI (fun w9 hK => (v_nil rfl rfl)) ?_
  simp only [Act.put, List.setIfInBounds_toArray, List.set_cons_zero, List.set_cons_succ]
  refine wpI_take (i := 2) (by kernel_rfl) rfl (by kernel_rfl) (fun _ _ _ h => h) rfl hI (fun w9 hK => (v_field0 (s := 0) rfl rfl Tryd.underlying56 rfl (by kernel_rfl) rfl)) ?_
  simp only [Act.put, List.setIfInBounds_toArray, List.set_cons_zero, List.set_cons_succ]
  refine wpI_take (i := 3) (by kernel_rfl) rfl (by kernel_rfl) (fun _ _ _ h => h) rfl hI (fun w9 hK => (v_cellB (v := .slice (some ⟨b, 0, none⟩) M.length cap) (i := 3) hK rfl rfl rfl Tryd.underlying31 rfl rfl)) ?_
  simp only [Act.put, List.setIfInBounds_toArray, List.set_cons_zero, List.set_cons_succ]
  refine wpI_take (i := 4) (by kernel_rfl) rfl (by kernel_rfl) (fun _ _ _ h => h) rfl hI (fun w9 hK => (v_cellB (v := .int .i64 (i : Int)) (i := 1) hK rfl rfl rfl Tryd.underlying3 rfl rfl)) ?_
  simp only [Act.put, List.setIfInBounds_toArray, List.set_cons_zero, List.set_cons_succ]
  refine wpI_take (i := 5) (by kernel_rfl) rfl (by kernel_rfl) (fun _ _ _ h => h) rfl hI (fun w9 hK => (v_cellB (v := .pointer (some ⟨g, 0, none⟩)) (i := 2) hK rfl rfl rfl Tryd.underlying25 rfl rfl)) ?_
  simp only [Act.put, List.setIfInBounds_toArray, List.set_cons_zero, List.set_cons_succ]
  refine wpI_take (i := 6) (by kernel_rfl) rfl (by kernel_rfl) (fun _ _ _ h => h) rfl hI (fun w9 hK => (v_nil rfl rfl)) ?_
  simp only [Act.put, List.setIfInBounds_toArray, List.set_cons_zero, List.set_cons_succ]
  refine wpI_take (i := 7) (by kernel_rfl) rfl (by kernel_rfl) (fun _ _ _ h => h) rfl hI (fun w9 hK => (v_field0 (s := 0) rfl rfl Tryd.underlying56 rfl (by kernel_rfl) rfl)) ?_
  simp only [Act.put, List.setIfInBounds_toArray, List.set_cons_zero, List.set_cons_succ]
  refine wpI_take (i := 8) (by kernel_rfl) rfl (by kernel_rfl) (fun _ _ _ h => h) rfl hI (fun w9 hK => (v_cellB (v := .slice (some ⟨b, 0, none⟩) M.length cap) (i := 3) hK rfl rfl rfl Tryd.underlying31 rfl rfl)) ?_
  simp only [Act.put, List.setIfInBounds_toArray, List.set_cons_zero, List.set_cons_succ]
  refine wpI_take (i := 9) (by kernel_rfl) rfl (by kernel_rfl) (fun _ _ _ h => h) rfl hI (fun w9 hK => (v_cellB (v := .int .i64 (k : Int)) (i := 0) hK rfl rfl rfl Tryd.underlying3 rfl rfl)) ?_
  simp only [Act.put, List.setIfInBounds_toArray, List.set_cons_zero, List.set_cons_succ]
  refine wpI_take (i := 10) (by kernel_rfl) rfl (by kernel_rfl) (fun _ _ _ h => h) rfl hI (fun w9 hK => (v_cellB (v := .pointer (some ⟨g, 0, none⟩)) (i := 2) hK rfl rfl rfl Tryd.underlying25 rfl rfl)) ?_
  simp only [Act.put, List.setIfInBounds_toArray, List.set_cons_zero, List.set_cons_succ]
  refine wpI_take (i := 11) (by kernel_rfl) rfl (by kernel_rfl) (fun _ _ _ h => h) rfl hI (fun w9 hK => (v_nil rfl rfl)) ?_
  simp only [Act.put, List.setIfInBounds_toArray, List.set_cons_zero, List.set_cons_succ]
  refine wpI_take (i := 12) (by kernel_rfl) rfl (by kernel_rfl) (fun _ _ _ h => h) rfl hI (fun w9 hK => (v_field0 (s := 0) rfl rfl Tryd.underlying56 rfl (by kernel_rfl) rfl)) ?_
  simp only [Act.put, List.setIfInBounds_toArray, List.set_cons_zero, List.set_cons_succ]
  refine wpI_take (i := 13) (by kernel_rfl) rfl (by kernel_rfl) (fun _ _ _ h => h) rfl hI (fun w9 hK => (v_cellB (v := .slice (some ⟨b, 0, none⟩) M.length cap) (i := 3) hK rfl rfl rfl Tryd.underlying31 rfl rfl)) ?_
  simp only [Act.put, List.setIfInBounds_toArray, List.set_cons_zero, List.set_cons_succ]
  refine wpI_take (i := 14) (by kernel_rfl) rfl (by kernel_rfl) (fun _ _ _ h => h) rfl hI (fun w9 hK => (v_cellB (v := .int .i64 (k : Int)) (i := 0) hK rfl rfl rfl Tryd.underlying3 rfl rfl)) ?_
  simp only [Act.put, List.setIfInBounds_toArray, List.set_cons_zero, List.set_cons_succ]
  refine wpI_take (i := 15) (by kernel_rfl) rfl (by kernel_rfl) (fun _ _ _ h => h) rfl hI (fun w9 hK => (v_indexSs (s := 3) rfl rfl rfl Tryd.underlying31 (by kernel_rfl) hk)) ?_
  simp only [Act.put, List.setIfInBounds_toArray, List.set_cons_zero, List.set_cons_succ]
  refine wpI_take (i := 17) (by kernel_rfl) rfl (by kernel_rfl) (fun _ _ _ h => h) rfl hI (fun w9 hK => (v_cellB (v := .pointer (some ⟨g, 0, none⟩)) (i := 2) hK rfl rfl rfl Tryd.underlying25 rfl rfl)) ?_
  simp only [Act.put, List.setIfInBounds_toArray, List.set_cons_zero, List.set_cons_succ]
  refine wpI_take (i := 18) (by kernel_rfl) rfl (by kernel_rfl) (fun _ _ _ h => h) rfl hI (fun w9 hK => (v_nil rfl rfl)) ?_
  simp only [Act.put, List.setIfInBounds_toArray, List.set_cons_zero, List.set_cons_succ]
  refine wpI_take (i := 19) (by kernel_rfl) rfl (by kernel_rfl) (fun _ _ _ h => h) rfl hI (fun w9 hK => (v_field0 (s := 0) rfl rfl Tryd.underlying56 rfl (by kernel_rfl) rfl)) ?_
  simp only [Act.put, List.setIfInBounds_toArray, List.set_cons_zero, List.set_cons_succ]
  refine wpI_take (i := 20) (by kernel_rfl) rfl (by kernel_rfl) (fun _ _ _ h => h) rfl hI (fun w9 hK => (v_cellB (v := .slice (some ⟨b, 0, none⟩) M.length cap) (i := 3) hK rfl rfl rfl Tryd.underlying31 rfl rfl)) ?_
  simp only [Act.put, List.setIfInBounds_toArray, List.set_cons_zero, List.set_cons_succ]
  refine wpI_take (i := 21) (by kernel_rfl) rfl (by kernel_rfl) (fun _ _ _ h => h) rfl hI (fun w9 hK => (v_cellB (v := .int .i64 (i : Int)) (i := 1) hK rfl rfl rfl Tryd.underlying3 rfl rfl)) ?_
  simp only [Act.put, List.setIfInBounds_toArray, List.set_cons_zero, List.set_cons_succ]
  refine wpI_take (i := 22) (by kernel_rfl) rfl (by kernel_rfl) (fun _ _ _ h => h) rfl hI (fun w9 hK => (v_indexSs (s := 3) rfl rfl rfl Tryd.underlying31 (by kernel_rfl) hi)) ?_
  simp only [Act.put, List.setIfInBounds_toArray, List.set_cons_zero, List.set_cons_succ]
  refine wpI_step2 (i := 16) (j := 23) (by kernel_rfl) rfl rfl ?brA ?brB
  case brA =>
    refine st_val rfl (v_loadCut (i := 4) (Y := [.int .i64 mk.fr, .int .i64 mk.to, mk.sl]) Hck.out hE1 rfl rfl rfl Tryd.underlying43 rfl (by kernel_rfl) hfk) ?_
    refine ⟨fun _ => hI, ?_⟩
    simp only [Act.put, List.setIfInBounds_toArray, List.set_cons_zero, List.set_cons_succ]
    refine wpI_step (i := 23) (by kernel_rfl) rfl (st_val rfl (v_loadCut (i := 4) (Y := [.int .i64 mi.fr, .int .i64 mi.to, mi.sl]) Hci.out hE1 rfl rfl rfl Tryd.underlying43 rfl (by kernel_rfl) hfi) ?_)
    refine ⟨fun _ => hI, ?_⟩
    simp only [Act.put, List.setIfInBounds_toArray, List.set_cons_zero, List.set_cons_succ]
    refine wpI_step (i := 24) (by kernel_rfl) rfl (st_val rfl (v_indexSs (s := 3) rfl rfl rfl Tryd.underlying31 (by kernel_rfl) hi) ?_)
    refine ⟨fun _ => hI, ?_⟩
    simp only [Act.put, List.setIfInBounds_toArray, List.set_cons_zero, List.set_cons_succ]
    refine wpI_step (i := 25) (by kernel_rfl) rfl (st_putCut (i := 4) (Y := [.int .i64 mk.fr, .int .i64 mk.to, mk.sl]) (Z := Z1) hE1 rfl rfl rfl rfl rfl (by kernel_rfl) rfl hfi honek HZ1.out ?_)
    intro w2 hE2
    clear hE1
    simp only [List.set_cons_zero, List.set_cons_succ] at hE2
    have hI2 := HIs.out _ _ hE2
    refine ⟨fun _ => hI2, ?_⟩
    simp only [Act.put, List.setIfInBounds_toArray, List.set_cons_zero, List.set_cons_succ]
    refine wpI_step (i := 26) (by kernel_rfl) rfl (st_val rfl (v_indexSs (s := 3) rfl rfl rfl Tryd.underlying31 (by kernel_rfl) hk) ?_)
    refine ⟨fun _ => hI2, ?_⟩
    simp only [Act.put, List.setIfInBounds_toArray, List.set_cons_zero, List.set_cons_succ]
    refine wpI_step (i := 27) (by kernel_rfl) rfl (st_putCut (i := 4) (Y := [.int .i64 mi.fr, .int .i64 mi.to, mi.sl]) (Z := Z2) hE2 rfl rfl rfl rfl rfl (by kernel_rfl) rfl hfk2 honei HZ2.out ?_)
    intro w3 hE3
    clear hE2
    simp only [List.set_cons_zero, List.set_cons_succ] at hE3
    refine ⟨fun h => absurd h (by decide), ?_⟩
    simp only [Act.put, List.setIfInBounds_toArray, List.set_cons_zero, List.set_cons_succ]
    refine wpI_done (by kernel_rfl) ?_ _
    repeat ((fail_if_success (with_reducible show wpList _ _ _ (List.cons _ _) _ _)); (fail_if_success (with_reducible show Code.wp _ (Code.region _ _ true) _ _ _)); go_step)
    refine wl_step (st_val rfl (v_moveC (.inr rfl)) ?_)
    simp only [Act.put, List.setIfInBounds_toArray, List.set_cons_zero, List.set_cons_succ]
    repeat ((fail_if_success (with_reducible show wpList _ _ _ (List.cons _ _) _ _)); (fail_if_success (with_reducible show Code.wp _ (Code.region _ _ true) _ _ _)); (fail_if_success (with_reducible show Code.wp _ (Code.cond _ _ _) _ _ _)); go_step)
    go_returns
    exact hfin _ hE3
  case brB =>
    refine st_val rfl (v_loadCut (i := 4) (Y := [.int .i64 mi.fr, .int .i64 mi.to, mi.sl]) Hci.out hE1 rfl rfl rfl Tryd.underlying43 rfl (by kernel_rfl) hfi) ?_
    refine ⟨fun _ => hI, ?_⟩
    simp only [Act.put, List.setIfInBounds_toArray, List.set_cons_zero, List.set_cons_succ]
    refine wpI_step (i := 16) (by kernel_rfl) rfl (st_val rfl (v_loadCut (i := 4) (Y := [.int .i64 mk.fr, .int .i64 mk.to, mk.sl]) Hck.out hE1 rfl rfl rfl Tryd.underlying43 rfl (by kernel_rfl) hfk) ?_)
    refine ⟨fun _ => hI, ?_⟩
    simp only [Act.put, List.setIfInBounds_toArray, List.set_cons_zero, List.set_cons_succ]
    refine wpI_step (i := 24) (by kernel_rfl) rfl (st_val rfl (v_indexSs (s := 3) rfl rfl rfl Tryd.underlying31 (by kernel_rfl) hi) ?_)
    refine ⟨fun _ => hI, ?_⟩
    simp only [Act.put, List.setIfInBounds_toArray, List.set_cons_zero, List.set_cons_succ]
    refine wpI_step (i := 25) (by kernel_rfl) rfl (st_putCut (i := 4) (Y := [.int .i64 mk.fr, .int .i64 mk.to, mk.sl]) (Z := Z1) hE1 rfl rfl rfl rfl rfl (by kernel_rfl) rfl hfi honek HZ1.out ?_)
    intro w2 hE2
    clear hE1
    simp only [List.set_cons_zero, List.set_cons_succ] at hE2
    have hI2 := HIs.out _ _ hE2
    refine ⟨fun _ => hI2, ?_⟩
    simp only [Act.put, List.setIfInBounds_toArray, List.set_cons_zero, List.set_cons_succ]
    refine wpI_step (i := 26) (by kernel_rfl) rfl (st_val rfl (v_indexSs (s := 3) rfl rfl rfl Tryd.underlying31 (by kernel_rfl) hk) ?_)
    refine ⟨fun _ => hI2, ?_⟩
    simp only [Act.put, List.setIfInBounds_toArray, List.set_cons_zero, List.set_cons_succ]
    refine wpI_step (i := 27) (by kernel_rfl) rfl (st_putCut (i := 4) (Y := [.int .i64 mi.fr, .int .i64 mi.to, mi.sl]) (Z := Z2) hE2 rfl rfl rfl rfl rfl (by kernel_rfl) rfl hfk2 honei HZ2.out ?_)
    intro w3 hE3
    clear hE2
    simp only [List.set_cons_zero, List.set_cons_succ] at hE3
    refine ⟨fun h => absurd h (by decide), ?_⟩
    simp only [Act.put, List.setIfInBounds_toArray, List.set_cons_zero, List.set_cons_succ]
    refine wpI_done (by kernel_rfl) ?_ _
    repeat ((fail_if_success (with_reducible show wpList _ _ _ (List.cons _ _) _ _)); (fail_if_success (with_reducible show Code.wp _ (Code.region _ _ true) _ _ _)); go_step)
    refine wl_step (st_val rfl (v_moveC (.inr rfl)) ?_)
    simp only [Act.put, List.setIfInBounds_toArray, List.set_cons_zero, List.set_cons_succ]
    repeat ((fail_if_success (with_reducible show wpList _ _ _ (List.cons _ _) _ _)); (fail_if_success (with_reducible show Code.wp _ (Code.region _ _ true) _ _ _)); (fail_if_success (with_reducible show Code.wp _ (Code.cond _ _ _) _ _ _)); go_step)
    go_returns
    exact hfin _ hE3

set_option maxHeartbeats 8000000 in
theorem swapG_any {w0 w : World} {g gA gB gC most i k : Nat} {M : List PV} {mi mk : PV} {R bs : List Blk} {v : Value} (hO : Oz 3 43 M.length (pcells M) v bs) (hS : ∀ m ∈ M, Sees w0 R m) (hmi : M[i]? = some mi) (hmk : M[k]? = some mk) (hM : M.length < 1000000)
    (hE : Env w0 (⟨gC, 3, #[.int .i64 (k : Int)]⟩ :: (⟨gB, 3, #[.int .i64 (i : Int)]⟩ :: (⟨gA, 25, #[.pointer (some ⟨g, 0, none⟩)]⟩ :: (⟨g, 56, #[v, .int .i64 (most : Int)]⟩ :: (bs ++ R))))) w) :
    Calls Tryd.prog 31 #[.pointer (some ⟨gA, 0, none⟩), .pointer (some ⟨gC, 0, none⟩), .pointer (some ⟨gB, 0, none⟩)] w fun e w' => e = .returned .nilIface ∧ ∃ bo, Oz 3 43 ((M.set i mk).set k mi).length (pcells ((M.set i mk).set k mi)) v bo ∧
      Env w0 (⟨gC, 3, #[.int .i64 (k : Int)]⟩ :: (⟨gB, 3, #[.int .i64 (i : Int)]⟩ :: (⟨gA, 25, #[.pointer (some ⟨g, 0, none⟩)]⟩ :: (⟨g, 56, #[v, .int .i64 (most : Int)]⟩ :: (bo ++ R))))) w' := by
  have hk : k < M.length := (List.getElem?_eq_some_iff.1 hmk).1
  obtain ⟨p, c, rfl, hc⟩ := hO.len
  have HO := Lib.hid hO
  have HS := Lib.hid hS
  have Hmi := Lib.hid hmi
  have Hmk := Lib.hid hmk
  have hE0 := hE
  clear hO hS hE hmi hmk
  go_enter Tryd.func31, Tryd.ntmps31
  repeat ((fail_if_success (with_reducible show wpList _ _ _ (List.cons _ _) _ _)); (fail_if_success (with_reducible show Code.wp _ (Code.region _ _ true) _ _ _)); go_step)
  refine wl_step (st_val rfl (v_moveC (.inr rfl)) ?_)
  simp only [Act.put, List.setIfInBounds_toArray, List.set_cons_zero, List.set_cons_succ]
  repeat ((fail_if_success (with_reducible show wpList _ _ _ (List.cons _ _) _ _)); (fail_if_success (with_reducible show Code.wp _ (Code.region _ _ true) _ _ _)); go_step)
  refine wl_step (st_val rfl (v_cellB (v := .pointer (some ⟨g, 0, none⟩)) (i := 2) hE0 rfl rfl rfl Tryd.underlying25 rfl rfl) ?_)
  simp only [Act.put, List.setIfInBounds_toArray, List.set_cons_zero, List.set_cons_succ]
  refine wl_step (st_val rfl (v_cellB (v := .int .i64 (k : Int)) (i := 0) hE0 rfl rfl rfl Tryd.underlying3 rfl rfl) ?_)
  simp only [Act.put, List.setIfInBounds_toArray, List.set_cons_zero, List.set_cons_succ]
  refine wl_step (st_val rfl (v_makeFunc rfl rfl) ?_)
  simp only [Act.put, List.setIfInBounds_toArray, List.set_cons_zero, List.set_cons_succ]
  refine wl_step (st_calls rfl (run_call rfl Tryd.call27) (with_in (caps := [.pointer (some ⟨gA, 0, none⟩), .pointer (some ⟨gC, 0, none⟩), .pointer (some ⟨gB, 0, none⟩)]) (hE0.get (i := 3) rfl) hM hk Tryd.call32 (swapF_any HO.out HS.out Hmi.out Hmk.out hM hE0) (fun e w' h => ⟨_, h.1⟩)) ?_)
  rintro _ w1 ⟨rfl, bT, hOT, hE1⟩
  skip
  refine ⟨_, rfl, ?_⟩
  clear hE0
  simp only [Act.put, List.setIfInBounds_toArray, List.set_cons_zero, List.set_cons_succ]
  refine wl_step (st_val rfl (v_moveT (.inr rfl) rfl) ?_)
  simp only [Act.put, List.setIfInBounds_toArray, List.set_cons_zero, List.set_cons_succ]
  repeat ((fail_if_success (with_reducible show wpList _ _ _ (List.cons _ _) _ _)); (fail_if_success (with_reducible show Code.wp _ (Code.region _ _ true) _ _ _)); (fail_if_success (with_reducible show Code.wp _ (Code.cond _ _ _) _ _ _)); go_step)
  go_returns
  exact ⟨rfl, bT, hOT, hE1⟩
set_option maxHeartbeats 8000000 in
theorem Swap_any {w0 w : World} {g most i k : Nat} {M : List PV} {mi mk : PV} {R bs : List Blk} {v : Value} (hO : Oz 3 43 M.length (pcells M) v bs) (hS : ∀ m ∈ M, Sees w0 R m) (hmi : M[i]? = some mi) (hmk : M[k]? = some mk) (hM : M.length < 1000000)
    (hE : Env w0 (⟨g, 56, #[v, .int .i64 (most : Int)]⟩ :: (bs ++ R)) w) :
    Calls Tryd.prog 19 #[.pointer (some ⟨g, 0, none⟩), .int .i64 (i : Int), .int .i64 (k : Int)] w fun e w' => e = .returned .nilIface ∧ ∃ bo, Oz 3 43 ((M.set i mk).set k mi).length (pcells ((M.set i mk).set k mi)) v bo ∧
      Env w0 (⟨g, 56, #[v, .int .i64 (most : Int)]⟩ :: (bo ++ R)) w' := by
  have hi : i < M.length := (List.getElem?_eq_some_iff.1 hmi).1
  obtain ⟨p, c, rfl, hc⟩ := hO.len
  have HO := Lib.hid hO
  have HS := Lib.hid hS
  have Hmi := Lib.hid hmi
  have Hmk := Lib.hid hmk
  have hE0 := hE
  clear hO hS hE hmi hmk
  go_enter Tryd.func19, Tryd.ntmps19
  repeat ((fail_if_success (with_reducible show wpList _ _ _ (List.cons _ _) _ _)); (fail_if_success (with_reducible show Code.wp _ (Code.region _ _ true) _ _ _)); go_step)
  refine wl_step (st_box hE0 rfl rfl rfl ?_)
  intro g1 w1 hb1 hE1
  clear hE0
  simp only [Act.put, List.setIfInBounds_toArray, List.set_cons_zero, List.set_cons_succ]
  refine wl_step (st_box hE1 rfl rfl rfl ?_)
  intro g2 w2 hb2 hE2
  clear hE1
  simp only [Act.put, List.setIfInBounds_toArray, List.set_cons_zero, List.set_cons_succ]
  refine wl_step (st_box hE2 rfl rfl rfl ?_)
  intro g3 w3 hb3 hE3
  clear hE2
  simp only [Act.put, List.setIfInBounds_toArray, List.set_cons_zero, List.set_cons_succ]
  refine wl_step (st_val rfl (v_moveC (.inr rfl)) ?_)
  simp only [Act.put, List.setIfInBounds_toArray, List.set_cons_zero, List.set_cons_succ]
  repeat ((fail_if_success (with_reducible show wpList _ _ _ (List.cons _ _) _ _)); (fail_if_success (with_reducible show Code.wp _ (Code.region _ _ true) _ _ _)); go_step)
  refine wl_step (st_val rfl (v_cellB (v := .pointer (some ⟨g, 0, none⟩)) (i := 2) hE3 rfl rfl rfl Tryd.underlying25 rfl rfl) ?_)
  simp only [Act.put, List.setIfInBounds_toArray, List.set_cons_zero, List.set_cons_succ]
  refine wl_step (st_val rfl (v_cellB (v := .int .i64 (i : Int)) (i := 1) hE3 rfl rfl rfl Tryd.underlying3 rfl rfl) ?_)
  simp only [Act.put, List.setIfInBounds_toArray, List.set_cons_zero, List.set_cons_succ]
  refine wl_step (st_val rfl (v_makeFunc rfl rfl) ?_)
  simp only [Act.put, List.setIfInBounds_toArray, List.set_cons_zero, List.set_cons_succ]
  refine wl_step (st_calls rfl (run_call rfl Tryd.call27) (with_in (caps := [.pointer (some ⟨g1, 0, none⟩), .pointer (some ⟨g3, 0, none⟩), .pointer (some ⟨g2, 0, none⟩)]) (hE3.get (i := 3) rfl) hM hi Tryd.call31 (swapG_any HO.out HS.out Hmi.out Hmk.out hM hE3) (fun e w' h => ⟨_, h.1⟩)) ?_)
  rintro _ w4 ⟨rfl, bT, hOT, hE4⟩
  skip
  refine ⟨_, rfl, ?_⟩
  clear hE3
  simp only [Act.put, List.setIfInBounds_toArray, List.set_cons_zero, List.set_cons_succ]
  refine wl_step (st_val rfl (v_moveT (.inr rfl) rfl) ?_)
  simp only [Act.put, List.setIfInBounds_toArray, List.set_cons_zero, List.set_cons_succ]
  repeat ((fail_if_success (with_reducible show wpList _ _ _ (List.cons _ _) _ _)); (fail_if_success (with_reducible show Code.wp _ (Code.region _ _ true) _ _ _)); (fail_if_success (with_reducible show Code.wp _ (Code.cond _ _ _) _ _ _)); go_step)
  go_returns
  exact ⟨rfl, bT, hOT, (hE4).sub (List.Sublist.cons _ (List.Sublist.cons _ (List.Sublist.cons _ (List.Sublist.refl _))))⟩
end Go.Proofs.YtnbbehgcnodfbaaDoor
