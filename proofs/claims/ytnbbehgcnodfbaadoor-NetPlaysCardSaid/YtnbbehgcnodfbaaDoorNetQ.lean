/-
  Layer 28: one call, of the program's net and of the document's: they answer the same. Condition: the variable errors.errorType holds the type of error.
-/
import Derived.Test.YtnbbehgcnodfbaaDoorNetO
namespace Go.Proofs.YtnbbehgcnodfbaaDoor
open Go.RowKit
set_option maxRecDepth 100000
set_option linter.unusedVariables false
set_option linter.unusedSimpArgs false

abbrev opq (g : Nat) (o : OV) : Blk := ⟨g, 36, #[.int .u8 (o.kd : Int), .int .i64 o.i, .int .i64 o.k, o.sl]⟩
abbrev pkq (g : Nat) (m : PV) : Blk := ⟨g, 43, #[.int .i64 m.fr, .int .i64 m.to, m.sl]⟩
abbrev pkz (g : Nat) : Blk := ⟨g, 43, #[.int .i64 0, .int .i64 0, .slice none 0 0]⟩
theorem keys_erase {M N : List PV} (h : M.map PV.key = N.map PV.key) (i : Nat) : (M.eraseIdx i).map PV.key = (N.eraseIdx i).map PV.key := by
  rw [List.eraseIdx_eq_take_drop_succ, List.eraseIdx_eq_take_drop_succ, List.map_append, List.map_append, List.map_take, List.map_take, List.map_drop, List.map_drop, h]
theorem keys_swap {M N : List PV} (h : M.map PV.key = N.map PV.key) {i k : Nat} {mi mk ni nk : PV} (hi : mi.key = ni.key) (hk : mk.key = nk.key) : ((M.set i mk).set k mi).map PV.key = ((N.set i nk).set k ni).map PV.key := by
  rw [List.map_set, List.map_set, List.map_set, List.map_set, h, hi, hk]
theorem Same_keys {m n : PV} {w : World} (hm : RdS .u8 m.by' m.sl w) (hn : RdS .u8 n.by' n.sl w) (dm : Digs 256 m.by') (hk : m.key = n.key) : Gives 21 #[pkw m, pkw n] w (.bool true) := by
  unfold PV.key at hk
  simp only [Prod.mk.injEq] at hk
  have h := Same_any (f1 := m.fr) (t1 := m.to) (f2 := n.fr) (t2 := n.to) hm hn dm (hk.2.2 ▸ dm)
  rw [decide_eq_true hk.1, decide_eq_true hk.2.1, decide_eq_true hk.2.2] at h
  exact h
theorem Same_zero {w : World} : Gives 21 #[.agg #[.int .i64 0, .int .i64 0, .slice none 0 0], .agg #[.int .i64 0, .int .i64 0, .slice none 0 0]] w (.bool true) :=
  Same_any (f1 := 0) (t1 := 0) (f2 := 0) (t2 := 0) (RdS.nil _ _) (RdS.nil _ _) Digs.nil Digs.nil
theorem Code_k {c : Int} {w0 w : World} {l : List Blk} (hh : Handled w0) (hE : Env w0 l w) : Gives 15 #[errV c] w (.int .i64 c) := Code_err (handled_below hh hE.below)

set_option maxHeartbeats 16000000 in
theorem does_any {w0 w : World} {gN gR most : Nat} {M MR : List PV} {v vR : Value} {bs bR R : List Blk} {o : OV} (hP : PS w0 most M v bs R) (hR : RS w0 MR vR bR R) (hk : M.map PV.key = MR.map PV.key) (hE : CE w0 [] gN gR most v bs vR bR R w) (hmo : most ≤ 64) (hh : Handled w0) (ho : RdOv w0 o) (hok : okO o) :
    Calls Tryd.prog 8 #[.pointer (some ⟨gN, 0, none⟩), .pointer (some ⟨gR, 0, none⟩), .agg #[.int .u8 (o.kd : Int), .int .i64 o.i, .int .i64 o.k, o.sl]] w fun e w' => e = .returned (.bool true) ∧
      ∃ (M' MR' : List PV) (v' : Value) (bs' : List Blk) (vR' : Value) (bR' R' : List Blk), PS w0 most M' v' bs' R' ∧ RS w0 MR' vR' bR' R' ∧ M'.map PV.key = MR'.map PV.key ∧ CE w0 [] gN gR most v' bs' vR' bR' R' w' := by
  have hlen : M.length = MR.length := keys_lenN hk
  have hMl : M.length < 1000000 := by have := hP.len; omega
  have hRl : MR.length < 1000000 := by omega
  have hMm := hP.len
  obtain ⟨p, c, rfl, -⟩ := hP.oz.len
  obtain ⟨pR, cR, rfl, -⟩ := hR.oz.len
  have HP := Lib.hid hP
  have HR := Lib.hid hR
  have Hk := Lib.hid hk
  have Hro := Lib.hid ho
  have Hok := Lib.hid hok
  have hsl1 : o.sl.oneCell' = true := by
    obtain ⟨ps, cs, h, -⟩ := ho.2.1.len
    rw [h]
    rfl
  have hE0 := hE
  clear hE hP hR hk ho hok
  go_enter Tryd.func8, Tryd.ntmps8
  repeat ((fail_if_success (with_reducible show wpList _ _ _ (List.cons _ _) _ _)); (fail_if_success (with_reducible show Code.wp _ (Code.region _ _ true) _ _ _)); go_step)
  refine wl_step (st_boxA hE0 rfl rfl rfl ?_)
  intro g0 w1 hb1 hE1
  clear hE0
  simp only [Act.put, List.setIfInBounds_toArray, List.set_cons_zero, List.set_cons_succ]
  (with_reducible refine' wl_valS ?_ ?_ ?_); rotate_left; exact rfl; exact (v_moveC (.inr rfl))
  simp only [Act.put, List.setIfInBounds_toArray, List.set_cons_zero, List.set_cons_succ]
  have hC : CE w0 [opq g0 o] gN gR most (.slice p M.length c) bs (.slice pR MR.length cR) bR R w1 := hE1
  clear hE1
  repeat ((fail_if_success (with_reducible show wpList _ _ _ (List.cons _ _) _ _)); (fail_if_success (with_reducible show Code.wp _ (Code.region _ _ true) _ _ _)); go_step)
  (with_reducible refine' wl_valS ?_ ?_ ?_); rotate_left; exact rfl; exact (v_field0 (s := 0) rfl rfl Tryd.underlying36 rfl (by kernel_rfl) rfl)
  simp only [Act.put, List.setIfInBounds_toArray, List.set_cons_zero, List.set_cons_succ]
  (with_reducible refine' wl_valS ?_ ?_ ?_); rotate_left; exact rfl; exact (v_cellB (v := .int .u8 (o.kd : Int)) (i := 0) hC rfl rfl rfl Tryd.underlying5 rfl rfl)
  simp only [Act.put, List.setIfInBounds_toArray, List.set_cons_zero, List.set_cons_succ]
  by_cases k0 : o.kd = 0
  · have e0 := Lib.hid (decide_eq_true k0)
    repeat ((fail_if_success (with_reducible show wpList _ _ _ (List.cons _ _) _ _)); (fail_if_success (with_reducible show Code.wp _ (Code.region _ _ true) _ _ _)); go_step)
    (with_reducible refine' wl_valS ?_ ?_ ?_); rotate_left; exact rfl; exact (v_eql (m := o.kd) (n := 0) rfl rfl rfl)
    simp only [Act.put, List.setIfInBounds_toArray, List.set_cons_zero, List.set_cons_succ]
    rw [e0.out]
    (with_reducible refine' wl_valS ?_ ?_ ?_); rotate_left; exact rfl; exact (v_moveT (.inr rfl) rfl)
    simp only [Act.put, List.setIfInBounds_toArray, List.set_cons_zero, List.set_cons_succ]
    repeat ((fail_if_success (with_reducible show wpList _ _ _ (List.cons _ _) _ _)); (fail_if_success (with_reducible show Code.wp _ (Code.region _ _ true) _ _ _)); (fail_if_success (with_reducible show Code.wp _ (Code.cond _ _ _) _ _ _)); go_step)
    refine wp_cond_true (by first | rfl | exact congrArg Value.bool (decide_eq_true (by omega))) ?_
    skip
    by_cases hin : 0 ≤ o.i ∧ o.i < M.length
    · obtain ⟨i, hoi⟩ : ∃ i : Nat, o.i = (i : Int) := ⟨o.i.toNat, by omega⟩
      have hi : i < M.length := by omega
      have hiR : i < MR.length := by omega
      have g1 : M[i]? = some M[i] := List.getElem?_eq_getElem hi
      have g2 : MR[i]? = some MR[i] := List.getElem?_eq_getElem hiR
      obtain ⟨m, hme⟩ : ∃ m, M[i] = m := ⟨_, rfl⟩
      obtain ⟨n, hne⟩ : ∃ m, MR[i] = m := ⟨_, rfl⟩
      rw [hme] at g1
      rw [hne] at g2
      have hmk := key_at Hk.out g1 g2
      have Hoi := Lib.hid (congrArg (fun z => some (Value.int .i64 z)) hoi)
      have hmc : (#[Value.int .i64 m.fr, .int .i64 m.to, m.sl]).all (·.oneCell') = true := by
        have := (HP.out.see m (List.mem_of_getElem? g1)).one hC.rest
        simp [this]
        exact ⟨rfl, rfl⟩
      have HSm : Hid (∀ w', Env w0 R w' → Gives 21 #[pkw m, pkw n] w' (.bool true)) := Lib.hid (fun w' h => Same_keys (HP.out.see m (List.mem_of_getElem? g1) _ h) (HR.out.see n (List.mem_of_getElem? g2) _ h) (HP.out.digs m (List.mem_of_getElem? g1)).1 hmk)
      have G1 := Lib.hid g1
      have G2 := Lib.hid g2
      clear g1 g2 hme hne hoi hin
      repeat ((fail_if_success (with_reducible show wpList _ _ _ (List.cons _ _) _ _)); (fail_if_success (with_reducible show Code.wp _ (Code.region _ _ true) _ _ _)); go_step)
      (with_reducible refine' wl_valS ?_ ?_ ?_); rotate_left; exact rfl; exact (v_moveT (.inl rfl) rfl)
      simp only [Act.put, List.setIfInBounds_toArray, List.set_cons_zero, List.set_cons_succ]
      (with_reducible refine' wl_valS ?_ ?_ ?_); rotate_left; exact rfl; exact (v_fieldB (s := 0) rfl rfl Tryd.underlying36 rfl (by kernel_rfl) rfl)
      simp only [Act.put, List.setIfInBounds_toArray, List.set_cons_zero, List.set_cons_succ]
      (with_reducible refine' wl_valS ?_ ?_ ?_); rotate_left; exact rfl; exact (v_cellB (v := .int .i64 (i : Int)) (i := 0) hC rfl rfl rfl Tryd.underlying3 rfl Hoi.out)
      simp only [Act.put, List.setIfInBounds_toArray, List.set_cons_zero, List.set_cons_succ]
      refine wl_step (st_calls rfl (run_call rfl Tryd.call16) (HP.out.take (X := [opq g0 o]) hC hmo G1.out) ?_)
      rintro _ w21 ⟨v1, b1, rfl, hP1, hE21⟩
      skip
      refine ⟨_, rfl, ?_⟩
      clear hC
      simp only [Act.put, List.setIfInBounds_toArray, List.set_cons_zero, List.set_cons_succ]
      (with_reducible refine' wl_valS ?_ ?_ ?_); rotate_left; exact rfl; exact (v_moveT (.inl rfl) rfl)
      simp only [Act.put, List.setIfInBounds_toArray, List.set_cons_zero, List.set_cons_succ]
      (with_reducible refine' wl_valS ?_ ?_ ?_); rotate_left; exact rfl; exact (v_extract rfl rfl rfl)
      simp only [Act.put, List.setIfInBounds_toArray, List.set_cons_zero, List.set_cons_succ]
      (with_reducible refine' wl_valS ?_ ?_ ?_); rotate_left; exact rfl; exact (v_extract rfl rfl rfl)
      simp only [Act.put, List.setIfInBounds_toArray, List.set_cons_zero, List.set_cons_succ]
      refine wl_step (st_alloc (zs := #[Value.int .i64 0, Value.int .i64 0, Value.slice none 0 0]) hE21 rfl rfl (fun w => by kernel_rfl) ?_)
      intro g50 w22 hb22 hE22
      clear hE21
      simp only [Act.put, List.setIfInBounds_toArray, List.set_cons_zero, List.set_cons_succ]
      refine wl_step (st_store (i := 0) hE22 rfl rfl rfl rfl rfl (sz_of (n := 3) (by kernel_rfl) rfl) rfl hmc ?_)
      intro w23 hE23
      clear hE22
      simp only [List.set_cons_zero] at hE23
      simp only [Act.put, List.setIfInBounds_toArray, List.set_cons_zero, List.set_cons_succ]
      (with_reducible refine' wl_valS ?_ ?_ ?_); rotate_left; exact rfl; exact (v_moveT (.inr rfl) rfl)
      simp only [Act.put, List.setIfInBounds_toArray, List.set_cons_zero, List.set_cons_succ]
      have hC2 : CE w0 [pkq g50 m, opq g0 o] gN gR most v1 b1 (.slice pR MR.length cR) bR R w23 := hE23
      clear hE23
      repeat ((fail_if_success (with_reducible show wpList _ _ _ (List.cons _ _) _ _)); (fail_if_success (with_reducible show Code.wp _ (Code.region _ _ true) _ _ _)); go_step)
      (with_reducible refine' wl_valS ?_ ?_ ?_); rotate_left; exact rfl; exact (v_moveT (.inl rfl) rfl)
      simp only [Act.put, List.setIfInBounds_toArray, List.set_cons_zero, List.set_cons_succ]
      (with_reducible refine' wl_valS ?_ ?_ ?_); rotate_left; exact rfl; exact (v_fieldB (s := 0) rfl rfl Tryd.underlying36 rfl (by kernel_rfl) rfl)
      simp only [Act.put, List.setIfInBounds_toArray, List.set_cons_zero, List.set_cons_succ]
      (with_reducible refine' wl_valS ?_ ?_ ?_); rotate_left; exact rfl; exact (v_cellB (v := .int .i64 (i : Int)) (i := 1) hC2 rfl rfl rfl Tryd.underlying3 rfl Hoi.out)
      simp only [Act.put, List.setIfInBounds_toArray, List.set_cons_zero, List.set_cons_succ]
      refine wl_step (st_gives hC2 rfl (run_call rfl Tryd.call20) (rThere_in (CE.ref (X := [pkq g50 m, opq g0 o]) hC2) hRl hiR) ?_)
      intro w31 hb31 hE31
      clear hC2
      simp only [Act.put, List.setIfInBounds_toArray, List.set_cons_zero, List.set_cons_succ]
      (with_reducible refine' wl_valS ?_ ?_ ?_); rotate_left; exact rfl; exact (v_not rfl rfl)
      simp only [Act.put, List.setIfInBounds_toArray, List.set_cons_zero, List.set_cons_succ]
      repeat ((fail_if_success (with_reducible show wpList _ _ _ (List.cons _ _) _ _)); (fail_if_success (with_reducible show Code.wp _ (Code.region _ _ true) _ _ _)); (fail_if_success (with_reducible show Code.wp _ (Code.cond _ _ _) _ _ _)); go_step)
      refine wp_cond_false (by first | rfl | exact congrArg Value.bool (decide_eq_false (by omega))) ?_
      skip
      repeat ((fail_if_success (with_reducible show wpList _ _ _ (List.cons _ _) _ _)); (fail_if_success (with_reducible show Code.wp _ (Code.region _ _ true) _ _ _)); go_step)
      refine wp_region_B (n := 11) 7 (by kernel_rfl) rfl hE31 ?_
      intro w32 hb32 hE32
      clear hE31
      refine wpB_take1 (i := 0) (by kernel_rfl) rfl (by kernel_rfl) (fun _ _ _ h => h) rfl (v_moveT (.inl rfl) rfl) ?_
      simp only [Act.put, List.setIfInBounds_toArray, List.set_cons_zero, List.set_cons_succ]
      refine wpB_take1 (i := 1) (by kernel_rfl) rfl (by kernel_rfl) (fun _ _ _ h => h) rfl (v_run fun w9 => by go_simp; with_reducible rfl) ?_
      simp only [Act.put, List.setIfInBounds_toArray, List.set_cons_zero, List.set_cons_succ]
      refine wpB_take1 (i := 2) (by kernel_rfl) rfl (by kernel_rfl) (fun _ _ _ h => h) rfl (v_moveT (.inl rfl) rfl) ?_
      simp only [Act.put, List.setIfInBounds_toArray, List.set_cons_zero, List.set_cons_succ]
      refine wpB_take1 (i := 4) (by kernel_rfl) rfl (by kernel_rfl) (fun _ _ _ h => h) rfl (v_moveT (.inl rfl) rfl) ?_
      simp only [Act.put, List.setIfInBounds_toArray, List.set_cons_zero, List.set_cons_succ]
      refine wpB_take1 (i := 5) (by kernel_rfl) rfl (by kernel_rfl) (fun _ _ _ h => h) rfl (v_fieldB (s := 0) rfl rfl Tryd.underlying36 rfl (by kernel_rfl) rfl) ?_
      simp only [Act.put, List.setIfInBounds_toArray, List.set_cons_zero, List.set_cons_succ]
      refine wpB_take1 (i := 6) (by kernel_rfl) rfl (by kernel_rfl) (fun _ _ _ h => h) rfl (v_cellB (v := .int .i64 (i : Int)) (i := 1) hE32 rfl rfl rfl Tryd.underlying3 rfl Hoi.out) ?_
      simp only [Act.put, List.setIfInBounds_toArray, List.set_cons_zero, List.set_cons_succ]
      refine wpB_step2 (i := 3) (j := 7) (by kernel_rfl) rfl rfl ?br1a ?br1b
      case' br1a =>
        refine st_val rfl (v_load (i := 0) hE32 rfl rfl rfl Tryd.underlying43 rfl (sz_of (n := 3) (by kernel_rfl) rfl)) ?_
        refine ⟨fun _ => Below.refl _ _, ?_⟩
        simp only [Act.put, List.setIfInBounds_toArray, List.set_cons_zero, List.set_cons_succ]
        refine wpB_step (i := 7) (by kernel_rfl) rfl (st_calls rfl (run_call rfl Tryd.call22) (HR.out.take (X := [pkq g50 m, opq g0 o]) hE32 hRl G2.out) ?_)
        rintro _ w33 ⟨v2, b2, rfl, hR2, hE33⟩
        skip
        refine ⟨_, rfl, ?_⟩
        clear hE32
        refine ⟨fun h => absurd h (by decide), ?_⟩
        simp only [Act.put, List.setIfInBounds_toArray, List.set_cons_zero, List.set_cons_succ]
        refine wpB_step (i := 8) (by kernel_rfl) rfl (st_gives hE33 rfl (run_call rfl Tryd.call21) (HSm.out _ (CE.rest (X := [pkq g50 m, opq g0 o]) hE33)) ?_)
        intro w34 hb34 hE34
        clear hE33
        refine ⟨fun h => absurd h (by decide), ?_⟩
        simp only [Act.put, List.setIfInBounds_toArray, List.set_cons_zero, List.set_cons_succ]
        refine wpB_takeU (i := 9) rfl (by kernel_rfl) (fun _ _ _ h => h) rfl (fun _ => (v_andT rfl rfl rfl)) ?_
        simp only [Act.put, List.setIfInBounds_toArray, List.set_cons_zero, List.set_cons_succ]
        refine wpB_step (i := 10) (by kernel_rfl) rfl (st_val rfl (v_moveT (.inr rfl) rfl) ?_)
        refine ⟨fun _ => Below.refl _ _, ?_⟩
        simp only [Act.put, List.setIfInBounds_toArray, List.set_cons_zero, List.set_cons_succ]
        refine wpB_done (by kernel_rfl) ?_ _
      case' br1b =>
        refine st_calls rfl (run_call rfl Tryd.call22) (HR.out.take (X := [pkq g50 m, opq g0 o]) hE32 hRl G2.out) ?_
        rintro _ w33 ⟨v2, b2, rfl, hR2, hE33⟩
        skip
        refine ⟨_, rfl, ?_⟩
        clear hE32
        refine ⟨fun h => absurd h (by decide), ?_⟩
        simp only [Act.put, List.setIfInBounds_toArray, List.set_cons_zero, List.set_cons_succ]
        refine wpB_step (i := 3) (by kernel_rfl) rfl (st_val rfl (v_load (i := 0) hE33 rfl rfl rfl Tryd.underlying43 rfl (sz_of (n := 3) (by kernel_rfl) rfl)) ?_)
        refine ⟨fun _ => Below.refl _ _, ?_⟩
        simp only [Act.put, List.setIfInBounds_toArray, List.set_cons_zero, List.set_cons_succ]
        refine wpB_step (i := 8) (by kernel_rfl) rfl (st_gives hE33 rfl (run_call rfl Tryd.call21) (HSm.out _ (CE.rest (X := [pkq g50 m, opq g0 o]) hE33)) ?_)
        intro w34 hb34 hE34
        clear hE33
        refine ⟨fun h => absurd h (by decide), ?_⟩
        simp only [Act.put, List.setIfInBounds_toArray, List.set_cons_zero, List.set_cons_succ]
        refine wpB_takeU (i := 9) rfl (by kernel_rfl) (fun _ _ _ h => h) rfl (fun _ => (v_andT rfl rfl rfl)) ?_
        simp only [Act.put, List.setIfInBounds_toArray, List.set_cons_zero, List.set_cons_succ]
        refine wpB_step (i := 10) (by kernel_rfl) rfl (st_val rfl (v_moveT (.inr rfl) rfl) ?_)
        refine ⟨fun _ => Below.refl _ _, ?_⟩
        simp only [Act.put, List.setIfInBounds_toArray, List.set_cons_zero, List.set_cons_succ]
        refine wpB_done (by kernel_rfl) ?_ _
      all_goals
        repeat ((fail_if_success (with_reducible show wpList _ _ _ (List.cons _ _) _ _)); (fail_if_success (with_reducible show Code.wp _ (Code.region _ _ true) _ _ _)); (fail_if_success (with_reducible show Code.wp _ (Code.cond _ _ _) _ _ _)); go_step)
        go_returns
        exact ⟨rfl, M.eraseIdx i, MR.eraseIdx i, v1, b1, v2, b2, R, hP1, hR2, keys_erase Hk.out i, (hE34).sub (List.sublist_append_right _ _)⟩
    · have hinR : ¬ (0 ≤ o.i ∧ o.i < MR.length) := by rw [← hlen]; exact hin
      repeat ((fail_if_success (with_reducible show wpList _ _ _ (List.cons _ _) _ _)); (fail_if_success (with_reducible show Code.wp _ (Code.region _ _ true) _ _ _)); go_step)
      (with_reducible refine' wl_valS ?_ ?_ ?_); rotate_left; exact rfl; exact (v_moveT (.inl rfl) rfl)
      simp only [Act.put, List.setIfInBounds_toArray, List.set_cons_zero, List.set_cons_succ]
      (with_reducible refine' wl_valS ?_ ?_ ?_); rotate_left; exact rfl; exact (v_fieldB (s := 0) rfl rfl Tryd.underlying36 rfl (by kernel_rfl) rfl)
      simp only [Act.put, List.setIfInBounds_toArray, List.set_cons_zero, List.set_cons_succ]
      (with_reducible refine' wl_valS ?_ ?_ ?_); rotate_left; exact rfl; exact (v_cellB (v := .int .i64 o.i) (i := 0) hC rfl rfl rfl Tryd.underlying3 rfl rfl)
      simp only [Act.put, List.setIfInBounds_toArray, List.set_cons_zero, List.set_cons_succ]
      refine wl_step (st_gives hC rfl (run_call rfl Tryd.call16) (Take_out (CE.net (X := [opq g0 o]) hC) hMl hin) ?_)
      intro w21 hb21 hE21
      clear hC
      simp only [Act.put, List.setIfInBounds_toArray, List.set_cons_zero, List.set_cons_succ]
      (with_reducible refine' wl_valS ?_ ?_ ?_); rotate_left; exact rfl; exact (v_moveT (.inl rfl) rfl)
      simp only [Act.put, List.setIfInBounds_toArray, List.set_cons_zero, List.set_cons_succ]
      (with_reducible refine' wl_valS ?_ ?_ ?_); rotate_left; exact rfl; exact (v_extract rfl rfl rfl)
      simp only [Act.put, List.setIfInBounds_toArray, List.set_cons_zero, List.set_cons_succ]
      (with_reducible refine' wl_valS ?_ ?_ ?_); rotate_left; exact rfl; exact (v_extract rfl rfl rfl)
      simp only [Act.put, List.setIfInBounds_toArray, List.set_cons_zero, List.set_cons_succ]
      refine wl_step (st_alloc (zs := #[Value.int .i64 0, Value.int .i64 0, Value.slice none 0 0]) hE21 rfl rfl (fun w => by kernel_rfl) ?_)
      intro g50 w22 hb22 hE22
      clear hE21
      simp only [Act.put, List.setIfInBounds_toArray, List.set_cons_zero, List.set_cons_succ]
      refine wl_step (st_store (i := 0) hE22 rfl rfl rfl rfl rfl (sz_of (n := 3) (by kernel_rfl) rfl) rfl (by simp; exact ⟨rfl, rfl⟩) ?_)
      intro w23 hE23
      clear hE22
      simp only [List.set_cons_zero] at hE23
      simp only [Act.put, List.setIfInBounds_toArray, List.set_cons_zero, List.set_cons_succ]
      (with_reducible refine' wl_valS ?_ ?_ ?_); rotate_left; exact rfl; exact (v_moveT (.inr rfl) rfl)
      simp only [Act.put, List.setIfInBounds_toArray, List.set_cons_zero, List.set_cons_succ]
      have hC2 : CE w0 [pkz g50, opq g0 o] gN gR most (.slice p M.length c) bs (.slice pR MR.length cR) bR R w23 := hE23
      clear hE23
      repeat ((fail_if_success (with_reducible show wpList _ _ _ (List.cons _ _) _ _)); (fail_if_success (with_reducible show Code.wp _ (Code.region _ _ true) _ _ _)); go_step)
      (with_reducible refine' wl_valS ?_ ?_ ?_); rotate_left; exact rfl; exact (v_moveT (.inl rfl) rfl)
      simp only [Act.put, List.setIfInBounds_toArray, List.set_cons_zero, List.set_cons_succ]
      (with_reducible refine' wl_valS ?_ ?_ ?_); rotate_left; exact rfl; exact (v_fieldB (s := 0) rfl rfl Tryd.underlying36 rfl (by kernel_rfl) rfl)
      simp only [Act.put, List.setIfInBounds_toArray, List.set_cons_zero, List.set_cons_succ]
      (with_reducible refine' wl_valS ?_ ?_ ?_); rotate_left; exact rfl; exact (v_cellB (v := .int .i64 o.i) (i := 1) hC2 rfl rfl rfl Tryd.underlying3 rfl rfl)
      simp only [Act.put, List.setIfInBounds_toArray, List.set_cons_zero, List.set_cons_succ]
      refine wl_step (st_gives hC2 rfl (run_call rfl Tryd.call20) (rThere_out (CE.ref (X := [pkz g50, opq g0 o]) hC2) hRl hinR) ?_)
      intro w31 hb31 hE31
      clear hC2
      simp only [Act.put, List.setIfInBounds_toArray, List.set_cons_zero, List.set_cons_succ]
      (with_reducible refine' wl_valS ?_ ?_ ?_); rotate_left; exact rfl; exact (v_not rfl rfl)
      simp only [Act.put, List.setIfInBounds_toArray, List.set_cons_zero, List.set_cons_succ]
      repeat ((fail_if_success (with_reducible show wpList _ _ _ (List.cons _ _) _ _)); (fail_if_success (with_reducible show Code.wp _ (Code.region _ _ true) _ _ _)); (fail_if_success (with_reducible show Code.wp _ (Code.cond _ _ _) _ _ _)); go_step)
      refine wp_cond_true (by first | rfl | exact congrArg Value.bool (decide_eq_true (by omega))) ?_
      skip
      repeat ((fail_if_success (with_reducible show wpList _ _ _ (List.cons _ _) _ _)); (fail_if_success (with_reducible show Code.wp _ (Code.region _ _ true) _ _ _)); go_step)
      (with_reducible refine' wl_valS ?_ ?_ ?_); rotate_left; exact rfl; exact (v_moveT (.inl rfl) rfl)
      simp only [Act.put, List.setIfInBounds_toArray, List.set_cons_zero, List.set_cons_succ]
      refine wl_step (st_gives hE31 rfl (run_call rfl Tryd.call15) (Code_k hh hE31) ?_)
      intro w32 hb32 hE32
      clear hE31
      simp only [Act.put, List.setIfInBounds_toArray, List.set_cons_zero, List.set_cons_succ]
      (with_reducible refine' wl_valS ?_ ?_ ?_); rotate_left; exact rfl; exact (v_run fun w9 => by go_simp; with_reducible rfl)
      simp only [Act.put, List.setIfInBounds_toArray, List.set_cons_zero, List.set_cons_succ]
      (with_reducible refine' wl_valS ?_ ?_ ?_); rotate_left; exact rfl; exact (v_moveT (.inl rfl) rfl)
      simp only [Act.put, List.setIfInBounds_toArray, List.set_cons_zero, List.set_cons_succ]
      (with_reducible refine' wl_valS ?_ ?_ ?_); rotate_left; exact rfl; exact (v_load (i := 0) hE32 rfl rfl rfl Tryd.underlying43 rfl (sz_of (n := 3) (by kernel_rfl) rfl))
      simp only [Act.put, List.setIfInBounds_toArray, List.set_cons_zero, List.set_cons_succ]
      (with_reducible refine' wl_valS ?_ ?_ ?_); rotate_left; exact rfl; exact (v_buildV (zs := [.int .i64 0, .int .i64 0, .slice none 0 0]) (lay := [(0, 1), (1, 1), (2, 1)]) (vals := []) [.int .i64 0, .int .i64 0, .slice none 0 0] rfl (by kernel_rfl) Tryd.underlying43 (by kernel_rfl) rfl rfl)
      simp only [Act.put, List.setIfInBounds_toArray, List.set_cons_zero, List.set_cons_succ]
      refine wl_step (st_gives hE32 rfl (run_call rfl Tryd.call21) (Same_zero) ?_)
      intro w33 hb33 hE33
      clear hE32
      simp only [Act.put, List.setIfInBounds_toArray, List.set_cons_zero, List.set_cons_succ]
      (with_reducible refine' wl_valS ?_ ?_ ?_); rotate_left; exact rfl; exact (v_andT rfl rfl rfl)
      simp only [Act.put, List.setIfInBounds_toArray, List.set_cons_zero, List.set_cons_succ]
      (with_reducible refine' wl_valS ?_ ?_ ?_); rotate_left; exact rfl; exact (v_moveT (.inr rfl) rfl)
      simp only [Act.put, List.setIfInBounds_toArray, List.set_cons_zero, List.set_cons_succ]
      repeat ((fail_if_success (with_reducible show wpList _ _ _ (List.cons _ _) _ _)); (fail_if_success (with_reducible show Code.wp _ (Code.region _ _ true) _ _ _)); (fail_if_success (with_reducible show Code.wp _ (Code.cond _ _ _) _ _ _)); go_step)
      go_returns
      exact ⟨rfl, M, MR, _, _, _, _, R, HP.out, HR.out, Hk.out, (hE33).sub (List.sublist_append_right _ _)⟩
  · have e0 := Lib.hid (decide_eq_false k0)
    repeat ((fail_if_success (with_reducible show wpList _ _ _ (List.cons _ _) _ _)); (fail_if_success (with_reducible show Code.wp _ (Code.region _ _ true) _ _ _)); go_step)
    (with_reducible refine' wl_valS ?_ ?_ ?_); rotate_left; exact rfl; exact (v_eql (m := o.kd) (n := 0) rfl rfl rfl)
    simp only [Act.put, List.setIfInBounds_toArray, List.set_cons_zero, List.set_cons_succ]
    rw [e0.out]
    (with_reducible refine' wl_valS ?_ ?_ ?_); rotate_left; exact rfl; exact (v_moveT (.inr rfl) rfl)
    simp only [Act.put, List.setIfInBounds_toArray, List.set_cons_zero, List.set_cons_succ]
    repeat ((fail_if_success (with_reducible show wpList _ _ _ (List.cons _ _) _ _)); (fail_if_success (with_reducible show Code.wp _ (Code.region _ _ true) _ _ _)); (fail_if_success (with_reducible show Code.wp _ (Code.cond _ _ _) _ _ _)); go_step)
    refine wp_cond_false (by first | rfl | exact congrArg Value.bool (decide_eq_false (by omega))) ?_
    skip
    by_cases k1 : o.kd = 1
    · have e1 := Lib.hid (decide_eq_true k1)
      repeat ((fail_if_success (with_reducible show wpList _ _ _ (List.cons _ _) _ _)); (fail_if_success (with_reducible show Code.wp _ (Code.region _ _ true) _ _ _)); go_step)
      (with_reducible refine' wl_valS ?_ ?_ ?_); rotate_left; exact rfl; exact (v_eql (m := o.kd) (n := 1) rfl rfl rfl)
      simp only [Act.put, List.setIfInBounds_toArray, List.set_cons_zero, List.set_cons_succ]
      rw [e1.out]
      (with_reducible refine' wl_valS ?_ ?_ ?_); rotate_left; exact rfl; exact (v_moveT (.inr rfl) rfl)
      simp only [Act.put, List.setIfInBounds_toArray, List.set_cons_zero, List.set_cons_succ]
      repeat ((fail_if_success (with_reducible show wpList _ _ _ (List.cons _ _) _ _)); (fail_if_success (with_reducible show Code.wp _ (Code.region _ _ true) _ _ _)); (fail_if_success (with_reducible show Code.wp _ (Code.cond _ _ _) _ _ _)); go_step)
      refine wp_cond_true (by first | rfl | exact congrArg Value.bool (decide_eq_true (by omega))) ?_
      skip
      by_cases hin : 0 ≤ o.i ∧ o.i < M.length
      · obtain ⟨i, hoi⟩ : ∃ i : Nat, o.i = (i : Int) := ⟨o.i.toNat, by omega⟩
        have hi : i < M.length := by omega
        have hiR : i < MR.length := by omega
        have g1 : M[i]? = some M[i] := List.getElem?_eq_getElem hi
        have g2 : MR[i]? = some MR[i] := List.getElem?_eq_getElem hiR
        obtain ⟨m, hme⟩ : ∃ m, M[i] = m := ⟨_, rfl⟩
        obtain ⟨n, hne⟩ : ∃ m, MR[i] = m := ⟨_, rfl⟩
        rw [hme] at g1
        rw [hne] at g2
        have hmk := key_at Hk.out g1 g2
        have Hoi := Lib.hid (congrArg (fun z => some (Value.int .i64 z)) hoi)
        have Hsee := Lib.hid (HR.out.see n (List.mem_of_getElem? g2))
        have G1 := Lib.hid g1
        have G2 := Lib.hid g2
        obtain ⟨bq, offq, hpq, -⟩ := (HR.out.oz.rd (l := R) ((hC.perm (cp2 ..)).sub (List.Sublist.cons _ (List.Sublist.append_left (((List.sublist_append_right bs R).trans (List.sublist_cons_self _ _)).trans (List.sublist_append_right _ _)) _)))).elem hiR
        subst hpq
        have hran : ∀ w' l, Env w0 (bR ++ l) w' → ∀ w1, Below w'.heap.size w' w1 → w1.rangeAt bq (offq + i * 3) [.int .i64 n.fr, .int .i64 n.to, n.sl] := fun w' l h => by
          obtain ⟨b', off', he, hr⟩ := (HR.out.oz.rd h).elem hiR
          injection he with he
          injection he with h1 h2 _
          subst h1 h2
          rw [pcells_at g2] at hr
          exact hr
        have Hran := Lib.hid hran
        clear g1 g2 hme hne hoi hin hran
        by_cases hroom : M.length < most
        · have Hif : Hid ((if 1 ≤ most - M.length then Value.nilIface else errV 12) = .nilIface) := Lib.hid (if_pos (by omega))
          repeat ((fail_if_success (with_reducible show wpList _ _ _ (List.cons _ _) _ _)); (fail_if_success (with_reducible show Code.wp _ (Code.region _ _ true) _ _ _)); go_step)
          (with_reducible refine' wl_valS ?_ ?_ ?_); rotate_left; exact rfl; exact (v_moveT (.inl rfl) rfl)
          simp only [Act.put, List.setIfInBounds_toArray, List.set_cons_zero, List.set_cons_succ]
          (with_reducible refine' wl_valS ?_ ?_ ?_); rotate_left; exact rfl; exact (v_fieldB (s := 0) rfl rfl Tryd.underlying36 rfl (by kernel_rfl) rfl)
          simp only [Act.put, List.setIfInBounds_toArray, List.set_cons_zero, List.set_cons_succ]
          (with_reducible refine' wl_valS ?_ ?_ ?_); rotate_left; exact rfl; exact (v_cellB (v := .int .i64 (i : Int)) (i := 0) hC rfl rfl rfl Tryd.underlying3 rfl Hoi.out)
          simp only [Act.put, List.setIfInBounds_toArray, List.set_cons_zero, List.set_cons_succ]
          refine wl_step (st_calls rfl (run_call rfl Tryd.call18) (HP.out.copy (X := [opq g0 o]) hC hmo G1.out) ?_)
          rintro _ w21 ⟨v1, b1, M1, R1, rfl, hk1, hs1, hP1, hE21⟩
          skip
          refine ⟨_, rfl, ?_⟩
          clear hC
          simp only [Act.put, List.setIfInBounds_toArray, List.set_cons_zero, List.set_cons_succ]
          rw [Hif.out]
          (with_reducible refine' wl_valS ?_ ?_ ?_); rotate_left; exact rfl; exact (v_moveT (.inr rfl) rfl)
          simp only [Act.put, List.setIfInBounds_toArray, List.set_cons_zero, List.set_cons_succ]
          have HR1 := Lib.hid (HR.out.more hs1)
          have Hsee1 := Lib.hid (Hsee.out.mono hs1)
          have hltR : MR.length < most := by omega
          repeat ((fail_if_success (with_reducible show wpList _ _ _ (List.cons _ _) _ _)); (fail_if_success (with_reducible show Code.wp _ (Code.region _ _ true) _ _ _)); go_step)
          (with_reducible refine' wl_valS ?_ ?_ ?_); rotate_left; exact rfl; exact (v_moveT (.inl rfl) rfl)
          simp only [Act.put, List.setIfInBounds_toArray, List.set_cons_zero, List.set_cons_succ]
          (with_reducible refine' wl_valS ?_ ?_ ?_); rotate_left; exact rfl; exact (v_fieldB (s := 0) rfl rfl Tryd.underlying36 rfl (by kernel_rfl) rfl)
          simp only [Act.put, List.setIfInBounds_toArray, List.set_cons_zero, List.set_cons_succ]
          (with_reducible refine' wl_valS ?_ ?_ ?_); rotate_left; exact rfl; exact (v_cellB (v := .int .i64 (i : Int)) (i := 0) hE21 rfl rfl rfl Tryd.underlying3 rfl Hoi.out)
          simp only [Act.put, List.setIfInBounds_toArray, List.set_cons_zero, List.set_cons_succ]
          refine wl_step (st_gives hE21 rfl (run_call rfl Tryd.call20) (rThere_in (CE.ref (X := [opq g0 o]) hE21) hRl hiR) ?_)
          intro w22 hb22 hE22
          clear hE21
          simp only [Act.put, List.setIfInBounds_toArray, List.set_cons_zero, List.set_cons_succ]
          (with_reducible refine' wl_valS ?_ ?_ ?_); rotate_left; exact rfl; exact (v_not rfl rfl)
          simp only [Act.put, List.setIfInBounds_toArray, List.set_cons_zero, List.set_cons_succ]
          repeat ((fail_if_success (with_reducible show wpList _ _ _ (List.cons _ _) _ _)); (fail_if_success (with_reducible show Code.wp _ (Code.region _ _ true) _ _ _)); (fail_if_success (with_reducible show Code.wp _ (Code.cond _ _ _) _ _ _)); go_step)
          refine wp_cond_false (by first | rfl | exact congrArg Value.bool (decide_eq_false (by omega))) ?_
          skip
          repeat ((fail_if_success (with_reducible show wpList _ _ _ (List.cons _ _) _ _)); (fail_if_success (with_reducible show Code.wp _ (Code.region _ _ true) _ _ _)); go_step)
          refine wp_region_B (n := 11) 9 (by kernel_rfl) rfl hE22 ?_
          intro w23 hb23 hE23
          clear hE22
          refine wpB_take1 (i := 0) (by kernel_rfl) rfl (by kernel_rfl) (fun _ _ _ h => h) rfl (v_moveT (.inl rfl) rfl) ?_
          simp only [Act.put, List.setIfInBounds_toArray, List.set_cons_zero, List.set_cons_succ]
          refine wpB_take1 (i := 1) (by kernel_rfl) rfl (by kernel_rfl) (fun _ _ _ h => h) rfl (v_moveT (.inl rfl) rfl) ?_
          simp only [Act.put, List.setIfInBounds_toArray, List.set_cons_zero, List.set_cons_succ]
          refine wpB_take1 (i := 2) (by kernel_rfl) rfl (by kernel_rfl) (fun _ _ _ h => h) rfl (v_nil rfl rfl) ?_
          simp only [Act.put, List.setIfInBounds_toArray, List.set_cons_zero, List.set_cons_succ]
          refine wpB_take1 (i := 3) (by kernel_rfl) rfl (by kernel_rfl) (fun _ _ _ h => h) rfl (v_field0 (s := 0) rfl rfl Tryd.underlying33 rfl (by kernel_rfl) rfl) ?_
          simp only [Act.put, List.setIfInBounds_toArray, List.set_cons_zero, List.set_cons_succ]
          refine wpB_take1 (i := 4) (by kernel_rfl) rfl (by kernel_rfl) (fun _ _ _ h => h) rfl (v_cellB (v := .slice (some ⟨bq, offq, none⟩) MR.length cR) (i := 0) ((hE23 : CE w0 [opq g0 o] gN gR most v1 b1 _ bR R1 _).perm (cp2 ..)) rfl rfl rfl Tryd.underlying31 rfl rfl) ?_
          simp only [Act.put, List.setIfInBounds_toArray, List.set_cons_zero, List.set_cons_succ]
          refine wpB_take1 (i := 5) (by kernel_rfl) rfl (by kernel_rfl) (fun _ _ _ h => h) rfl (v_fieldB (s := 0) rfl rfl Tryd.underlying36 rfl (by kernel_rfl) rfl) ?_
          simp only [Act.put, List.setIfInBounds_toArray, List.set_cons_zero, List.set_cons_succ]
          refine wpB_take1 (i := 6) (by kernel_rfl) rfl (by kernel_rfl) (fun _ _ _ h => h) rfl (v_cellB (v := .int .i64 (i : Int)) (i := 0) hE23 rfl rfl rfl Tryd.underlying3 rfl Hoi.out) ?_
          simp only [Act.put, List.setIfInBounds_toArray, List.set_cons_zero, List.set_cons_succ]
          refine wpB_take1 (i := 7) (by kernel_rfl) rfl (by kernel_rfl) (fun _ _ _ h => h) rfl (v_indexSs (s := 3) rfl rfl rfl Tryd.underlying31 (by kernel_rfl) hiR) ?_
          simp only [Act.put, List.setIfInBounds_toArray, List.set_cons_zero, List.set_cons_succ]
          refine wpB_take1 (i := 8) (by kernel_rfl) rfl (by kernel_rfl) (fun _ _ _ h => h) rfl (v_loadMid (cs := #[.int .i64 n.fr, .int .i64 n.to, n.sl]) rfl rfl (Hran.out _ _ (((hE23 : CE w0 [opq g0 o] gN gR most v1 b1 _ bR R1 _).perm (cp2 ..)).sub (List.sublist_cons_self _ _))) Tryd.underlying43 rfl (by kernel_rfl)) ?_
          simp only [Act.put, List.setIfInBounds_toArray, List.set_cons_zero, List.set_cons_succ]
          refine wpB_step (i := 9) (by kernel_rfl) rfl (st_calls rfl (run_call rfl Tryd.call23) (HR1.out.send (X := [opq g0 o]) hE23 Hsee1.out hltR hmo) ?_)
          rintro _ w24 ⟨v2, b2, rfl, hR2, hE24⟩
          skip
          refine ⟨_, rfl, ?_⟩
          clear hE23
          refine ⟨fun h => absurd h (by decide), ?_⟩
          simp only [Act.put, List.setIfInBounds_toArray, List.set_cons_zero, List.set_cons_succ]
          refine wpB_takeU (i := 10) rfl (by kernel_rfl) (fun _ _ _ h => h) rfl (fun _ => (v_not rfl rfl)) ?_
          simp only [Act.put, List.setIfInBounds_toArray, List.set_cons_zero, List.set_cons_succ]
          refine wpB_done (by kernel_rfl) ?_ _
          repeat ((fail_if_success (with_reducible show wpList _ _ _ (List.cons _ _) _ _)); (fail_if_success (with_reducible show Code.wp _ (Code.region _ _ true) _ _ _)); (fail_if_success (with_reducible show Code.wp _ (Code.cond _ _ _) _ _ _)); go_step)
          refine wp_cond_false (by first | rfl | exact congrArg Value.bool (decide_eq_false (by omega))) ?_
          skip
          repeat ((fail_if_success (with_reducible show wpList _ _ _ (List.cons _ _) _ _)); (fail_if_success (with_reducible show Code.wp _ (Code.region _ _ true) _ _ _)); go_step)
          (with_reducible refine' wl_valS ?_ ?_ ?_); rotate_left; exact rfl; exact (v_moveT (.inl rfl) rfl)
          simp only [Act.put, List.setIfInBounds_toArray, List.set_cons_zero, List.set_cons_succ]
          (with_reducible refine' wl_valS ?_ ?_ ?_); rotate_left; exact rfl; exact (v_run fun w9 => by go_simp; with_reducible rfl)
          simp only [Act.put, List.setIfInBounds_toArray, List.set_cons_zero, List.set_cons_succ]
          (with_reducible refine' wl_valS ?_ ?_ ?_); rotate_left; exact rfl; exact (v_moveT (.inr rfl) rfl)
          simp only [Act.put, List.setIfInBounds_toArray, List.set_cons_zero, List.set_cons_succ]
          repeat ((fail_if_success (with_reducible show wpList _ _ _ (List.cons _ _) _ _)); (fail_if_success (with_reducible show Code.wp _ (Code.region _ _ true) _ _ _)); (fail_if_success (with_reducible show Code.wp _ (Code.cond _ _ _) _ _ _)); go_step)
          go_returns
          refine ⟨rfl, M1, MR ++ [n], v1, b1, v2, b2, R1, hP1, hR2, ?_, (hE24).sub (List.sublist_append_right _ _)⟩
          rw [hk1, List.take_of_length_le (by simp; omega), List.map_append, List.map_append, Hk.out, List.map_singleton, List.map_singleton, hmk]
        · have Hif : Hid ((if 1 ≤ most - M.length then Value.nilIface else errV 12) = errV 12) := Lib.hid (if_neg (by omega))
          repeat ((fail_if_success (with_reducible show wpList _ _ _ (List.cons _ _) _ _)); (fail_if_success (with_reducible show Code.wp _ (Code.region _ _ true) _ _ _)); go_step)
          (with_reducible refine' wl_valS ?_ ?_ ?_); rotate_left; exact rfl; exact (v_moveT (.inl rfl) rfl)
          simp only [Act.put, List.setIfInBounds_toArray, List.set_cons_zero, List.set_cons_succ]
          (with_reducible refine' wl_valS ?_ ?_ ?_); rotate_left; exact rfl; exact (v_fieldB (s := 0) rfl rfl Tryd.underlying36 rfl (by kernel_rfl) rfl)
          simp only [Act.put, List.setIfInBounds_toArray, List.set_cons_zero, List.set_cons_succ]
          (with_reducible refine' wl_valS ?_ ?_ ?_); rotate_left; exact rfl; exact (v_cellB (v := .int .i64 (i : Int)) (i := 0) hC rfl rfl rfl Tryd.underlying3 rfl Hoi.out)
          simp only [Act.put, List.setIfInBounds_toArray, List.set_cons_zero, List.set_cons_succ]
          refine wl_step (st_calls rfl (run_call rfl Tryd.call18) (HP.out.copy (X := [opq g0 o]) hC hmo G1.out) ?_)
          rintro _ w21 ⟨v1, b1, M1, R1, rfl, hk1, hs1, hP1, hE21⟩
          skip
          refine ⟨_, rfl, ?_⟩
          clear hC
          simp only [Act.put, List.setIfInBounds_toArray, List.set_cons_zero, List.set_cons_succ]
          rw [Hif.out]
          (with_reducible refine' wl_valS ?_ ?_ ?_); rotate_left; exact rfl; exact (v_moveT (.inr rfl) rfl)
          simp only [Act.put, List.setIfInBounds_toArray, List.set_cons_zero, List.set_cons_succ]
          have HR1 := Lib.hid (HR.out.more hs1)
          have Hsee1 := Lib.hid (Hsee.out.mono hs1)
          have hgeR : most ≤ MR.length := by omega
          repeat ((fail_if_success (with_reducible show wpList _ _ _ (List.cons _ _) _ _)); (fail_if_success (with_reducible show Code.wp _ (Code.region _ _ true) _ _ _)); go_step)
          (with_reducible refine' wl_valS ?_ ?_ ?_); rotate_left; exact rfl; exact (v_moveT (.inl rfl) rfl)
          simp only [Act.put, List.setIfInBounds_toArray, List.set_cons_zero, List.set_cons_succ]
          (with_reducible refine' wl_valS ?_ ?_ ?_); rotate_left; exact rfl; exact (v_fieldB (s := 0) rfl rfl Tryd.underlying36 rfl (by kernel_rfl) rfl)
          simp only [Act.put, List.setIfInBounds_toArray, List.set_cons_zero, List.set_cons_succ]
          (with_reducible refine' wl_valS ?_ ?_ ?_); rotate_left; exact rfl; exact (v_cellB (v := .int .i64 (i : Int)) (i := 0) hE21 rfl rfl rfl Tryd.underlying3 rfl Hoi.out)
          simp only [Act.put, List.setIfInBounds_toArray, List.set_cons_zero, List.set_cons_succ]
          refine wl_step (st_gives hE21 rfl (run_call rfl Tryd.call20) (rThere_in (CE.ref (X := [opq g0 o]) hE21) hRl hiR) ?_)
          intro w22 hb22 hE22
          clear hE21
          simp only [Act.put, List.setIfInBounds_toArray, List.set_cons_zero, List.set_cons_succ]
          (with_reducible refine' wl_valS ?_ ?_ ?_); rotate_left; exact rfl; exact (v_not rfl rfl)
          simp only [Act.put, List.setIfInBounds_toArray, List.set_cons_zero, List.set_cons_succ]
          repeat ((fail_if_success (with_reducible show wpList _ _ _ (List.cons _ _) _ _)); (fail_if_success (with_reducible show Code.wp _ (Code.region _ _ true) _ _ _)); (fail_if_success (with_reducible show Code.wp _ (Code.cond _ _ _) _ _ _)); go_step)
          refine wp_cond_false (by first | rfl | exact congrArg Value.bool (decide_eq_false (by omega))) ?_
          skip
          repeat ((fail_if_success (with_reducible show wpList _ _ _ (List.cons _ _) _ _)); (fail_if_success (with_reducible show Code.wp _ (Code.region _ _ true) _ _ _)); go_step)
          refine wp_region_B (n := 11) 9 (by kernel_rfl) rfl hE22 ?_
          intro w23 hb23 hE23
          clear hE22
          refine wpB_take1 (i := 0) (by kernel_rfl) rfl (by kernel_rfl) (fun _ _ _ h => h) rfl (v_moveT (.inl rfl) rfl) ?_
          simp only [Act.put, List.setIfInBounds_toArray, List.set_cons_zero, List.set_cons_succ]
          refine wpB_take1 (i := 1) (by kernel_rfl) rfl (by kernel_rfl) (fun _ _ _ h => h) rfl (v_moveT (.inl rfl) rfl) ?_
          simp only [Act.put, List.setIfInBounds_toArray, List.set_cons_zero, List.set_cons_succ]
          refine wpB_take1 (i := 2) (by kernel_rfl) rfl (by kernel_rfl) (fun _ _ _ h => h) rfl (v_nil rfl rfl) ?_
          simp only [Act.put, List.setIfInBounds_toArray, List.set_cons_zero, List.set_cons_succ]
          refine wpB_take1 (i := 3) (by kernel_rfl) rfl (by kernel_rfl) (fun _ _ _ h => h) rfl (v_field0 (s := 0) rfl rfl Tryd.underlying33 rfl (by kernel_rfl) rfl) ?_
          simp only [Act.put, List.setIfInBounds_toArray, List.set_cons_zero, List.set_cons_succ]
          refine wpB_take1 (i := 4) (by kernel_rfl) rfl (by kernel_rfl) (fun _ _ _ h => h) rfl (v_cellB (v := .slice (some ⟨bq, offq, none⟩) MR.length cR) (i := 0) ((hE23 : CE w0 [opq g0 o] gN gR most v1 b1 _ bR R1 _).perm (cp2 ..)) rfl rfl rfl Tryd.underlying31 rfl rfl) ?_
          simp only [Act.put, List.setIfInBounds_toArray, List.set_cons_zero, List.set_cons_succ]
          refine wpB_take1 (i := 5) (by kernel_rfl) rfl (by kernel_rfl) (fun _ _ _ h => h) rfl (v_fieldB (s := 0) rfl rfl Tryd.underlying36 rfl (by kernel_rfl) rfl) ?_
          simp only [Act.put, List.setIfInBounds_toArray, List.set_cons_zero, List.set_cons_succ]
          refine wpB_take1 (i := 6) (by kernel_rfl) rfl (by kernel_rfl) (fun _ _ _ h => h) rfl (v_cellB (v := .int .i64 (i : Int)) (i := 0) hE23 rfl rfl rfl Tryd.underlying3 rfl Hoi.out) ?_
          simp only [Act.put, List.setIfInBounds_toArray, List.set_cons_zero, List.set_cons_succ]
          refine wpB_take1 (i := 7) (by kernel_rfl) rfl (by kernel_rfl) (fun _ _ _ h => h) rfl (v_indexSs (s := 3) rfl rfl rfl Tryd.underlying31 (by kernel_rfl) hiR) ?_
          simp only [Act.put, List.setIfInBounds_toArray, List.set_cons_zero, List.set_cons_succ]
          refine wpB_take1 (i := 8) (by kernel_rfl) rfl (by kernel_rfl) (fun _ _ _ h => h) rfl (v_loadMid (cs := #[.int .i64 n.fr, .int .i64 n.to, n.sl]) rfl rfl (Hran.out _ _ (((hE23 : CE w0 [opq g0 o] gN gR most v1 b1 _ bR R1 _).perm (cp2 ..)).sub (List.sublist_cons_self _ _))) Tryd.underlying43 rfl (by kernel_rfl)) ?_
          simp only [Act.put, List.setIfInBounds_toArray, List.set_cons_zero, List.set_cons_succ]
          refine wpB_step (i := 9) (by kernel_rfl) rfl (st_calls rfl (run_call rfl Tryd.call23) (HR1.out.sendNo (X := [opq g0 o]) hE23 Hsee1.out hgeR hRl) ?_)
          rintro _ w24 ⟨rfl, hE24⟩
          skip
          refine ⟨_, rfl, ?_⟩
          clear hE23
          refine ⟨fun h => absurd h (by decide), ?_⟩
          simp only [Act.put, List.setIfInBounds_toArray, List.set_cons_zero, List.set_cons_succ]
          refine wpB_takeU (i := 10) rfl (by kernel_rfl) (fun _ _ _ h => h) rfl (fun _ => (v_not rfl rfl)) ?_
          simp only [Act.put, List.setIfInBounds_toArray, List.set_cons_zero, List.set_cons_succ]
          refine wpB_done (by kernel_rfl) ?_ _
          repeat ((fail_if_success (with_reducible show wpList _ _ _ (List.cons _ _) _ _)); (fail_if_success (with_reducible show Code.wp _ (Code.region _ _ true) _ _ _)); (fail_if_success (with_reducible show Code.wp _ (Code.cond _ _ _) _ _ _)); go_step)
          refine wp_cond_true (by first | rfl | exact congrArg Value.bool (decide_eq_true (by omega))) ?_
          skip
          repeat ((fail_if_success (with_reducible show wpList _ _ _ (List.cons _ _) _ _)); (fail_if_success (with_reducible show Code.wp _ (Code.region _ _ true) _ _ _)); go_step)
          (with_reducible refine' wl_valS ?_ ?_ ?_); rotate_left; exact rfl; exact (v_moveT (.inl rfl) rfl)
          simp only [Act.put, List.setIfInBounds_toArray, List.set_cons_zero, List.set_cons_succ]
          refine wl_step (st_gives hE24 rfl (run_call rfl Tryd.call15) (Code_k hh hE24) ?_)
          intro w25 hb25 hE25
          clear hE24
          simp only [Act.put, List.setIfInBounds_toArray, List.set_cons_zero, List.set_cons_succ]
          (with_reducible refine' wl_valS ?_ ?_ ?_); rotate_left; exact rfl; exact (v_run fun w9 => by go_simp; with_reducible rfl)
          simp only [Act.put, List.setIfInBounds_toArray, List.set_cons_zero, List.set_cons_succ]
          (with_reducible refine' wl_valS ?_ ?_ ?_); rotate_left; exact rfl; exact (v_moveT (.inr rfl) rfl)
          simp only [Act.put, List.setIfInBounds_toArray, List.set_cons_zero, List.set_cons_succ]
          repeat ((fail_if_success (with_reducible show wpList _ _ _ (List.cons _ _) _ _)); (fail_if_success (with_reducible show Code.wp _ (Code.region _ _ true) _ _ _)); (fail_if_success (with_reducible show Code.wp _ (Code.cond _ _ _) _ _ _)); go_step)
          go_returns
          refine ⟨rfl, M1, MR, v1, b1, _, bR, R1, hP1, HR1.out, ?_, (hE25).sub (List.sublist_append_right _ _)⟩
          rw [hk1, show most - M.length = 0 by omega, List.take_zero, List.append_nil, Hk.out]
      · have hinR : ¬ (0 ≤ o.i ∧ o.i < MR.length) := by rw [← hlen]; exact hin
        repeat ((fail_if_success (with_reducible show wpList _ _ _ (List.cons _ _) _ _)); (fail_if_success (with_reducible show Code.wp _ (Code.region _ _ true) _ _ _)); go_step)
        (with_reducible refine' wl_valS ?_ ?_ ?_); rotate_left; exact rfl; exact (v_moveT (.inl rfl) rfl)
        simp only [Act.put, List.setIfInBounds_toArray, List.set_cons_zero, List.set_cons_succ]
        (with_reducible refine' wl_valS ?_ ?_ ?_); rotate_left; exact rfl; exact (v_fieldB (s := 0) rfl rfl Tryd.underlying36 rfl (by kernel_rfl) rfl)
        simp only [Act.put, List.setIfInBounds_toArray, List.set_cons_zero, List.set_cons_succ]
        (with_reducible refine' wl_valS ?_ ?_ ?_); rotate_left; exact rfl; exact (v_cellB (v := .int .i64 o.i) (i := 0) hC rfl rfl rfl Tryd.underlying3 rfl rfl)
        simp only [Act.put, List.setIfInBounds_toArray, List.set_cons_zero, List.set_cons_succ]
        refine wl_step (st_gives hC rfl (run_call rfl Tryd.call18) (Copy_out (CE.net (X := [opq g0 o]) hC) hMl hin) ?_)
        intro w21 hb21 hE21
        clear hC
        simp only [Act.put, List.setIfInBounds_toArray, List.set_cons_zero, List.set_cons_succ]
        (with_reducible refine' wl_valS ?_ ?_ ?_); rotate_left; exact rfl; exact (v_moveT (.inr rfl) rfl)
        simp only [Act.put, List.setIfInBounds_toArray, List.set_cons_zero, List.set_cons_succ]
        repeat ((fail_if_success (with_reducible show wpList _ _ _ (List.cons _ _) _ _)); (fail_if_success (with_reducible show Code.wp _ (Code.region _ _ true) _ _ _)); go_step)
        (with_reducible refine' wl_valS ?_ ?_ ?_); rotate_left; exact rfl; exact (v_moveT (.inl rfl) rfl)
        simp only [Act.put, List.setIfInBounds_toArray, List.set_cons_zero, List.set_cons_succ]
        (with_reducible refine' wl_valS ?_ ?_ ?_); rotate_left; exact rfl; exact (v_fieldB (s := 0) rfl rfl Tryd.underlying36 rfl (by kernel_rfl) rfl)
        simp only [Act.put, List.setIfInBounds_toArray, List.set_cons_zero, List.set_cons_succ]
        (with_reducible refine' wl_valS ?_ ?_ ?_); rotate_left; exact rfl; exact (v_cellB (v := .int .i64 o.i) (i := 0) hE21 rfl rfl rfl Tryd.underlying3 rfl rfl)
        simp only [Act.put, List.setIfInBounds_toArray, List.set_cons_zero, List.set_cons_succ]
        refine wl_step (st_gives hE21 rfl (run_call rfl Tryd.call20) (rThere_out (CE.ref (X := [opq g0 o]) hE21) hRl hinR) ?_)
        intro w22 hb22 hE22
        clear hE21
        simp only [Act.put, List.setIfInBounds_toArray, List.set_cons_zero, List.set_cons_succ]
        (with_reducible refine' wl_valS ?_ ?_ ?_); rotate_left; exact rfl; exact (v_not rfl rfl)
        simp only [Act.put, List.setIfInBounds_toArray, List.set_cons_zero, List.set_cons_succ]
        repeat ((fail_if_success (with_reducible show wpList _ _ _ (List.cons _ _) _ _)); (fail_if_success (with_reducible show Code.wp _ (Code.region _ _ true) _ _ _)); (fail_if_success (with_reducible show Code.wp _ (Code.cond _ _ _) _ _ _)); go_step)
        refine wp_cond_true (by first | rfl | exact congrArg Value.bool (decide_eq_true (by omega))) ?_
        skip
        repeat ((fail_if_success (with_reducible show wpList _ _ _ (List.cons _ _) _ _)); (fail_if_success (with_reducible show Code.wp _ (Code.region _ _ true) _ _ _)); go_step)
        (with_reducible refine' wl_valS ?_ ?_ ?_); rotate_left; exact rfl; exact (v_moveT (.inl rfl) rfl)
        simp only [Act.put, List.setIfInBounds_toArray, List.set_cons_zero, List.set_cons_succ]
        refine wl_step (st_gives hE22 rfl (run_call rfl Tryd.call15) (Code_k hh hE22) ?_)
        intro w23 hb23 hE23
        clear hE22
        simp only [Act.put, List.setIfInBounds_toArray, List.set_cons_zero, List.set_cons_succ]
        (with_reducible refine' wl_valS ?_ ?_ ?_); rotate_left; exact rfl; exact (v_run fun w9 => by go_simp; with_reducible rfl)
        simp only [Act.put, List.setIfInBounds_toArray, List.set_cons_zero, List.set_cons_succ]
        (with_reducible refine' wl_valS ?_ ?_ ?_); rotate_left; exact rfl; exact (v_moveT (.inr rfl) rfl)
        simp only [Act.put, List.setIfInBounds_toArray, List.set_cons_zero, List.set_cons_succ]
        repeat ((fail_if_success (with_reducible show wpList _ _ _ (List.cons _ _) _ _)); (fail_if_success (with_reducible show Code.wp _ (Code.region _ _ true) _ _ _)); (fail_if_success (with_reducible show Code.wp _ (Code.cond _ _ _) _ _ _)); go_step)
        go_returns
        exact ⟨rfl, M, MR, _, _, _, _, R, HP.out, HR.out, Hk.out, (hE23).sub (List.sublist_append_right _ _)⟩
    · have e1 := Lib.hid (decide_eq_false k1)
      repeat ((fail_if_success (with_reducible show wpList _ _ _ (List.cons _ _) _ _)); (fail_if_success (with_reducible show Code.wp _ (Code.region _ _ true) _ _ _)); go_step)
      (with_reducible refine' wl_valS ?_ ?_ ?_); rotate_left; exact rfl; exact (v_eql (m := o.kd) (n := 1) rfl rfl rfl)
      simp only [Act.put, List.setIfInBounds_toArray, List.set_cons_zero, List.set_cons_succ]
      rw [e1.out]
      (with_reducible refine' wl_valS ?_ ?_ ?_); rotate_left; exact rfl; exact (v_moveT (.inr rfl) rfl)
      simp only [Act.put, List.setIfInBounds_toArray, List.set_cons_zero, List.set_cons_succ]
      repeat ((fail_if_success (with_reducible show wpList _ _ _ (List.cons _ _) _ _)); (fail_if_success (with_reducible show Code.wp _ (Code.region _ _ true) _ _ _)); (fail_if_success (with_reducible show Code.wp _ (Code.cond _ _ _) _ _ _)); go_step)
      refine wp_cond_false (by first | rfl | exact congrArg Value.bool (decide_eq_false (by omega))) ?_
      skip
      by_cases k2 : o.kd = 2
      · have e2 := Lib.hid (decide_eq_true k2)
        repeat ((fail_if_success (with_reducible show wpList _ _ _ (List.cons _ _) _ _)); (fail_if_success (with_reducible show Code.wp _ (Code.region _ _ true) _ _ _)); go_step)
        (with_reducible refine' wl_valS ?_ ?_ ?_); rotate_left; exact rfl; exact (v_eql (m := o.kd) (n := 2) rfl rfl rfl)
        simp only [Act.put, List.setIfInBounds_toArray, List.set_cons_zero, List.set_cons_succ]
        rw [e2.out]
        (with_reducible refine' wl_valS ?_ ?_ ?_); rotate_left; exact rfl; exact (v_moveT (.inr rfl) rfl)
        simp only [Act.put, List.setIfInBounds_toArray, List.set_cons_zero, List.set_cons_succ]
        repeat ((fail_if_success (with_reducible show wpList _ _ _ (List.cons _ _) _ _)); (fail_if_success (with_reducible show Code.wp _ (Code.region _ _ true) _ _ _)); (fail_if_success (with_reducible show Code.wp _ (Code.cond _ _ _) _ _ _)); go_step)
        refine wp_cond_true (by first | rfl | exact congrArg Value.bool (decide_eq_true (by omega))) ?_
        skip
        by_cases hin : 0 ≤ o.i ∧ o.i < M.length
        · obtain ⟨i, hoi⟩ : ∃ i : Nat, o.i = (i : Int) := ⟨o.i.toNat, by omega⟩
          have hi : i < M.length := by omega
          have hiR : i < MR.length := by omega
          have Hoi := Lib.hid (congrArg (fun z => some (Value.int .i64 z)) hoi)
          clear hoi hin
          by_cases hin2 : 0 ≤ o.k ∧ o.k < M.length
          · obtain ⟨k, hok2⟩ : ∃ k : Nat, o.k = (k : Int) := ⟨o.k.toNat, by omega⟩
            have hkk : k < M.length := by omega
            have hkR : k < MR.length := by omega
            have Hok2 := Lib.hid (congrArg (fun z => some (Value.int .i64 z)) hok2)
            have g1 : M[i]? = some M[i] := List.getElem?_eq_getElem hi
            have g2 : MR[i]? = some MR[i] := List.getElem?_eq_getElem hiR
            have g3 : M[k]? = some M[k] := List.getElem?_eq_getElem hkk
            have g4 : MR[k]? = some MR[k] := List.getElem?_eq_getElem hkR
            obtain ⟨m, hme⟩ : ∃ m, M[i] = m := ⟨_, rfl⟩
            obtain ⟨n, hne⟩ : ∃ m, MR[i] = m := ⟨_, rfl⟩
            obtain ⟨m2, hme2⟩ : ∃ m, M[k] = m := ⟨_, rfl⟩
            obtain ⟨n2, hne2⟩ : ∃ m, MR[k] = m := ⟨_, rfl⟩
            rw [hme] at g1
            rw [hne] at g2
            rw [hme2] at g3
            rw [hne2] at g4
            have hmk := key_at Hk.out g1 g2
            have hmk2 := key_at Hk.out g3 g4
            have G1 := Lib.hid g1
            have G2 := Lib.hid g2
            have G3 := Lib.hid g3
            have G4 := Lib.hid g4
            clear g1 g2 g3 g4 hme hne hme2 hne2 hok2 hin2
            repeat ((fail_if_success (with_reducible show wpList _ _ _ (List.cons _ _) _ _)); (fail_if_success (with_reducible show Code.wp _ (Code.region _ _ true) _ _ _)); go_step)
            (with_reducible refine' wl_valS ?_ ?_ ?_); rotate_left; exact rfl; exact (v_moveT (.inl rfl) rfl)
            simp only [Act.put, List.setIfInBounds_toArray, List.set_cons_zero, List.set_cons_succ]
            (with_reducible refine' wl_valS ?_ ?_ ?_); rotate_left; exact rfl; exact (v_fieldB (s := 0) rfl rfl Tryd.underlying36 rfl (by kernel_rfl) rfl)
            simp only [Act.put, List.setIfInBounds_toArray, List.set_cons_zero, List.set_cons_succ]
            (with_reducible refine' wl_valS ?_ ?_ ?_); rotate_left; exact rfl; exact (v_cellB (v := .int .i64 (i : Int)) (i := 0) hC rfl rfl rfl Tryd.underlying3 rfl Hoi.out)
            simp only [Act.put, List.setIfInBounds_toArray, List.set_cons_zero, List.set_cons_succ]
            (with_reducible refine' wl_valS ?_ ?_ ?_); rotate_left; exact rfl; exact (v_fieldB (s := 0) rfl rfl Tryd.underlying36 rfl (by kernel_rfl) rfl)
            simp only [Act.put, List.setIfInBounds_toArray, List.set_cons_zero, List.set_cons_succ]
            (with_reducible refine' wl_valS ?_ ?_ ?_); rotate_left; exact rfl; exact (v_cellB (v := .int .i64 (k : Int)) (i := 0) hC rfl rfl rfl Tryd.underlying3 rfl Hok2.out)
            simp only [Act.put, List.setIfInBounds_toArray, List.set_cons_zero, List.set_cons_succ]
            refine wl_step (st_calls rfl (run_call rfl Tryd.call19) (HP.out.swap (X := [opq g0 o]) hC hmo G1.out G3.out) ?_)
            rintro _ w21 ⟨b1, rfl, hP1, hE21⟩
            skip
            refine ⟨_, rfl, ?_⟩
            clear hC
            simp only [Act.put, List.setIfInBounds_toArray, List.set_cons_zero, List.set_cons_succ]
            (with_reducible refine' wl_valS ?_ ?_ ?_); rotate_left; exact rfl; exact (v_moveT (.inr rfl) rfl)
            simp only [Act.put, List.setIfInBounds_toArray, List.set_cons_zero, List.set_cons_succ]
            repeat ((fail_if_success (with_reducible show wpList _ _ _ (List.cons _ _) _ _)); (fail_if_success (with_reducible show Code.wp _ (Code.region _ _ true) _ _ _)); go_step)
            (with_reducible refine' wl_valS ?_ ?_ ?_); rotate_left; exact rfl; exact (v_moveT (.inl rfl) rfl)
            simp only [Act.put, List.setIfInBounds_toArray, List.set_cons_zero, List.set_cons_succ]
            (with_reducible refine' wl_valS ?_ ?_ ?_); rotate_left; exact rfl; exact (v_fieldB (s := 0) rfl rfl Tryd.underlying36 rfl (by kernel_rfl) rfl)
            simp only [Act.put, List.setIfInBounds_toArray, List.set_cons_zero, List.set_cons_succ]
            (with_reducible refine' wl_valS ?_ ?_ ?_); rotate_left; exact rfl; exact (v_cellB (v := .int .i64 (i : Int)) (i := 0) hE21 rfl rfl rfl Tryd.underlying3 rfl Hoi.out)
            simp only [Act.put, List.setIfInBounds_toArray, List.set_cons_zero, List.set_cons_succ]
            refine wl_step (st_gives hE21 rfl (run_call rfl Tryd.call20) (rThere_in (CE.ref (X := [opq g0 o]) hE21) hRl hiR) ?_)
            intro w22 hb22 hE22
            clear hE21
            simp only [Act.put, List.setIfInBounds_toArray, List.set_cons_zero, List.set_cons_succ]
            (with_reducible refine' wl_valS ?_ ?_ ?_); rotate_left; exact rfl; exact (v_not rfl rfl)
            simp only [Act.put, List.setIfInBounds_toArray, List.set_cons_zero, List.set_cons_succ]
            (with_reducible refine' wl_valS ?_ ?_ ?_); rotate_left; exact rfl; exact (v_moveT (.inl rfl) rfl)
            simp only [Act.put, List.setIfInBounds_toArray, List.set_cons_zero, List.set_cons_succ]
            (with_reducible refine' wl_valS ?_ ?_ ?_); rotate_left; exact rfl; exact (v_moveT (.inl rfl) rfl)
            simp only [Act.put, List.setIfInBounds_toArray, List.set_cons_zero, List.set_cons_succ]
            (with_reducible refine' wl_valS ?_ ?_ ?_); rotate_left; exact rfl; exact (v_fieldB (s := 0) rfl rfl Tryd.underlying36 rfl (by kernel_rfl) rfl)
            simp only [Act.put, List.setIfInBounds_toArray, List.set_cons_zero, List.set_cons_succ]
            (with_reducible refine' wl_valS ?_ ?_ ?_); rotate_left; exact rfl; exact (v_cellB (v := .int .i64 (k : Int)) (i := 0) hE22 rfl rfl rfl Tryd.underlying3 rfl Hok2.out)
            simp only [Act.put, List.setIfInBounds_toArray, List.set_cons_zero, List.set_cons_succ]
            refine wl_step (st_gives hE22 rfl (run_call rfl Tryd.call20) (rThere_in (CE.ref (X := [opq g0 o]) hE22) hRl hkR) ?_)
            intro w23 hb23 hE23
            clear hE22
            simp only [Act.put, List.setIfInBounds_toArray, List.set_cons_zero, List.set_cons_succ]
            (with_reducible refine' wl_valS ?_ ?_ ?_); rotate_left; exact rfl; exact (v_not rfl rfl)
            simp only [Act.put, List.setIfInBounds_toArray, List.set_cons_zero, List.set_cons_succ]
            (with_reducible refine' wl_valS ?_ ?_ ?_); rotate_left; exact rfl; exact (v_orF rfl rfl rfl)
            simp only [Act.put, List.setIfInBounds_toArray, List.set_cons_zero, List.set_cons_succ]
            repeat ((fail_if_success (with_reducible show wpList _ _ _ (List.cons _ _) _ _)); (fail_if_success (with_reducible show Code.wp _ (Code.region _ _ true) _ _ _)); (fail_if_success (with_reducible show Code.wp _ (Code.cond _ _ _) _ _ _)); go_step)
            refine wp_cond_false (by first | rfl | exact congrArg Value.bool (decide_eq_false (by omega))) ?_
            skip
            repeat ((fail_if_success (with_reducible show wpList _ _ _ (List.cons _ _) _ _)); (fail_if_success (with_reducible show Code.wp _ (Code.region _ _ true) _ _ _)); go_step)
            (with_reducible refine' wl_valS ?_ ?_ ?_); rotate_left; exact rfl; exact (v_moveT (.inl rfl) rfl)
            simp only [Act.put, List.setIfInBounds_toArray, List.set_cons_zero, List.set_cons_succ]
            (with_reducible refine' wl_valS ?_ ?_ ?_); rotate_left; exact rfl; exact (v_fieldB (s := 0) rfl rfl Tryd.underlying36 rfl (by kernel_rfl) rfl)
            simp only [Act.put, List.setIfInBounds_toArray, List.set_cons_zero, List.set_cons_succ]
            (with_reducible refine' wl_valS ?_ ?_ ?_); rotate_left; exact rfl; exact (v_cellB (v := .int .i64 (i : Int)) (i := 0) hE23 rfl rfl rfl Tryd.underlying3 rfl Hoi.out)
            simp only [Act.put, List.setIfInBounds_toArray, List.set_cons_zero, List.set_cons_succ]
            (with_reducible refine' wl_valS ?_ ?_ ?_); rotate_left; exact rfl; exact (v_fieldB (s := 0) rfl rfl Tryd.underlying36 rfl (by kernel_rfl) rfl)
            simp only [Act.put, List.setIfInBounds_toArray, List.set_cons_zero, List.set_cons_succ]
            (with_reducible refine' wl_valS ?_ ?_ ?_); rotate_left; exact rfl; exact (v_cellB (v := .int .i64 (k : Int)) (i := 0) hE23 rfl rfl rfl Tryd.underlying3 rfl Hok2.out)
            simp only [Act.put, List.setIfInBounds_toArray, List.set_cons_zero, List.set_cons_succ]
            refine wl_step (st_calls rfl (run_call rfl Tryd.call24) (HR.out.swap (X := [opq g0 o]) hE23 hRl G2.out G4.out) ?_)
            rintro _ w24 ⟨v2, b2, rfl, hR2, hE24⟩
            skip
            refine ⟨_, rfl, ?_⟩
            clear hE23
            simp only [Act.put, List.setIfInBounds_toArray, List.set_cons_zero, List.set_cons_succ]
            repeat ((fail_if_success (with_reducible show wpList _ _ _ (List.cons _ _) _ _)); (fail_if_success (with_reducible show Code.wp _ (Code.region _ _ true) _ _ _)); go_step)
            (with_reducible refine' wl_valS ?_ ?_ ?_); rotate_left; exact rfl; exact (v_moveT (.inl rfl) rfl)
            simp only [Act.put, List.setIfInBounds_toArray, List.set_cons_zero, List.set_cons_succ]
            (with_reducible refine' wl_valS ?_ ?_ ?_); rotate_left; exact rfl; exact (v_run fun w9 => by go_simp; with_reducible rfl)
            simp only [Act.put, List.setIfInBounds_toArray, List.set_cons_zero, List.set_cons_succ]
            (with_reducible refine' wl_valS ?_ ?_ ?_); rotate_left; exact rfl; exact (v_moveT (.inr rfl) rfl)
            simp only [Act.put, List.setIfInBounds_toArray, List.set_cons_zero, List.set_cons_succ]
            repeat ((fail_if_success (with_reducible show wpList _ _ _ (List.cons _ _) _ _)); (fail_if_success (with_reducible show Code.wp _ (Code.region _ _ true) _ _ _)); (fail_if_success (with_reducible show Code.wp _ (Code.cond _ _ _) _ _ _)); go_step)
            go_returns
            exact ⟨rfl, _, _, _, b1, v2, b2, R, hP1, hR2, keys_swap Hk.out hmk hmk2, (hE24).sub (List.sublist_append_right _ _)⟩
          · have hin2R : ¬ (0 ≤ o.k ∧ o.k < MR.length) := by rw [← hlen]; exact hin2
            repeat ((fail_if_success (with_reducible show wpList _ _ _ (List.cons _ _) _ _)); (fail_if_success (with_reducible show Code.wp _ (Code.region _ _ true) _ _ _)); go_step)
            (with_reducible refine' wl_valS ?_ ?_ ?_); rotate_left; exact rfl; exact (v_moveT (.inl rfl) rfl)
            simp only [Act.put, List.setIfInBounds_toArray, List.set_cons_zero, List.set_cons_succ]
            (with_reducible refine' wl_valS ?_ ?_ ?_); rotate_left; exact rfl; exact (v_fieldB (s := 0) rfl rfl Tryd.underlying36 rfl (by kernel_rfl) rfl)
            simp only [Act.put, List.setIfInBounds_toArray, List.set_cons_zero, List.set_cons_succ]
            (with_reducible refine' wl_valS ?_ ?_ ?_); rotate_left; exact rfl; exact (v_cellB (v := .int .i64 (i : Int)) (i := 0) hC rfl rfl rfl Tryd.underlying3 rfl Hoi.out)
            simp only [Act.put, List.setIfInBounds_toArray, List.set_cons_zero, List.set_cons_succ]
            (with_reducible refine' wl_valS ?_ ?_ ?_); rotate_left; exact rfl; exact (v_fieldB (s := 0) rfl rfl Tryd.underlying36 rfl (by kernel_rfl) rfl)
            simp only [Act.put, List.setIfInBounds_toArray, List.set_cons_zero, List.set_cons_succ]
            (with_reducible refine' wl_valS ?_ ?_ ?_); rotate_left; exact rfl; exact (v_cellB (v := .int .i64 o.k) (i := 0) hC rfl rfl rfl Tryd.underlying3 rfl rfl)
            simp only [Act.put, List.setIfInBounds_toArray, List.set_cons_zero, List.set_cons_succ]
            refine wl_step (st_gives hC rfl (run_call rfl Tryd.call19) (Swap_out2 (CE.net (X := [opq g0 o]) hC) hMl hi hin2) ?_)
            intro w21 hb21 hE21
            clear hC
            simp only [Act.put, List.setIfInBounds_toArray, List.set_cons_zero, List.set_cons_succ]
            (with_reducible refine' wl_valS ?_ ?_ ?_); rotate_left; exact rfl; exact (v_moveT (.inr rfl) rfl)
            simp only [Act.put, List.setIfInBounds_toArray, List.set_cons_zero, List.set_cons_succ]
            repeat ((fail_if_success (with_reducible show wpList _ _ _ (List.cons _ _) _ _)); (fail_if_success (with_reducible show Code.wp _ (Code.region _ _ true) _ _ _)); go_step)
            (with_reducible refine' wl_valS ?_ ?_ ?_); rotate_left; exact rfl; exact (v_moveT (.inl rfl) rfl)
            simp only [Act.put, List.setIfInBounds_toArray, List.set_cons_zero, List.set_cons_succ]
            (with_reducible refine' wl_valS ?_ ?_ ?_); rotate_left; exact rfl; exact (v_fieldB (s := 0) rfl rfl Tryd.underlying36 rfl (by kernel_rfl) rfl)
            simp only [Act.put, List.setIfInBounds_toArray, List.set_cons_zero, List.set_cons_succ]
            (with_reducible refine' wl_valS ?_ ?_ ?_); rotate_left; exact rfl; exact (v_cellB (v := .int .i64 (i : Int)) (i := 0) hE21 rfl rfl rfl Tryd.underlying3 rfl Hoi.out)
            simp only [Act.put, List.setIfInBounds_toArray, List.set_cons_zero, List.set_cons_succ]
            refine wl_step (st_gives hE21 rfl (run_call rfl Tryd.call20) (rThere_in (CE.ref (X := [opq g0 o]) hE21) hRl hiR) ?_)
            intro w22 hb22 hE22
            clear hE21
            simp only [Act.put, List.setIfInBounds_toArray, List.set_cons_zero, List.set_cons_succ]
            (with_reducible refine' wl_valS ?_ ?_ ?_); rotate_left; exact rfl; exact (v_not rfl rfl)
            simp only [Act.put, List.setIfInBounds_toArray, List.set_cons_zero, List.set_cons_succ]
            (with_reducible refine' wl_valS ?_ ?_ ?_); rotate_left; exact rfl; exact (v_moveT (.inl rfl) rfl)
            simp only [Act.put, List.setIfInBounds_toArray, List.set_cons_zero, List.set_cons_succ]
            (with_reducible refine' wl_valS ?_ ?_ ?_); rotate_left; exact rfl; exact (v_moveT (.inl rfl) rfl)
            simp only [Act.put, List.setIfInBounds_toArray, List.set_cons_zero, List.set_cons_succ]
            (with_reducible refine' wl_valS ?_ ?_ ?_); rotate_left; exact rfl; exact (v_fieldB (s := 0) rfl rfl Tryd.underlying36 rfl (by kernel_rfl) rfl)
            simp only [Act.put, List.setIfInBounds_toArray, List.set_cons_zero, List.set_cons_succ]
            (with_reducible refine' wl_valS ?_ ?_ ?_); rotate_left; exact rfl; exact (v_cellB (v := .int .i64 o.k) (i := 0) hE22 rfl rfl rfl Tryd.underlying3 rfl rfl)
            simp only [Act.put, List.setIfInBounds_toArray, List.set_cons_zero, List.set_cons_succ]
            refine wl_step (st_gives hE22 rfl (run_call rfl Tryd.call20) (rThere_out (CE.ref (X := [opq g0 o]) hE22) hRl hin2R) ?_)
            intro w23 hb23 hE23
            clear hE22
            simp only [Act.put, List.setIfInBounds_toArray, List.set_cons_zero, List.set_cons_succ]
            (with_reducible refine' wl_valS ?_ ?_ ?_); rotate_left; exact rfl; exact (v_not rfl rfl)
            simp only [Act.put, List.setIfInBounds_toArray, List.set_cons_zero, List.set_cons_succ]
            (with_reducible refine' wl_valS ?_ ?_ ?_); rotate_left; exact rfl; exact (v_orF rfl rfl rfl)
            simp only [Act.put, List.setIfInBounds_toArray, List.set_cons_zero, List.set_cons_succ]
            repeat ((fail_if_success (with_reducible show wpList _ _ _ (List.cons _ _) _ _)); (fail_if_success (with_reducible show Code.wp _ (Code.region _ _ true) _ _ _)); (fail_if_success (with_reducible show Code.wp _ (Code.cond _ _ _) _ _ _)); go_step)
            refine wp_cond_true (by first | rfl | exact congrArg Value.bool (decide_eq_true (by omega))) ?_
            skip
            repeat ((fail_if_success (with_reducible show wpList _ _ _ (List.cons _ _) _ _)); (fail_if_success (with_reducible show Code.wp _ (Code.region _ _ true) _ _ _)); go_step)
            (with_reducible refine' wl_valS ?_ ?_ ?_); rotate_left; exact rfl; exact (v_moveT (.inl rfl) rfl)
            simp only [Act.put, List.setIfInBounds_toArray, List.set_cons_zero, List.set_cons_succ]
            refine wl_step (st_gives hE23 rfl (run_call rfl Tryd.call15) (Code_k hh hE23) ?_)
            intro w24 hb24 hE24
            clear hE23
            simp only [Act.put, List.setIfInBounds_toArray, List.set_cons_zero, List.set_cons_succ]
            (with_reducible refine' wl_valS ?_ ?_ ?_); rotate_left; exact rfl; exact (v_run fun w9 => by go_simp; with_reducible rfl)
            simp only [Act.put, List.setIfInBounds_toArray, List.set_cons_zero, List.set_cons_succ]
            (with_reducible refine' wl_valS ?_ ?_ ?_); rotate_left; exact rfl; exact (v_moveT (.inr rfl) rfl)
            simp only [Act.put, List.setIfInBounds_toArray, List.set_cons_zero, List.set_cons_succ]
            repeat ((fail_if_success (with_reducible show wpList _ _ _ (List.cons _ _) _ _)); (fail_if_success (with_reducible show Code.wp _ (Code.region _ _ true) _ _ _)); (fail_if_success (with_reducible show Code.wp _ (Code.cond _ _ _) _ _ _)); go_step)
            go_returns
            exact ⟨rfl, M, MR, _, _, _, _, R, HP.out, HR.out, Hk.out, (hE24).sub (List.sublist_append_right _ _)⟩
        · have hinR : ¬ (0 ≤ o.i ∧ o.i < MR.length) := by rw [← hlen]; exact hin
          repeat ((fail_if_success (with_reducible show wpList _ _ _ (List.cons _ _) _ _)); (fail_if_success (with_reducible show Code.wp _ (Code.region _ _ true) _ _ _)); go_step)
          (with_reducible refine' wl_valS ?_ ?_ ?_); rotate_left; exact rfl; exact (v_moveT (.inl rfl) rfl)
          simp only [Act.put, List.setIfInBounds_toArray, List.set_cons_zero, List.set_cons_succ]
          (with_reducible refine' wl_valS ?_ ?_ ?_); rotate_left; exact rfl; exact (v_fieldB (s := 0) rfl rfl Tryd.underlying36 rfl (by kernel_rfl) rfl)
          simp only [Act.put, List.setIfInBounds_toArray, List.set_cons_zero, List.set_cons_succ]
          (with_reducible refine' wl_valS ?_ ?_ ?_); rotate_left; exact rfl; exact (v_cellB (v := .int .i64 o.i) (i := 0) hC rfl rfl rfl Tryd.underlying3 rfl rfl)
          simp only [Act.put, List.setIfInBounds_toArray, List.set_cons_zero, List.set_cons_succ]
          (with_reducible refine' wl_valS ?_ ?_ ?_); rotate_left; exact rfl; exact (v_fieldB (s := 0) rfl rfl Tryd.underlying36 rfl (by kernel_rfl) rfl)
          simp only [Act.put, List.setIfInBounds_toArray, List.set_cons_zero, List.set_cons_succ]
          (with_reducible refine' wl_valS ?_ ?_ ?_); rotate_left; exact rfl; exact (v_cellB (v := .int .i64 o.k) (i := 0) hC rfl rfl rfl Tryd.underlying3 rfl rfl)
          simp only [Act.put, List.setIfInBounds_toArray, List.set_cons_zero, List.set_cons_succ]
          refine wl_step (st_gives hC rfl (run_call rfl Tryd.call19) (Swap_out (CE.net (X := [opq g0 o]) hC) hMl hin) ?_)
          intro w21 hb21 hE21
          clear hC
          simp only [Act.put, List.setIfInBounds_toArray, List.set_cons_zero, List.set_cons_succ]
          (with_reducible refine' wl_valS ?_ ?_ ?_); rotate_left; exact rfl; exact (v_moveT (.inr rfl) rfl)
          simp only [Act.put, List.setIfInBounds_toArray, List.set_cons_zero, List.set_cons_succ]
          repeat ((fail_if_success (with_reducible show wpList _ _ _ (List.cons _ _) _ _)); (fail_if_success (with_reducible show Code.wp _ (Code.region _ _ true) _ _ _)); go_step)
          (with_reducible refine' wl_valS ?_ ?_ ?_); rotate_left; exact rfl; exact (v_moveT (.inl rfl) rfl)
          simp only [Act.put, List.setIfInBounds_toArray, List.set_cons_zero, List.set_cons_succ]
          (with_reducible refine' wl_valS ?_ ?_ ?_); rotate_left; exact rfl; exact (v_fieldB (s := 0) rfl rfl Tryd.underlying36 rfl (by kernel_rfl) rfl)
          simp only [Act.put, List.setIfInBounds_toArray, List.set_cons_zero, List.set_cons_succ]
          (with_reducible refine' wl_valS ?_ ?_ ?_); rotate_left; exact rfl; exact (v_cellB (v := .int .i64 o.i) (i := 0) hE21 rfl rfl rfl Tryd.underlying3 rfl rfl)
          simp only [Act.put, List.setIfInBounds_toArray, List.set_cons_zero, List.set_cons_succ]
          refine wl_step (st_gives hE21 rfl (run_call rfl Tryd.call20) (rThere_out (CE.ref (X := [opq g0 o]) hE21) hRl hinR) ?_)
          intro w22 hb22 hE22
          clear hE21
          simp only [Act.put, List.setIfInBounds_toArray, List.set_cons_zero, List.set_cons_succ]
          (with_reducible refine' wl_valS ?_ ?_ ?_); rotate_left; exact rfl; exact (v_not rfl rfl)
          simp only [Act.put, List.setIfInBounds_toArray, List.set_cons_zero, List.set_cons_succ]
          (with_reducible refine' wl_valS ?_ ?_ ?_); rotate_left; exact rfl; exact (v_moveT (.inl rfl) rfl)
          simp only [Act.put, List.setIfInBounds_toArray, List.set_cons_zero, List.set_cons_succ]
          (with_reducible refine wl_skipS ?_ ?_); exact rfl
          simp only [Act.put, List.setIfInBounds_toArray, List.set_cons_zero, List.set_cons_succ]
          (with_reducible refine wl_skipS ?_ ?_); exact rfl
          simp only [Act.put, List.setIfInBounds_toArray, List.set_cons_zero, List.set_cons_succ]
          (with_reducible refine wl_skipS ?_ ?_); exact rfl
          simp only [Act.put, List.setIfInBounds_toArray, List.set_cons_zero, List.set_cons_succ]
          (with_reducible refine wl_skipS ?_ ?_); exact rfl
          simp only [Act.put, List.setIfInBounds_toArray, List.set_cons_zero, List.set_cons_succ]
          (with_reducible refine wl_skipS ?_ ?_); exact rfl
          simp only [Act.put, List.setIfInBounds_toArray, List.set_cons_zero, List.set_cons_succ]
          (with_reducible refine' wl_valS ?_ ?_ ?_); rotate_left; exact rfl; exact (v_orT rfl rfl)
          simp only [Act.put, List.setIfInBounds_toArray, List.set_cons_zero, List.set_cons_succ]
          repeat ((fail_if_success (with_reducible show wpList _ _ _ (List.cons _ _) _ _)); (fail_if_success (with_reducible show Code.wp _ (Code.region _ _ true) _ _ _)); (fail_if_success (with_reducible show Code.wp _ (Code.cond _ _ _) _ _ _)); go_step)
          refine wp_cond_true (by first | rfl | exact congrArg Value.bool (decide_eq_true (by omega))) ?_
          skip
          repeat ((fail_if_success (with_reducible show wpList _ _ _ (List.cons _ _) _ _)); (fail_if_success (with_reducible show Code.wp _ (Code.region _ _ true) _ _ _)); go_step)
          (with_reducible refine' wl_valS ?_ ?_ ?_); rotate_left; exact rfl; exact (v_moveT (.inl rfl) rfl)
          simp only [Act.put, List.setIfInBounds_toArray, List.set_cons_zero, List.set_cons_succ]
          refine wl_step (st_gives hE22 rfl (run_call rfl Tryd.call15) (Code_k hh hE22) ?_)
          intro w23 hb23 hE23
          clear hE22
          simp only [Act.put, List.setIfInBounds_toArray, List.set_cons_zero, List.set_cons_succ]
          (with_reducible refine' wl_valS ?_ ?_ ?_); rotate_left; exact rfl; exact (v_run fun w9 => by go_simp; with_reducible rfl)
          simp only [Act.put, List.setIfInBounds_toArray, List.set_cons_zero, List.set_cons_succ]
          (with_reducible refine' wl_valS ?_ ?_ ?_); rotate_left; exact rfl; exact (v_moveT (.inr rfl) rfl)
          simp only [Act.put, List.setIfInBounds_toArray, List.set_cons_zero, List.set_cons_succ]
          repeat ((fail_if_success (with_reducible show wpList _ _ _ (List.cons _ _) _ _)); (fail_if_success (with_reducible show Code.wp _ (Code.region _ _ true) _ _ _)); (fail_if_success (with_reducible show Code.wp _ (Code.cond _ _ _) _ _ _)); go_step)
          go_returns
          exact ⟨rfl, M, MR, _, _, _, _, R, HP.out, HR.out, Hk.out, (hE23).sub (List.sublist_append_right _ _)⟩
      · have e2 := Lib.hid (decide_eq_false k2)
        repeat ((fail_if_success (with_reducible show wpList _ _ _ (List.cons _ _) _ _)); (fail_if_success (with_reducible show Code.wp _ (Code.region _ _ true) _ _ _)); go_step)
        (with_reducible refine' wl_valS ?_ ?_ ?_); rotate_left; exact rfl; exact (v_eql (m := o.kd) (n := 2) rfl rfl rfl)
        simp only [Act.put, List.setIfInBounds_toArray, List.set_cons_zero, List.set_cons_succ]
        rw [e2.out]
        (with_reducible refine' wl_valS ?_ ?_ ?_); rotate_left; exact rfl; exact (v_moveT (.inr rfl) rfl)
        simp only [Act.put, List.setIfInBounds_toArray, List.set_cons_zero, List.set_cons_succ]
        repeat ((fail_if_success (with_reducible show wpList _ _ _ (List.cons _ _) _ _)); (fail_if_success (with_reducible show Code.wp _ (Code.region _ _ true) _ _ _)); (fail_if_success (with_reducible show Code.wp _ (Code.cond _ _ _) _ _ _)); go_step)
        refine wp_cond_false (by first | rfl | exact congrArg Value.bool (decide_eq_false (by omega))) ?_
        skip
        have hL12 := Hok.out.1
        have hL63 : o.L.length < 9223372036854775808 := by omega
        obtain ⟨pL, cL, hsl, -⟩ := Hro.out.2.1.len
        repeat ((fail_if_success (with_reducible show wpList _ _ _ (List.cons _ _) _ _)); (fail_if_success (with_reducible show Code.wp _ (Code.region _ _ true) _ _ _)); go_step)
        (with_reducible refine' wl_valS ?_ ?_ ?_); rotate_left; exact rfl; exact (v_moveT (.inl rfl) rfl)
        simp only [Act.put, List.setIfInBounds_toArray, List.set_cons_zero, List.set_cons_succ]
        (with_reducible refine' wl_valS ?_ ?_ ?_); rotate_left; exact rfl; exact (v_fieldB (s := 0) rfl rfl Tryd.underlying36 rfl (by kernel_rfl) rfl)
        simp only [Act.put, List.setIfInBounds_toArray, List.set_cons_zero, List.set_cons_succ]
        (with_reducible refine' wl_valS ?_ ?_ ?_); rotate_left; exact rfl; exact (v_cellB (v := o.sl) (i := 0) hC rfl rfl rfl Tryd.underlying31 rfl rfl)
        simp only [Act.put, List.setIfInBounds_toArray, List.set_cons_zero, List.set_cons_succ]
        refine wl_step (st_calls rfl (run_call rfl Tryd.call17) (HP.out.send (X := [opq g0 o]) hC hmo Hro.out.2.1 Hro.out.2.2.1 Hok.out.2 hL12) ?_)
        rintro _ w21 ⟨v1, b1, M1, R1, rfl, hk1, hs1, hP1, hE21⟩
        skip
        refine ⟨_, rfl, ?_⟩
        clear hC
        simp only [Act.put, List.setIfInBounds_toArray, List.set_cons_zero, List.set_cons_succ]
        generalize hr : (if o.L.length ≤ most - M.length then Value.nilIface else errV 12) = r
        (with_reducible refine' wl_valS ?_ ?_ ?_); rotate_left; exact rfl; exact (v_moveT (.inr rfl) rfl)
        simp only [Act.put, List.setIfInBounds_toArray, List.set_cons_zero, List.set_cons_succ]
        repeat ((fail_if_success (with_reducible show wpList _ _ _ (List.cons _ _) _ _)); (fail_if_success (with_reducible show Code.wp _ (Code.region _ _ true) _ _ _)); go_step)
        (with_reducible refine' wl_valS ?_ ?_ ?_); rotate_left; exact rfl; exact (v_moveC (.inr rfl))
        simp only [Act.put, List.setIfInBounds_toArray, List.set_cons_zero, List.set_cons_succ]
        have HP1 := Lib.hid hP1
        have Hk1 := Lib.hid hk1
        have HR1 := Lib.hid (HR.out.more hs1)
        have hst : CE w0 [opq g0 o] gN gR most v1 b1 (.slice pR MR.length cR) bR R1 w21 := hE21
        clear hE21 hP1 hk1
        go_wp2
        go_loopw [12] (fun i wr => ∃ (j : Nat) (v2 : Value) (b2 : List Blk), j ≤ o.L.length ∧ MR.length + j ≤ most ∧ i = .int .i64 j ∧ RS w0 (MR ++ o.L.take j) v2 b2 R1 ∧ CE w0 [opq g0 o] gN gR most v1 b1 v2 b2 R1 wr) (fun i _ => o.L.length - (intOf i).toNat)
        case atStart => exact ⟨0, _, bR, Nat.zero_le _, by omega, rfl, by rw [List.take_zero, List.append_nil]; exact HR1.out, hst⟩
        case round =>
          clear hst
          obtain ⟨j, v2, b2, hj, hjm, rfl, hR2, hE0⟩ := hrel
          have hlj : (MR ++ o.L.take j).length = MR.length + j := by rw [List.length_append, List.length_take, Nat.min_eq_left hj]
          obtain ⟨p2, c2, rfl, -⟩ := hR2.oz.len
          by_cases hjl : j < o.L.length
          · have d1 := Lib.hid (decide_eq_true hjl)
            have g1 : o.L[j]? = some o.L[j] := List.getElem?_eq_getElem hjl
            obtain ⟨m, hme⟩ : ∃ m, o.L[j] = m := ⟨_, rfl⟩
            rw [hme] at g1
            have hmm : m ∈ o.L := List.mem_of_getElem? g1
            have hsee : Sees w0 R1 m := fun w' h => (Hro.out.2.2.1 m hmm).1.below h.below
            have htk : (MR ++ o.L.take j) ++ [m] = MR ++ o.L.take (j + 1) := by rw [List.append_assoc, List.take_succ_eq_append_getElem hjl, hme]
            have hrL := Hro.out.2.1
            rw [hsl] at hrL
            obtain ⟨bL, offL, hpL, -⟩ := hrL.elem hjl
            subst hpL
            have hran : ∀ w', Below w0.heap.size w0 w' → ∀ w1, Below w'.heap.size w' w1 → w1.rangeAt bL (offL + j * 3) [.int .i64 m.fr, .int .i64 m.to, m.sl] := fun w' hb w1 hb1 => by
              obtain ⟨b', off', he, hr'⟩ := (hrL.below hb).elem hjl
              injection he with he
              injection he with h1 h2 _
              subst h1 h2
              have := hr' w1 hb1
              rwa [pcells_at g1] at this
            have Hran := Lib.hid hran
            have Htk := Lib.hid htk
            clear hran htk g1 hme hrL
            repeat ((fail_if_success (with_reducible show wpList _ _ _ (List.cons _ _) _ _)); (fail_if_success (with_reducible show Code.wp _ (Code.region _ _ true) _ _ _)); go_step)
            (with_reducible refine' wl_valS ?_ ?_ ?_); rotate_left; exact rfl; exact (v_moveT (.inl rfl) rfl)
            simp only [Act.put, List.setIfInBounds_toArray, List.set_cons_zero, List.set_cons_succ]
            (with_reducible refine' wl_valS ?_ ?_ ?_); rotate_left; exact rfl; exact (v_fieldB (s := 0) rfl rfl Tryd.underlying36 rfl (by kernel_rfl) rfl)
            simp only [Act.put, List.setIfInBounds_toArray, List.set_cons_zero, List.set_cons_succ]
            (with_reducible refine' wl_valS ?_ ?_ ?_); rotate_left; exact rfl; exact (v_cellB (v := .slice (some ⟨bL, offL, none⟩) o.L.length cL) (i := 0) hE0 rfl rfl rfl Tryd.underlying31 rfl (congrArg some hsl))
            simp only [Act.put, List.setIfInBounds_toArray, List.set_cons_zero, List.set_cons_succ]
            (with_reducible refine' wl_valS ?_ ?_ ?_); rotate_left; exact rfl; exact (v_len rfl rfl Tryd.underlying31 hL63)
            simp only [Act.put, List.setIfInBounds_toArray, List.set_cons_zero, List.set_cons_succ]
            (with_reducible refine' wl_valS ?_ ?_ ?_); rotate_left; exact rfl; exact (v_lss (m := j) (n := o.L.length) rfl rfl rfl)
            simp only [Act.put, List.setIfInBounds_toArray, List.set_cons_zero, List.set_cons_succ]
            rw [d1.out]
            repeat ((fail_if_success (with_reducible show wpList _ _ _ (List.cons _ _) _ _)); (fail_if_success (with_reducible show Code.wp _ (Code.region _ _ true) _ _ _)); (fail_if_success (with_reducible show Code.wp _ (Code.cond _ _ _) _ _ _)); go_step)
            refine wp_cond_true (by first | rfl | exact congrArg Value.bool (decide_eq_true (by omega))) ?_
            skip
            by_cases hroom : MR.length + j < most
            · have hlt : (MR ++ o.L.take j).length < most := by omega
              repeat ((fail_if_success (with_reducible show wpList _ _ _ (List.cons _ _) _ _)); (fail_if_success (with_reducible show Code.wp _ (Code.region _ _ true) _ _ _)); go_step)
              (with_reducible refine' wl_valS ?_ ?_ ?_); rotate_left; exact rfl; exact (v_moveT (.inl rfl) rfl)
              simp only [Act.put, List.setIfInBounds_toArray, List.set_cons_zero, List.set_cons_succ]
              (with_reducible refine' wl_valS ?_ ?_ ?_); rotate_left; exact rfl; exact (v_fieldB (s := 0) rfl rfl Tryd.underlying36 rfl (by kernel_rfl) rfl)
              simp only [Act.put, List.setIfInBounds_toArray, List.set_cons_zero, List.set_cons_succ]
              (with_reducible refine' wl_valS ?_ ?_ ?_); rotate_left; exact rfl; exact (v_cellB (v := .slice (some ⟨bL, offL, none⟩) o.L.length cL) (i := 0) hE0 rfl rfl rfl Tryd.underlying31 rfl (congrArg some hsl))
              simp only [Act.put, List.setIfInBounds_toArray, List.set_cons_zero, List.set_cons_succ]
              (with_reducible refine' wl_valS ?_ ?_ ?_); rotate_left; exact rfl; exact (v_moveT (.inl rfl) rfl)
              simp only [Act.put, List.setIfInBounds_toArray, List.set_cons_zero, List.set_cons_succ]
              (with_reducible refine' wl_valS ?_ ?_ ?_); rotate_left; exact rfl; exact (v_indexSs (s := 3) rfl rfl rfl Tryd.underlying31 (by kernel_rfl) hjl)
              simp only [Act.put, List.setIfInBounds_toArray, List.set_cons_zero, List.set_cons_succ]
              (with_reducible refine' wl_valS ?_ ?_ ?_); rotate_left; exact rfl; exact (v_loadMid (cs := #[.int .i64 m.fr, .int .i64 m.to, m.sl]) rfl rfl (Hran.out _ hE0.below) Tryd.underlying43 rfl (by kernel_rfl))
              simp only [Act.put, List.setIfInBounds_toArray, List.set_cons_zero, List.set_cons_succ]
              refine wl_step (st_calls rfl (run_call rfl Tryd.call23) (hR2.send (X := [opq g0 o]) hE0 hsee hlt hmo) ?_)
              rintro _ w21 ⟨v3, b3, rfl, hR3, hE21⟩
              skip
              refine ⟨_, rfl, ?_⟩
              clear hE0
              simp only [Act.put, List.setIfInBounds_toArray, List.set_cons_zero, List.set_cons_succ]
              (with_reducible refine' wl_valS ?_ ?_ ?_); rotate_left; exact rfl; exact (v_not rfl rfl)
              simp only [Act.put, List.setIfInBounds_toArray, List.set_cons_zero, List.set_cons_succ]
              repeat ((fail_if_success (with_reducible show wpList _ _ _ (List.cons _ _) _ _)); (fail_if_success (with_reducible show Code.wp _ (Code.region _ _ true) _ _ _)); (fail_if_success (with_reducible show Code.wp _ (Code.cond _ _ _) _ _ _)); go_step)
              refine wp_cond_false (by first | rfl | exact congrArg Value.bool (decide_eq_false (by omega))) ?_
              skip
              repeat ((fail_if_success (with_reducible show wpList _ _ _ (List.cons _ _) _ _)); (fail_if_success (with_reducible show Code.wp _ (Code.region _ _ true) _ _ _)); go_step)
              (with_reducible refine' wl_valS ?_ ?_ ?_); rotate_left; exact rfl; exact (v_moveT (.inl rfl) rfl)
              simp only [Act.put, List.setIfInBounds_toArray, List.set_cons_zero, List.set_cons_succ]
              (with_reducible refine' wl_valS ?_ ?_ ?_); rotate_left; exact rfl; exact (v_add (n := 1) rfl rfl rfl (w_i64 (by omega)))
              simp only [Act.put, List.setIfInBounds_toArray, List.set_cons_zero, List.set_cons_succ]
              (with_reducible refine' wl_valS ?_ ?_ ?_); rotate_left; exact rfl; exact (v_moveT (.inr rfl) rfl)
              simp only [Act.put, List.setIfInBounds_toArray, List.set_cons_zero, List.set_cons_succ]
              go_wp2
              go_roundw
              case rel => exact ⟨j + 1, v3, b3, by omega, by omega, rfl, by rw [← Htk.out]; exact hR3, hE21⟩
              case measure => simp [intOf]; omega
            · have hge : most ≤ (MR ++ o.L.take j).length := by omega
              have hlt6 : (MR ++ o.L.take j).length < 1000000 := by omega
              have hr12 : r = errV 12 := by rw [← hr]; exact if_neg (by omega)
              clear hr
              subst hr12
              repeat ((fail_if_success (with_reducible show wpList _ _ _ (List.cons _ _) _ _)); (fail_if_success (with_reducible show Code.wp _ (Code.region _ _ true) _ _ _)); go_step)
              (with_reducible refine' wl_valS ?_ ?_ ?_); rotate_left; exact rfl; exact (v_moveT (.inl rfl) rfl)
              simp only [Act.put, List.setIfInBounds_toArray, List.set_cons_zero, List.set_cons_succ]
              (with_reducible refine' wl_valS ?_ ?_ ?_); rotate_left; exact rfl; exact (v_fieldB (s := 0) rfl rfl Tryd.underlying36 rfl (by kernel_rfl) rfl)
              simp only [Act.put, List.setIfInBounds_toArray, List.set_cons_zero, List.set_cons_succ]
              (with_reducible refine' wl_valS ?_ ?_ ?_); rotate_left; exact rfl; exact (v_cellB (v := .slice (some ⟨bL, offL, none⟩) o.L.length cL) (i := 0) hE0 rfl rfl rfl Tryd.underlying31 rfl (congrArg some hsl))
              simp only [Act.put, List.setIfInBounds_toArray, List.set_cons_zero, List.set_cons_succ]
              (with_reducible refine' wl_valS ?_ ?_ ?_); rotate_left; exact rfl; exact (v_moveT (.inl rfl) rfl)
              simp only [Act.put, List.setIfInBounds_toArray, List.set_cons_zero, List.set_cons_succ]
              (with_reducible refine' wl_valS ?_ ?_ ?_); rotate_left; exact rfl; exact (v_indexSs (s := 3) rfl rfl rfl Tryd.underlying31 (by kernel_rfl) hjl)
              simp only [Act.put, List.setIfInBounds_toArray, List.set_cons_zero, List.set_cons_succ]
              (with_reducible refine' wl_valS ?_ ?_ ?_); rotate_left; exact rfl; exact (v_loadMid (cs := #[.int .i64 m.fr, .int .i64 m.to, m.sl]) rfl rfl (Hran.out _ hE0.below) Tryd.underlying43 rfl (by kernel_rfl))
              simp only [Act.put, List.setIfInBounds_toArray, List.set_cons_zero, List.set_cons_succ]
              refine wl_step (st_calls rfl (run_call rfl Tryd.call23) (hR2.sendNo (X := [opq g0 o]) hE0 hsee hge hlt6) ?_)
              rintro _ w21 ⟨rfl, hE21⟩
              skip
              refine ⟨_, rfl, ?_⟩
              clear hE0
              simp only [Act.put, List.setIfInBounds_toArray, List.set_cons_zero, List.set_cons_succ]
              (with_reducible refine' wl_valS ?_ ?_ ?_); rotate_left; exact rfl; exact (v_not rfl rfl)
              simp only [Act.put, List.setIfInBounds_toArray, List.set_cons_zero, List.set_cons_succ]
              repeat ((fail_if_success (with_reducible show wpList _ _ _ (List.cons _ _) _ _)); (fail_if_success (with_reducible show Code.wp _ (Code.region _ _ true) _ _ _)); (fail_if_success (with_reducible show Code.wp _ (Code.cond _ _ _) _ _ _)); go_step)
              refine wp_cond_true (by first | rfl | exact congrArg Value.bool (decide_eq_true (by omega))) ?_
              skip
              repeat ((fail_if_success (with_reducible show wpList _ _ _ (List.cons _ _) _ _)); (fail_if_success (with_reducible show Code.wp _ (Code.region _ _ true) _ _ _)); go_step)
              (with_reducible refine' wl_valS ?_ ?_ ?_); rotate_left; exact rfl; exact (v_moveT (.inl rfl) rfl)
              simp only [Act.put, List.setIfInBounds_toArray, List.set_cons_zero, List.set_cons_succ]
              refine wl_step (st_gives hE21 rfl (run_call rfl Tryd.call15) (Code_k hh hE21) ?_)
              intro w22 hb22 hE22
              clear hE21
              simp only [Act.put, List.setIfInBounds_toArray, List.set_cons_zero, List.set_cons_succ]
              (with_reducible refine' wl_valS ?_ ?_ ?_); rotate_left; exact rfl; exact (v_run fun w9 => by go_simp; with_reducible rfl)
              simp only [Act.put, List.setIfInBounds_toArray, List.set_cons_zero, List.set_cons_succ]
              (with_reducible refine' wl_valS ?_ ?_ ?_); rotate_left; exact rfl; exact (v_moveT (.inr rfl) rfl)
              simp only [Act.put, List.setIfInBounds_toArray, List.set_cons_zero, List.set_cons_succ]
              repeat ((fail_if_success (with_reducible show wpList _ _ _ (List.cons _ _) _ _)); (fail_if_success (with_reducible show Code.wp _ (Code.region _ _ true) _ _ _)); (fail_if_success (with_reducible show Code.wp _ (Code.cond _ _ _) _ _ _)); go_step)
              go_returns
              refine ⟨rfl, M1, MR ++ o.L.take j, v1, b1, _, b2, R1, HP1.out, hR2, ?_, (hE22).sub (List.sublist_append_right _ _)⟩
              rw [Hk1.out, show most - M.length = j by omega, List.map_append, List.map_append, Hk.out]
          · have hj' : j = o.L.length := by omega
            have d1 := Lib.hid (decide_eq_false hjl)
            have hr0 : r = .nilIface := by rw [← hr]; exact if_pos (by omega)
            clear hr
            subst hr0
            repeat ((fail_if_success (with_reducible show wpList _ _ _ (List.cons _ _) _ _)); (fail_if_success (with_reducible show Code.wp _ (Code.region _ _ true) _ _ _)); go_step)
            (with_reducible refine' wl_valS ?_ ?_ ?_); rotate_left; exact rfl; exact (v_moveT (.inl rfl) rfl)
            simp only [Act.put, List.setIfInBounds_toArray, List.set_cons_zero, List.set_cons_succ]
            (with_reducible refine' wl_valS ?_ ?_ ?_); rotate_left; exact rfl; exact (v_fieldB (s := 0) rfl rfl Tryd.underlying36 rfl (by kernel_rfl) rfl)
            simp only [Act.put, List.setIfInBounds_toArray, List.set_cons_zero, List.set_cons_succ]
            (with_reducible refine' wl_valS ?_ ?_ ?_); rotate_left; exact rfl; exact (v_cellB (v := .slice pL o.L.length cL) (i := 0) hE0 rfl rfl rfl Tryd.underlying31 rfl (congrArg some hsl))
            simp only [Act.put, List.setIfInBounds_toArray, List.set_cons_zero, List.set_cons_succ]
            (with_reducible refine' wl_valS ?_ ?_ ?_); rotate_left; exact rfl; exact (v_len rfl rfl Tryd.underlying31 hL63)
            simp only [Act.put, List.setIfInBounds_toArray, List.set_cons_zero, List.set_cons_succ]
            (with_reducible refine' wl_valS ?_ ?_ ?_); rotate_left; exact rfl; exact (v_lss (m := j) (n := o.L.length) rfl rfl rfl)
            simp only [Act.put, List.setIfInBounds_toArray, List.set_cons_zero, List.set_cons_succ]
            rw [d1.out]
            repeat ((fail_if_success (with_reducible show wpList _ _ _ (List.cons _ _) _ _)); (fail_if_success (with_reducible show Code.wp _ (Code.region _ _ true) _ _ _)); (fail_if_success (with_reducible show Code.wp _ (Code.cond _ _ _) _ _ _)); go_step)
            refine wp_cond_false (by first | rfl | exact congrArg Value.bool (decide_eq_false (by omega))) ?_
            skip
            repeat ((fail_if_success (with_reducible show wpList _ _ _ (List.cons _ _) _ _)); (fail_if_success (with_reducible show Code.wp _ (Code.region _ _ true) _ _ _)); go_step)
            (with_reducible refine' wl_valS ?_ ?_ ?_); rotate_left; exact rfl; exact (v_moveT (.inl rfl) rfl)
            simp only [Act.put, List.setIfInBounds_toArray, List.set_cons_zero, List.set_cons_succ]
            (with_reducible refine' wl_valS ?_ ?_ ?_); rotate_left; exact rfl; exact (v_run fun w9 => by go_simp; with_reducible rfl)
            simp only [Act.put, List.setIfInBounds_toArray, List.set_cons_zero, List.set_cons_succ]
            (with_reducible refine' wl_valS ?_ ?_ ?_); rotate_left; exact rfl; exact (v_moveT (.inr rfl) rfl)
            simp only [Act.put, List.setIfInBounds_toArray, List.set_cons_zero, List.set_cons_succ]
            repeat ((fail_if_success (with_reducible show wpList _ _ _ (List.cons _ _) _ _)); (fail_if_success (with_reducible show Code.wp _ (Code.region _ _ true) _ _ _)); (fail_if_success (with_reducible show Code.wp _ (Code.cond _ _ _) _ _ _)); go_step)
            go_returns
            refine ⟨rfl, M1, MR ++ o.L.take j, v1, b1, _, b2, R1, HP1.out, hR2, ?_, (hE0).sub (List.sublist_append_right _ _)⟩
            rw [Hk1.out, hj', List.take_of_length_le (by omega : o.L.length ≤ most - M.length), List.take_length, List.map_append, List.map_append, Hk.out]
end Go.Proofs.YtnbbehgcnodfbaaDoor
