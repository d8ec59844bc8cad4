/-
  Layer 28: what is done with a packet that is there; a packet taken.
-/
import Derived.Test.YtnbbehgcnodfbaaDoorNetD
namespace Go.Proofs.YtnbbehgcnodfbaaDoor
open Go.RowKit
set_option maxRecDepth 100000
set_option linter.unusedVariables false
set_option linter.unusedSimpArgs false

theorem run_callValue {P : Program} {o : Oper} {a : Act} {w : World} {x : Operand} {L : List Operand} {ts : Array TypeId} {f : FuncId} {fr cap : Array Value} (ho : o.op = .call { callee := .value x, args := L.toArray, argTypes := ts }) (hx : a.eval x = .func (.func f) fr cap)
    (hc : ∀ (args : Array Value) (w : World), (callFunc f args).run P w = .ok (.enter f args) w) : (execOp a.eval o).run P w = .ok (.enter f (fr ++ (L.map a.eval).toArray ++ cap)) w := by
  unfold execOp
  simp only [ho, resolve, hx, Deferred.ofValue, Sem.run_bind, Sem.run_pure, Result.andThen_ok, invoke]
  simp [hc, Sem.run_pure]
theorem pm5 (a b c d e : Blk) (x y : List Blk) : (a :: (b :: (c :: (d :: (e :: (x ++ y)))))).Perm (x ++ (a :: (b :: (c :: (d :: (e :: y)))))) := by
  classical
  exact List.perm_iff_count.2 fun c => by simp only [List.count_append, List.count_cons, List.count_nil]; omega

set_option maxHeartbeats 4000000 in
theorem with_in {g n c most f : Nat} {p : Option Addr} {w : World} {fr : Nat × Nat} {caps : List Value} {R : Ending → World → Prop} {i : Nat} (hg : w.heap[g]? = some (.cells #[.slice p n c, .int .i64 (most : Int)] 56 fr)) (hn : n < 1000000) (hi : i < n)
    (hc : ∀ (args : Array Value) (w : World), (callFunc f args).run Tryd.prog w = .ok (.enter f args) w) (hF : Calls Tryd.prog f caps.toArray w R) (hR : ∀ e w', R e w' → ∃ v, e = .returned v) :
    Calls Tryd.prog 27 #[.pointer (some ⟨g, 0, none⟩), .int .i64 (i : Int), .func (.func f) #[] caps.toArray] w R := by
  have Hg := Lib.hid hg
  have Hc := Lib.hid hc
  have HR := Lib.hid hR
  have hF' : Calls Tryd.prog f (#[] ++ (([] : List Operand).map fun _ => undef).toArray ++ caps.toArray) w R := by simpa using hF
  have HF := Lib.hid hF'
  have hn63 : n < 9223372036854775808 := by omega
  have d1 := Lib.hid (decide_eq_false (show ¬ (i : Int) < 0 by omega))
  have d2 := Lib.hid (decide_eq_false (show ¬ (n : Int) ≤ (i : Int) by omega))
  clear hg hc hF hR hF'
  have hE0 := Env.nil w
  go_enter Tryd.func27, Tryd.ntmps27
  repeat ((fail_if_success (with_reducible show wpList _ _ _ (List.cons _ _) _ _)); (fail_if_success (with_reducible show Code.wp _ (Code.region _ _ true) _ _ _)); go_step)
  refine wl_step (st_val rfl (v_moveC (.inr rfl)) ?_)
  simp only [Act.put, List.setIfInBounds_toArray, List.set_cons_zero, List.set_cons_succ]
  repeat ((fail_if_success (with_reducible show wpList _ _ _ (List.cons _ _) _ _)); (fail_if_success (with_reducible show Code.wp _ (Code.region _ _ true) _ _ _)); go_step)
  refine wl_step (st_val rfl (v_moveT (.inl rfl) rfl) ?_)
  simp only [Act.put, List.setIfInBounds_toArray, List.set_cons_zero, List.set_cons_succ]
  refine wl_step (st_val rfl (v_run fun w9 => by go_simp; with_reducible rfl) ?_)
  simp only [Act.put, List.setIfInBounds_toArray, List.set_cons_zero, List.set_cons_succ]
  repeat ((fail_if_success (with_reducible show wpList _ _ _ (List.cons _ _) _ _)); (fail_if_success (with_reducible show Code.wp _ (Code.region _ _ true) _ _ _)); (fail_if_success (with_reducible show Code.wp _ (Code.cond _ _ _) _ _ _)); go_step)
  refine wp_cond_false (by first | rfl | exact congrArg Value.bool (decide_eq_false (by omega))) ?_
  skip
  repeat ((fail_if_success (with_reducible show wpList _ _ _ (List.cons _ _) _ _)); (fail_if_success (with_reducible show Code.wp _ (Code.region _ _ true) _ _ _)); go_step)
  refine wl_step (st_val rfl (v_moveT (.inl rfl) rfl) ?_)
  simp only [Act.put, List.setIfInBounds_toArray, List.set_cons_zero, List.set_cons_succ]
  refine wl_step (st_val rfl (v_lssI (n := 0) rfl rfl rfl) ?_)
  simp only [Act.put, List.setIfInBounds_toArray, List.set_cons_zero, List.set_cons_succ]
  rw [d1.out]
  refine wl_step (st_val rfl (v_moveT (.inl rfl) rfl) ?_)
  simp only [Act.put, List.setIfInBounds_toArray, List.set_cons_zero, List.set_cons_succ]
  refine wl_step (st_val rfl (v_moveT (.inl rfl) rfl) ?_)
  simp only [Act.put, List.setIfInBounds_toArray, List.set_cons_zero, List.set_cons_succ]
  refine wl_step (st_val rfl (v_moveT (.inl rfl) rfl) ?_)
  simp only [Act.put, List.setIfInBounds_toArray, List.set_cons_zero, List.set_cons_succ]
  refine wl_step (st_val rfl (v_nil rfl rfl) ?_)
  simp only [Act.put, List.setIfInBounds_toArray, List.set_cons_zero, List.set_cons_succ]
  refine wl_step (st_val rfl (v_field0 (s := 0) rfl rfl Tryd.underlying56 rfl (by kernel_rfl) rfl) ?_)
  simp only [Act.put, List.setIfInBounds_toArray, List.set_cons_zero, List.set_cons_succ]
  refine wl_step (st_val rfl (v_cellW (cs := [.slice p n c, .int .i64 (most : Int)]) Hg.out rfl hE0 rfl rfl Tryd.underlying31 rfl) ?_)
  simp only [Act.put, List.setIfInBounds_toArray, List.set_cons_zero, List.set_cons_succ]
  refine wl_step (st_val rfl (v_len rfl rfl Tryd.underlying31 hn63) ?_)
  simp only [Act.put, List.setIfInBounds_toArray, List.set_cons_zero, List.set_cons_succ]
  refine wl_step (st_val rfl (v_geqI rfl rfl rfl) ?_)
  simp only [Act.put, List.setIfInBounds_toArray, List.set_cons_zero, List.set_cons_succ]
  rw [d2.out]
  refine wl_step (st_val rfl (v_orF rfl rfl rfl) ?_)
  simp only [Act.put, List.setIfInBounds_toArray, List.set_cons_zero, List.set_cons_succ]
  repeat ((fail_if_success (with_reducible show wpList _ _ _ (List.cons _ _) _ _)); (fail_if_success (with_reducible show Code.wp _ (Code.region _ _ true) _ _ _)); (fail_if_success (with_reducible show Code.wp _ (Code.cond _ _ _) _ _ _)); go_step)
  refine wp_cond_false (by first | rfl | exact congrArg Value.bool (decide_eq_false (by omega))) ?_
  skip
  repeat ((fail_if_success (with_reducible show wpList _ _ _ (List.cons _ _) _ _)); (fail_if_success (with_reducible show Code.wp _ (Code.region _ _ true) _ _ _)); go_step)
  refine wl_step (st_val rfl (v_moveT (.inl rfl) rfl) ?_)
  simp only [Act.put, List.setIfInBounds_toArray, List.set_cons_zero, List.set_cons_succ]
  refine wl_step (st_calls rfl (run_callValue rfl rfl Hc.out) HF.out ?_)
  intro e w1 he
  obtain ⟨v, rfl⟩ := HR.out e w1 he
  refine ⟨v, rfl, ?_⟩
  simp only [Act.put, List.setIfInBounds_toArray, List.set_cons_zero, List.set_cons_succ]
  refine wl_step (st_val rfl (v_moveT (.inr rfl) rfl) ?_)
  simp only [Act.put, List.setIfInBounds_toArray, List.set_cons_zero, List.set_cons_succ]
  repeat ((fail_if_success (with_reducible show wpList _ _ _ (List.cons _ _) _ _)); (fail_if_success (with_reducible show Code.wp _ (Code.region _ _ true) _ _ _)); (fail_if_success (with_reducible show Code.wp _ (Code.cond _ _ _) _ _ _)); go_step)
  go_returns
  exact he
set_option maxHeartbeats 4000000 in
theorem with_out {g n c most : Nat} {p : Option Addr} {w : World} {fr : Nat × Nat} {F : Value} {i : Int} (hg : w.heap[g]? = some (.cells #[.slice p n c, .int .i64 (most : Int)] 56 fr)) (hn : n < 1000000) (hi : ¬ (0 ≤ i ∧ i < n)) :
    Gives 27 #[.pointer (some ⟨g, 0, none⟩), .int .i64 i, F] w (errV 7) := by
  have Hg := Lib.hid hg
  have hn63 : n < 9223372036854775808 := by omega
  by_cases hneg : i < 0
  · clear hg Hg hi
    go_enter Tryd.func27, Tryd.ntmps27
    go_wp2
    go_returns
    exact ⟨rfl, Below.refl _ _⟩
  · have d1 := Lib.hid (decide_eq_false hneg)
    have d2 := Lib.hid (decide_eq_true (show (n : Int) ≤ i by omega))
    clear hg hi
    have hE0 := Env.nil w
    go_enter Tryd.func27, Tryd.ntmps27
    repeat ((fail_if_success (with_reducible show wpList _ _ _ (List.cons _ _) _ _)); (fail_if_success (with_reducible show Code.wp _ (Code.region _ _ true) _ _ _)); go_step)
    refine wl_step (st_val rfl (v_moveC (.inr rfl)) ?_)
    simp only [Act.put, List.setIfInBounds_toArray, List.set_cons_zero, List.set_cons_succ]
    repeat ((fail_if_success (with_reducible show wpList _ _ _ (List.cons _ _) _ _)); (fail_if_success (with_reducible show Code.wp _ (Code.region _ _ true) _ _ _)); go_step)
    refine wl_step (st_val rfl (v_moveT (.inl rfl) rfl) ?_)
    simp only [Act.put, List.setIfInBounds_toArray, List.set_cons_zero, List.set_cons_succ]
    refine wl_step (st_val rfl (v_run fun w9 => by go_simp; with_reducible rfl) ?_)
    simp only [Act.put, List.setIfInBounds_toArray, List.set_cons_zero, List.set_cons_succ]
    repeat ((fail_if_success (with_reducible show wpList _ _ _ (List.cons _ _) _ _)); (fail_if_success (with_reducible show Code.wp _ (Code.region _ _ true) _ _ _)); (fail_if_success (with_reducible show Code.wp _ (Code.cond _ _ _) _ _ _)); go_step)
    refine wp_cond_false (by first | rfl | exact congrArg Value.bool (decide_eq_false (by omega))) ?_
    skip
    repeat ((fail_if_success (with_reducible show wpList _ _ _ (List.cons _ _) _ _)); (fail_if_success (with_reducible show Code.wp _ (Code.region _ _ true) _ _ _)); go_step)
    refine wl_step (st_val rfl (v_moveT (.inl rfl) rfl) ?_)
    simp only [Act.put, List.setIfInBounds_toArray, List.set_cons_zero, List.set_cons_succ]
    refine wl_step (st_val rfl (v_lssI (n := 0) rfl rfl rfl) ?_)
    simp only [Act.put, List.setIfInBounds_toArray, List.set_cons_zero, List.set_cons_succ]
    rw [d1.out]
    refine wl_step (st_val rfl (v_moveT (.inl rfl) rfl) ?_)
    simp only [Act.put, List.setIfInBounds_toArray, List.set_cons_zero, List.set_cons_succ]
    refine wl_step (st_val rfl (v_moveT (.inl rfl) rfl) ?_)
    simp only [Act.put, List.setIfInBounds_toArray, List.set_cons_zero, List.set_cons_succ]
    refine wl_step (st_val rfl (v_moveT (.inl rfl) rfl) ?_)
    simp only [Act.put, List.setIfInBounds_toArray, List.set_cons_zero, List.set_cons_succ]
    refine wl_step (st_val rfl (v_nil rfl rfl) ?_)
    simp only [Act.put, List.setIfInBounds_toArray, List.set_cons_zero, List.set_cons_succ]
    refine wl_step (st_val rfl (v_field0 (s := 0) rfl rfl Tryd.underlying56 rfl (by kernel_rfl) rfl) ?_)
    simp only [Act.put, List.setIfInBounds_toArray, List.set_cons_zero, List.set_cons_succ]
    refine wl_step (st_val rfl (v_cellW (cs := [.slice p n c, .int .i64 (most : Int)]) Hg.out rfl hE0 rfl rfl Tryd.underlying31 rfl) ?_)
    simp only [Act.put, List.setIfInBounds_toArray, List.set_cons_zero, List.set_cons_succ]
    refine wl_step (st_val rfl (v_len rfl rfl Tryd.underlying31 hn63) ?_)
    simp only [Act.put, List.setIfInBounds_toArray, List.set_cons_zero, List.set_cons_succ]
    refine wl_step (st_val rfl (v_geqI rfl rfl rfl) ?_)
    simp only [Act.put, List.setIfInBounds_toArray, List.set_cons_zero, List.set_cons_succ]
    rw [d2.out]
    refine wl_step (st_val rfl (v_orF rfl rfl rfl) ?_)
    simp only [Act.put, List.setIfInBounds_toArray, List.set_cons_zero, List.set_cons_succ]
    repeat ((fail_if_success (with_reducible show wpList _ _ _ (List.cons _ _) _ _)); (fail_if_success (with_reducible show Code.wp _ (Code.region _ _ true) _ _ _)); (fail_if_success (with_reducible show Code.wp _ (Code.cond _ _ _) _ _ _)); go_step)
    refine wp_cond_true (by first | rfl | exact congrArg Value.bool (decide_eq_true (by omega))) ?_
    skip
    repeat ((fail_if_success (with_reducible show wpList _ _ _ (List.cons _ _) _ _)); (fail_if_success (with_reducible show Code.wp _ (Code.region _ _ true) _ _ _)); go_step)
    refine wl_step (st_val rfl (v_run fun w9 => by go_simp; with_reducible rfl) ?_)
    simp only [Act.put, List.setIfInBounds_toArray, List.set_cons_zero, List.set_cons_succ]
    refine wl_step (st_val rfl (v_moveT (.inr rfl) rfl) ?_)
    simp only [Act.put, List.setIfInBounds_toArray, List.set_cons_zero, List.set_cons_succ]
    repeat ((fail_if_success (with_reducible show wpList _ _ _ (List.cons _ _) _ _)); (fail_if_success (with_reducible show Code.wp _ (Code.region _ _ true) _ _ _)); go_step)
    go_returns
    exact ⟨rfl, hE0.below⟩

set_option maxHeartbeats 8000000 in
theorem takeF_any {w0 w : World} {g gA gB gC gD most i : Nat} {M : List PV} {m : PV} {R bs : List Blk} {v : Value} (hO : Oz 3 43 M.length (pcells M) v bs) (hS : ∀ m ∈ M, Sees w0 R m) (hm : M[i]? = some m) (hM : M.length < 1000000)
    (hE : Env w0 (⟨gD, 43, #[.int .i64 0, .int .i64 0, .slice none 0 0]⟩ :: (⟨gC, 43, #[.int .i64 0, .int .i64 0, .slice none 0 0]⟩ :: (⟨gB, 3, #[.int .i64 (i : Int)]⟩ :: (⟨gA, 25, #[.pointer (some ⟨g, 0, none⟩)]⟩ :: (⟨g, 56, #[v, .int .i64 (most : Int)]⟩ :: (bs ++ R)))))) w) :
    Calls Tryd.prog 28 #[.pointer (some ⟨gA, 0, none⟩), .pointer (some ⟨gB, 0, none⟩), .pointer (some ⟨gD, 0, none⟩)] w fun e w' => e = .returned .nilIface ∧ ∃ v' bo, Oz 3 43 (M.eraseIdx i).length (pcells (M.eraseIdx i)) v' bo ∧
      Env w0 (⟨gD, 43, #[.int .i64 m.fr, .int .i64 m.to, m.sl]⟩ :: (⟨gC, 43, #[.int .i64 0, .int .i64 0, .slice none 0 0]⟩ :: (⟨gB, 3, #[.int .i64 (i : Int)]⟩ :: (⟨gA, 25, #[.pointer (some ⟨g, 0, none⟩)]⟩ :: (⟨g, 56, #[v', .int .i64 (most : Int)]⟩ :: (bo ++ R)))))) w' := by
  have hi : i < M.length := (List.getElem?_eq_some_iff.1 hm).1
  have hmem : m ∈ M := List.mem_of_getElem? hm
  obtain ⟨p, c, rfl, hc⟩ := hO.len
  have hER : Env w0 R w := hE.sub (by
    refine List.Sublist.cons _ (List.Sublist.cons _ (List.Sublist.cons _ (List.Sublist.cons _ (List.Sublist.cons _ ?_))))
    exact List.sublist_append_right _ _)
  obtain ⟨b, off, rfl, -⟩ := (hO.rd (hE.perm (pm5 ..))).elem hi
  have hran : ∀ (w' : World) (l : List Blk), Env w0 (bs ++ l) w' → ∀ w1, Below w'.heap.size w' w1 → w1.rangeAt b (off + i * 3) m.cells := fun w' l h => by
    obtain ⟨b', off', he, hr⟩ := (hO.rd h).elem hi
    injection he with he
    injection he with h1 h2 _
    subst h1 h2
    rw [pcells_at hm] at hr
    exact hr
  have Hran := Lib.hid hran
  have hone := Sees.cells hS hER
  have HD : Hid (∀ (w' : World) (l : List Blk), Env w0 (bs ++ l) w' → Calls Tryd.prog 29 #[.slice (some ⟨b, off, none⟩) M.length c, .int .i64 (i : Int), .int .i64 ((i + 1 : Nat) : Int)] w' fun e w'' => ∃ v' bs', e = .returned v' ∧ Oz 3 43 (M.eraseIdx i).length (pcells (M.eraseIdx i)) v' bs' ∧ Env w0 (bs' ++ l) w'') := Lib.hid (fun w' l h => Delete_any hO h hone hi hM)
  obtain ⟨pm, cm, hsl, -⟩ := hS m hmem w hER
  have hone3 : (#[Value.int .i64 m.fr, .int .i64 m.to, m.sl]).all (·.oneCell') = true := by
    rw [hsl]
    simp
    exact ⟨rfl, rfl, rfl⟩
  have hE0 := hE
  clear hO hS hm hE hER hran hone
  go_enter Tryd.func28, Tryd.ntmps28
  repeat ((fail_if_success (with_reducible show wpList _ _ _ (List.cons _ _) _ _)); (fail_if_success (with_reducible show Code.wp _ (Code.region _ _ true) _ _ _)); go_step)
  refine wl_step (st_val rfl (v_moveC (.inr rfl)) ?_)
  simp only [Act.put, List.setIfInBounds_toArray, List.set_cons_zero, List.set_cons_succ]
  repeat ((fail_if_success (with_reducible show wpList _ _ _ (List.cons _ _) _ _)); (fail_if_success (with_reducible show Code.wp _ (Code.region _ _ true) _ _ _)); go_step)
  refine wp_region_B (n := 8) 7 (by kernel_rfl) rfl hE0 ?_
  intro w1 hb1 hE1
  clear hE0
  refine wpB_take (i := 0) (by kernel_rfl) rfl (by kernel_rfl) (fun _ _ _ h => h) rfl (v_cellB (v := .pointer (some ⟨g, 0, none⟩)) (i := 3) hE1 rfl rfl rfl Tryd.underlying25 rfl rfl) ?_
  simp only [Act.put, List.setIfInBounds_toArray, List.set_cons_zero, List.set_cons_succ]
  refine wpB_take (i := 1) (by kernel_rfl) rfl (by kernel_rfl) (fun _ _ _ h => h) rfl (v_nil rfl rfl) ?_
  simp only [Act.put, List.setIfInBounds_toArray, List.set_cons_zero, List.set_cons_succ]
  refine wpB_take (i := 2) (by kernel_rfl) rfl (by kernel_rfl) (fun _ _ _ h => h) rfl (v_field0 (s := 0) rfl rfl Tryd.underlying56 rfl (by kernel_rfl) rfl) ?_
  simp only [Act.put, List.setIfInBounds_toArray, List.set_cons_zero, List.set_cons_succ]
  refine wpB_take (i := 3) (by kernel_rfl) rfl (by kernel_rfl) (fun _ _ _ h => h) rfl (v_cellB (v := .slice (some ⟨b, off, none⟩) M.length c) (i := 4) hE1 rfl rfl rfl Tryd.underlying31 rfl rfl) ?_
  simp only [Act.put, List.setIfInBounds_toArray, List.set_cons_zero, List.set_cons_succ]
  refine wpB_take (i := 4) (by kernel_rfl) rfl (by kernel_rfl) (fun _ _ _ h => h) rfl (v_cellB (v := .int .i64 (i : Int)) (i := 2) hE1 rfl rfl rfl Tryd.underlying3 rfl rfl) ?_
  simp only [Act.put, List.setIfInBounds_toArray, List.set_cons_zero, List.set_cons_succ]
  refine wpB_take (i := 5) (by kernel_rfl) rfl (by kernel_rfl) (fun _ _ _ h => h) rfl (v_indexSs (s := 3) rfl rfl rfl Tryd.underlying31 (by kernel_rfl) hi) ?_
  simp only [Act.put, List.setIfInBounds_toArray, List.set_cons_zero, List.set_cons_succ]
  refine wpB_take (i := 6) (by kernel_rfl) rfl (by kernel_rfl) (fun _ _ _ h => h) rfl (v_loadMid (cs := #[.int .i64 m.fr, .int .i64 m.to, m.sl]) rfl rfl (Hran.out _ _ (hE1.perm (pm5 ..))) Tryd.underlying43 rfl (by kernel_rfl)) ?_
  simp only [Act.put, List.setIfInBounds_toArray, List.set_cons_zero, List.set_cons_succ]
  refine wpB_step (i := 7) (by kernel_rfl) rfl (st_store (i := 0) hE1 rfl rfl rfl rfl rfl (sz_of (n := 3) (by kernel_rfl) rfl) rfl hone3 ?_)
  intro w2 hE2
  clear hE1
  simp only [List.set_cons_zero] at hE2
  refine ⟨fun h => absurd h (by decide), ?_⟩
  simp only [Act.put, List.setIfInBounds_toArray, List.set_cons_zero, List.set_cons_succ]
  refine wpB_done (by kernel_rfl) ?_ _
  repeat ((fail_if_success (with_reducible show wpList _ _ _ (List.cons _ _) _ _)); (fail_if_success (with_reducible show Code.wp _ (Code.region _ _ true) _ _ _)); go_step)
  refine wp_region_B (n := 12) 8 (by kernel_rfl) rfl hE2 ?_
  intro w3 hb3 hE3
  clear hE2
  refine wpB_take1 (i := 1) (by kernel_rfl) rfl (by kernel_rfl) (fun _ _ _ h => h) rfl (v_cellB (v := .pointer (some ⟨g, 0, none⟩)) (i := 3) hE3 rfl rfl rfl Tryd.underlying25 rfl rfl) ?_
  simp only [Act.put, List.setIfInBounds_toArray, List.set_cons_zero, List.set_cons_succ]
  refine wpB_take1 (i := 2) (by kernel_rfl) rfl (by kernel_rfl) (fun _ _ _ h => h) rfl (v_nil rfl rfl) ?_
  simp only [Act.put, List.setIfInBounds_toArray, List.set_cons_zero, List.set_cons_succ]
  refine wpB_take1 (i := 3) (by kernel_rfl) rfl (by kernel_rfl) (fun _ _ _ h => h) rfl (v_field0 (s := 0) rfl rfl Tryd.underlying56 rfl (by kernel_rfl) rfl) ?_
  simp only [Act.put, List.setIfInBounds_toArray, List.set_cons_zero, List.set_cons_succ]
  refine wpB_take1 (i := 4) (by kernel_rfl) rfl (by kernel_rfl) (fun _ _ _ h => h) rfl (v_cellB (v := .slice (some ⟨b, off, none⟩) M.length c) (i := 4) hE3 rfl rfl rfl Tryd.underlying31 rfl rfl) ?_
  simp only [Act.put, List.setIfInBounds_toArray, List.set_cons_zero, List.set_cons_succ]
  refine wpB_take1 (i := 5) (by kernel_rfl) rfl (by kernel_rfl) (fun _ _ _ h => h) rfl (v_cellB (v := .int .i64 (i : Int)) (i := 2) hE3 rfl rfl rfl Tryd.underlying3 rfl rfl) ?_
  simp only [Act.put, List.setIfInBounds_toArray, List.set_cons_zero, List.set_cons_succ]
  refine wpB_take1 (i := 6) (by kernel_rfl) rfl (by kernel_rfl) (fun _ _ _ h => h) rfl (v_cellB (v := .int .i64 (i : Int)) (i := 2) hE3 rfl rfl rfl Tryd.underlying3 rfl rfl) ?_
  simp only [Act.put, List.setIfInBounds_toArray, List.set_cons_zero, List.set_cons_succ]
  refine wpB_take1 (i := 7) (by kernel_rfl) rfl (by kernel_rfl) (fun _ _ _ h => h) rfl (v_add (n := 1) rfl rfl rfl (w_i64 (by omega))) ?_
  simp only [Act.put, List.setIfInBounds_toArray, List.set_cons_zero, List.set_cons_succ]
  refine wpB_step2 (i := 0) (j := 8) (by kernel_rfl) rfl rfl ?br1a ?br1b
  case' br1a =>
    refine st_val rfl (v_cellB (v := .pointer (some ⟨g, 0, none⟩)) (i := 3) hE3 rfl rfl rfl Tryd.underlying25 rfl rfl) ?_
    refine ⟨fun _ => Below.refl _ _, ?_⟩
    simp only [Act.put, List.setIfInBounds_toArray, List.set_cons_zero, List.set_cons_succ]
    refine wpB_step (i := 8) (by kernel_rfl) rfl (st_calls rfl (run_call rfl Tryd.call29) (HD.out _ _ (hE3.perm (pm5 ..))) ?_)
    rintro _ w4 ⟨vD, bD, rfl, hOD, hED⟩
    have hE4 := hED.perm (pm5 ..).symm
    have hvD : vD.oneCell' = true ∧ vD.cells = #[vD] := by { obtain ⟨pA, cA, h, -⟩ := hOD.len; rw [h]; exact ⟨rfl, rfl⟩ }
    refine ⟨_, rfl, ?_⟩
    clear hE3
    refine ⟨fun h => absurd h (by decide), ?_⟩
    simp only [Act.put, List.setIfInBounds_toArray, List.set_cons_zero, List.set_cons_succ]
    refine wpB_takeU (i := 9) rfl (by kernel_rfl) (fun _ _ _ h => h) rfl (fun _ => (v_nil rfl rfl)) ?_
    simp only [Act.put, List.setIfInBounds_toArray, List.set_cons_zero, List.set_cons_succ]
    refine wpB_takeU (i := 10) rfl (by kernel_rfl) (fun _ _ _ h => h) rfl (fun _ => (v_field0 (s := 0) rfl rfl Tryd.underlying56 rfl (by kernel_rfl) rfl)) ?_
    simp only [Act.put, List.setIfInBounds_toArray, List.set_cons_zero, List.set_cons_succ]
    refine wpB_step (i := 11) (by kernel_rfl) rfl (st_put (v := vD) (i := 4) hE4 rfl rfl rfl rfl rfl (by kernel_rfl) hvD.2 hvD.1 (show 0 < 2 by decide) ?_)
    intro w5 hE5
    clear hE4
    simp only [List.setIfInBounds_toArray, List.set_cons_zero, List.set_cons_succ] at hE5
    refine ⟨fun h => absurd h (by decide), ?_⟩
    simp only [Act.put, List.setIfInBounds_toArray, List.set_cons_zero, List.set_cons_succ]
    refine wpB_done (by kernel_rfl) ?_ _
  case' br1b =>
    refine st_calls rfl (run_call rfl Tryd.call29) (HD.out _ _ (hE3.perm (pm5 ..))) ?_
    rintro _ w4 ⟨vD, bD, rfl, hOD, hED⟩
    have hE4 := hED.perm (pm5 ..).symm
    have hvD : vD.oneCell' = true ∧ vD.cells = #[vD] := by { obtain ⟨pA, cA, h, -⟩ := hOD.len; rw [h]; exact ⟨rfl, rfl⟩ }
    refine ⟨_, rfl, ?_⟩
    clear hE3
    refine ⟨fun h => absurd h (by decide), ?_⟩
    simp only [Act.put, List.setIfInBounds_toArray, List.set_cons_zero, List.set_cons_succ]
    refine wpB_step (i := 0) (by kernel_rfl) rfl (st_val rfl (v_cellB (v := .pointer (some ⟨g, 0, none⟩)) (i := 3) hE4 rfl rfl rfl Tryd.underlying25 rfl rfl) ?_)
    refine ⟨fun _ => Below.refl _ _, ?_⟩
    simp only [Act.put, List.setIfInBounds_toArray, List.set_cons_zero, List.set_cons_succ]
    refine wpB_takeU (i := 9) rfl (by kernel_rfl) (fun _ _ _ h => h) rfl (fun _ => (v_nil rfl rfl)) ?_
    simp only [Act.put, List.setIfInBounds_toArray, List.set_cons_zero, List.set_cons_succ]
    refine wpB_takeU (i := 10) rfl (by kernel_rfl) (fun _ _ _ h => h) rfl (fun _ => (v_field0 (s := 0) rfl rfl Tryd.underlying56 rfl (by kernel_rfl) rfl)) ?_
    simp only [Act.put, List.setIfInBounds_toArray, List.set_cons_zero, List.set_cons_succ]
    refine wpB_step (i := 11) (by kernel_rfl) rfl (st_put (v := vD) (i := 4) hE4 rfl rfl rfl rfl rfl (by kernel_rfl) hvD.2 hvD.1 (show 0 < 2 by decide) ?_)
    intro w5 hE5
    clear hE4
    simp only [List.setIfInBounds_toArray, List.set_cons_zero, List.set_cons_succ] at hE5
    refine ⟨fun h => absurd h (by decide), ?_⟩
    simp only [Act.put, List.setIfInBounds_toArray, List.set_cons_zero, List.set_cons_succ]
    refine wpB_done (by kernel_rfl) ?_ _
  all_goals
    repeat ((fail_if_success (with_reducible show wpList _ _ _ (List.cons _ _) _ _)); (fail_if_success (with_reducible show Code.wp _ (Code.region _ _ true) _ _ _)); go_step)
    refine wl_step (st_val rfl (v_moveC (.inr rfl)) ?_)
    simp only [Act.put, List.setIfInBounds_toArray, List.set_cons_zero, List.set_cons_succ]
    repeat ((fail_if_success (with_reducible show wpList _ _ _ (List.cons _ _) _ _)); (fail_if_success (with_reducible show Code.wp _ (Code.region _ _ true) _ _ _)); (fail_if_success (with_reducible show Code.wp _ (Code.cond _ _ _) _ _ _)); go_step)
    go_returns
    exact ⟨rfl, vD, bD, hOD, hE5⟩

set_option maxHeartbeats 8000000 in
theorem Take_any {w0 w : World} {g most i : Nat} {M : List PV} {m : PV} {R bs : List Blk} {v : Value} (hO : Oz 3 43 M.length (pcells M) v bs) (hS : ∀ m ∈ M, Sees w0 R m) (hE : Env w0 (⟨g, 56, #[v, .int .i64 (most : Int)]⟩ :: (bs ++ R)) w) (hm : M[i]? = some m) (hM : M.length < 1000000) :
    Calls Tryd.prog 16 #[.pointer (some ⟨g, 0, none⟩), .int .i64 (i : Int)] w fun e w' => ∃ v' bo, e = .returned (.tuple #[.agg #[.int .i64 m.fr, .int .i64 m.to, m.sl], .nilIface]) ∧ Oz 3 43 (M.eraseIdx i).length (pcells (M.eraseIdx i)) v' bo ∧
      Env w0 (⟨g, 56, #[v', .int .i64 (most : Int)]⟩ :: (bo ++ R)) w' := by
  have hi : i < M.length := (List.getElem?_eq_some_iff.1 hm).1
  have hmem : m ∈ M := List.mem_of_getElem? hm
  obtain ⟨p, c, rfl, hc⟩ := hO.len
  have hER : Env w0 R w := hE.sub (by
    refine List.Sublist.cons _ ?_
    exact List.sublist_append_right _ _)
  obtain ⟨pm, cm, hsl, -⟩ := hS m hmem w hER
  have hone3 : (#[Value.int .i64 m.fr, .int .i64 m.to, m.sl]).all (·.oneCell') = true := by
    rw [hsl]
    simp
    exact ⟨rfl, rfl, rfl⟩
  have HO := Lib.hid hO
  have HS := Lib.hid hS
  have Hm := Lib.hid hm
  have hE0 := hE
  clear hO hS hE hER hm
  go_enter Tryd.func16, Tryd.ntmps16
  repeat ((fail_if_success (with_reducible show wpList _ _ _ (List.cons _ _) _ _)); (fail_if_success (with_reducible show Code.wp _ (Code.region _ _ true) _ _ _)); go_step)
  refine wl_step (st_box hE0 rfl rfl rfl ?_)
  intro g1 w1 hb1 hE1
  clear hE0
  simp only [Act.put, List.setIfInBounds_toArray, List.set_cons_zero, List.set_cons_succ]
  refine wl_step (st_box hE1 rfl rfl rfl ?_)
  intro g2 w2 hb2 hE2
  clear hE1
  simp only [Act.put, List.setIfInBounds_toArray, List.set_cons_zero, List.set_cons_succ]
  refine wl_step (st_alloc (zs := #[Value.int .i64 0, Value.int .i64 0, Value.slice none 0 0]) hE2 rfl rfl (fun w => by kernel_rfl) ?_)
  intro g3 w3 hb3 hE3
  clear hE2
  simp only [Act.put, List.setIfInBounds_toArray, List.set_cons_zero, List.set_cons_succ]
  refine wl_step (st_val rfl (v_moveC (.inr rfl)) ?_)
  simp only [Act.put, List.setIfInBounds_toArray, List.set_cons_zero, List.set_cons_succ]
  repeat ((fail_if_success (with_reducible show wpList _ _ _ (List.cons _ _) _ _)); (fail_if_success (with_reducible show Code.wp _ (Code.region _ _ true) _ _ _)); go_step)
  refine wl_step (st_alloc (zs := #[Value.int .i64 0, Value.int .i64 0, Value.slice none 0 0]) hE3 rfl rfl (fun w => by kernel_rfl) ?_)
  intro g4 w4 hb4 hE4
  clear hE3
  simp only [Act.put, List.setIfInBounds_toArray, List.set_cons_zero, List.set_cons_succ]
  repeat ((fail_if_success (with_reducible show wpList _ _ _ (List.cons _ _) _ _)); (fail_if_success (with_reducible show Code.wp _ (Code.region _ _ true) _ _ _)); go_step)
  refine wl_step (st_val rfl (v_cellB (v := .pointer (some ⟨g, 0, none⟩)) (i := 3) hE4 rfl rfl rfl Tryd.underlying25 rfl rfl) ?_)
  simp only [Act.put, List.setIfInBounds_toArray, List.set_cons_zero, List.set_cons_succ]
  refine wl_step (st_val rfl (v_cellB (v := .int .i64 (i : Int)) (i := 2) hE4 rfl rfl rfl Tryd.underlying3 rfl rfl) ?_)
  simp only [Act.put, List.setIfInBounds_toArray, List.set_cons_zero, List.set_cons_succ]
  refine wl_step (st_val rfl (v_makeFunc rfl rfl) ?_)
  simp only [Act.put, List.setIfInBounds_toArray, List.set_cons_zero, List.set_cons_succ]
  refine wl_step (st_calls rfl (run_call rfl Tryd.call27) (with_in (caps := [.pointer (some ⟨g1, 0, none⟩), .pointer (some ⟨g2, 0, none⟩), .pointer (some ⟨g4, 0, none⟩)]) (hE4.get (i := 4) rfl) hM hi Tryd.call28 (takeF_any HO.out HS.out Hm.out hM hE4) (fun e w' h => ⟨_, h.1⟩)) ?_)
  rintro _ w5 ⟨rfl, vT, bT, hOT, hE5⟩
  skip
  refine ⟨_, rfl, ?_⟩
  clear hE4
  simp only [Act.put, List.setIfInBounds_toArray, List.set_cons_zero, List.set_cons_succ]
  refine wl_step (st_val rfl (v_moveT (.inr rfl) rfl) ?_)
  simp only [Act.put, List.setIfInBounds_toArray, List.set_cons_zero, List.set_cons_succ]
  repeat ((fail_if_success (with_reducible show wpList _ _ _ (List.cons _ _) _ _)); (fail_if_success (with_reducible show Code.wp _ (Code.region _ _ true) _ _ _)); go_step)
  refine wl_step (st_val rfl (v_load (i := 0) hE5 rfl rfl rfl Tryd.underlying43 rfl (sz_of (n := 3) (by kernel_rfl) rfl)) ?_)
  simp only [Act.put, List.setIfInBounds_toArray, List.set_cons_zero, List.set_cons_succ]
  refine wl_step (st_val rfl (v_moveT (.inl rfl) rfl) ?_)
  simp only [Act.put, List.setIfInBounds_toArray, List.set_cons_zero, List.set_cons_succ]
  refine wl_step (st_store (i := 1) hE5 rfl rfl rfl rfl rfl (sz_of (n := 3) (by kernel_rfl) rfl) rfl hone3 ?_)
  intro w6 hE6
  clear hE5
  simp only [List.set_cons_zero, List.set_cons_succ] at hE6
  simp only [Act.put, List.setIfInBounds_toArray, List.set_cons_zero, List.set_cons_succ]
  refine wl_step (st_val rfl (v_moveT (.inr rfl) rfl) ?_)
  simp only [Act.put, List.setIfInBounds_toArray, List.set_cons_zero, List.set_cons_succ]
  repeat ((fail_if_success (with_reducible show wpList _ _ _ (List.cons _ _) _ _)); (fail_if_success (with_reducible show Code.wp _ (Code.region _ _ true) _ _ _)); (fail_if_success (with_reducible show Code.wp _ (Code.cond _ _ _) _ _ _)); go_step)
  refine bodyPost_ret (results_ct rfl _ _ _ _ _ (0, 0) _ rfl ((hE6).get (i := 1) rfl) Tryd.underlying43 rfl (sz_of (n := 3) (by kernel_rfl) rfl) rfl) rfl ?_
  exact ⟨vT, bT, rfl, hOT, (hE6).sub (List.Sublist.cons _ (List.Sublist.cons _ (List.Sublist.cons _ (List.Sublist.cons _ (List.Sublist.refl _)))))⟩
set_option maxHeartbeats 8000000 in
theorem Take_out {g n c most : Nat} {p : Option Addr} {w : World} {fr : Nat × Nat} {i : Int} (hg : w.heap[g]? = some (.cells #[.slice p n c, .int .i64 (most : Int)] 56 fr)) (hn : n < 1000000) (hi : ¬ (0 ≤ i ∧ i < n)) :
    Gives 16 #[.pointer (some ⟨g, 0, none⟩), .int .i64 i] w (.tuple #[.agg #[.int .i64 0, .int .i64 0, .slice none 0 0], errV 7]) := by
  have HW : Hid (∀ (w1 : World) (F : Value), Below w.heap.size w w1 → Gives 27 #[.pointer (some ⟨g, 0, none⟩), .int .i64 i, F] w1 (errV 7)) := Lib.hid (fun w1 F hb => with_out ((hb.block g (Array.getElem?_eq_some_iff.1 hg).1).trans hg) hn hi)
  clear hg
  have hE0 := Env.nil w
  go_enter Tryd.func16, Tryd.ntmps16
  repeat ((fail_if_success (with_reducible show wpList _ _ _ (List.cons _ _) _ _)); (fail_if_success (with_reducible show Code.wp _ (Code.region _ _ true) _ _ _)); go_step)
  refine wl_step (st_box hE0 rfl rfl rfl ?_)
  intro g0 w1 hb1 hE1
  clear hE0
  simp only [Act.put, List.setIfInBounds_toArray, List.set_cons_zero, List.set_cons_succ]
  refine wl_step (st_box hE1 rfl rfl rfl ?_)
  intro g1 w2 hb2 hE2
  clear hE1
  simp only [Act.put, List.setIfInBounds_toArray, List.set_cons_zero, List.set_cons_succ]
  refine wl_step (st_alloc (zs := #[Value.int .i64 0, Value.int .i64 0, Value.slice none 0 0]) hE2 rfl rfl (fun w => by kernel_rfl) ?_)
  intro g2 w3 hb3 hE3
  clear hE2
  simp only [Act.put, List.setIfInBounds_toArray, List.set_cons_zero, List.set_cons_succ]
  refine wl_step (st_val rfl (v_moveC (.inr rfl)) ?_)
  simp only [Act.put, List.setIfInBounds_toArray, List.set_cons_zero, List.set_cons_succ]
  repeat ((fail_if_success (with_reducible show wpList _ _ _ (List.cons _ _) _ _)); (fail_if_success (with_reducible show Code.wp _ (Code.region _ _ true) _ _ _)); go_step)
  refine wl_step (st_alloc (zs := #[Value.int .i64 0, Value.int .i64 0, Value.slice none 0 0]) hE3 rfl rfl (fun w => by kernel_rfl) ?_)
  intro g3 w4 hb4 hE4
  clear hE3
  simp only [Act.put, List.setIfInBounds_toArray, List.set_cons_zero, List.set_cons_succ]
  repeat ((fail_if_success (with_reducible show wpList _ _ _ (List.cons _ _) _ _)); (fail_if_success (with_reducible show Code.wp _ (Code.region _ _ true) _ _ _)); go_step)
  refine wl_step (st_val rfl (v_cellB (v := .pointer (some ⟨g, 0, none⟩)) (i := 3) hE4 rfl rfl rfl Tryd.underlying25 rfl rfl) ?_)
  simp only [Act.put, List.setIfInBounds_toArray, List.set_cons_zero, List.set_cons_succ]
  refine wl_step (st_val rfl (v_cellB (v := .int .i64 i) (i := 2) hE4 rfl rfl rfl Tryd.underlying3 rfl rfl) ?_)
  simp only [Act.put, List.setIfInBounds_toArray, List.set_cons_zero, List.set_cons_succ]
  refine wl_step (st_val rfl (v_makeFunc rfl rfl) ?_)
  simp only [Act.put, List.setIfInBounds_toArray, List.set_cons_zero, List.set_cons_succ]
  refine wl_step (st_gives hE4 rfl (run_call rfl Tryd.call27) (HW.out _ _ hE4.below) ?_)
  intro w5 hb5 hE5
  clear hE4
  simp only [Act.put, List.setIfInBounds_toArray, List.set_cons_zero, List.set_cons_succ]
  refine wl_step (st_val rfl (v_moveT (.inr rfl) rfl) ?_)
  simp only [Act.put, List.setIfInBounds_toArray, List.set_cons_zero, List.set_cons_succ]
  repeat ((fail_if_success (with_reducible show wpList _ _ _ (List.cons _ _) _ _)); (fail_if_success (with_reducible show Code.wp _ (Code.region _ _ true) _ _ _)); go_step)
  refine wl_step (st_val rfl (v_load (i := 0) hE5 rfl rfl rfl Tryd.underlying43 rfl (sz_of (n := 3) (by kernel_rfl) rfl)) ?_)
  simp only [Act.put, List.setIfInBounds_toArray, List.set_cons_zero, List.set_cons_succ]
  refine wl_step (st_val rfl (v_moveT (.inl rfl) rfl) ?_)
  simp only [Act.put, List.setIfInBounds_toArray, List.set_cons_zero, List.set_cons_succ]
  refine wl_step (st_store (i := 1) hE5 rfl rfl rfl rfl rfl (sz_of (n := 3) (by kernel_rfl) rfl) rfl (by simp; exact ⟨rfl, rfl⟩) ?_)
  intro w6 hE6
  clear hE5
  simp only [List.set_cons_zero, List.set_cons_succ] at hE6
  simp only [Act.put, List.setIfInBounds_toArray, List.set_cons_zero, List.set_cons_succ]
  refine wl_step (st_val rfl (v_moveT (.inr rfl) rfl) ?_)
  simp only [Act.put, List.setIfInBounds_toArray, List.set_cons_zero, List.set_cons_succ]
  repeat ((fail_if_success (with_reducible show wpList _ _ _ (List.cons _ _) _ _)); (fail_if_success (with_reducible show Code.wp _ (Code.region _ _ true) _ _ _)); (fail_if_success (with_reducible show Code.wp _ (Code.cond _ _ _) _ _ _)); go_step)
  refine bodyPost_ret (results_ct rfl _ _ _ _ _ (0, 0) _ rfl ((hE6).get (i := 1) rfl) Tryd.underlying43 rfl (sz_of (n := 3) (by kernel_rfl) rfl) rfl) rfl ?_
  exact ⟨rfl, (hE6).below⟩
end Go.Proofs.YtnbbehgcnodfbaaDoor
