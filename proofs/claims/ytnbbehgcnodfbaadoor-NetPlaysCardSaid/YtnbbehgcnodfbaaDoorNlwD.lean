/-
  Layer 28: 'NetPlays': whatever is sent, taken, copied and changed about, the net is the document's, and answers so. Condition: the variable errors.errorType is as the program's text lays it (the card ties it).
-/
import Derived.Test.YtnbbehgcnodfbaaDoorNetQ
import Derived.Test.YtnbbehgcnodfbaaDoorErrC
import Derived.Test.YtnbbehgcnodfbaaDoorCards
import Derived.Test.YtnbbehgcnodfbaaDoorTie
import Derived.SevenTiedAt
namespace Go.Proofs.YtnbbehgcnodfbaaDoor
open Go.ChangeShapes Go.WideShapes Go.ChangeAt Go.RowKit
set_option maxRecDepth 100000
set_option linter.unusedVariables false
set_option linter.unusedSimpArgs false

theorem lp1 (n r : Blk) (X y z b B R : List Blk) : (n :: (b ++ (B ++ (y ++ (X ++ (r :: (z ++ R))))))).Perm (X ++ (n :: (y ++ (r :: (z ++ (b ++ (B ++ R))))))) := by
  classical
  exact List.perm_iff_count.2 fun c => by simp only [List.count_append, List.count_cons]; omega
theorem tp1 (n r : Blk) (I X y z R : List Blk) : (I ++ (n :: (y ++ (X ++ (r :: (z ++ R)))))).Perm (I ++ (X ++ (n :: (y ++ (r :: (z ++ R)))))) := by
  classical
  exact List.perm_iff_count.2 fun c => by simp only [List.count_append, List.count_cons]; omega
section
variable {w0 w : World} {X R bs bR : List Blk} {gN gR most : Nat} {v vR : Value} {M MR : List PV}
theorem PS.list (h : PS w0 most M v bs R) (hE : CE w0 X gN gR most v bs vR bR R w) (hmo : most ≤ 64) : Calls Tryd.prog 10 #[.pointer (some ⟨gN, 0, none⟩)] w fun e w' => ∃ (pW : Option Addr) (cW : Nat) (N : List PV) (R' : List Blk), e = .returned (.slice pW M.length cW) ∧ N.map PV.key = M.map PV.key ∧ R.Sublist R' ∧ CE w0 X gN gR most v bs vR bR R' w' ∧
    (∀ w1, Env w0 R' w1 → RdZ 3 N.length (pcells N) (.slice pW M.length cW) w1) ∧ (∀ m ∈ N, Sees w0 R' m) := by
  have hl := h.len
  refine (List_any h.oz (fun m hm => (h.see m hm).mono (sb1 (rnb gR vR most) X bR R)) (hE.perm (cp1 ..)) (by omega) (fun m hm => by have := (h.digs m hm).2; omega)).mono ?_
  rintro e w' ⟨v', bo, N, rfl, hk, hown, hO, hE'⟩
  have hNl : N.length = M.length := by
    have := keys_lenN hk
    rwa [List.length_map] at this
  obtain ⟨pW, cW, rfl, -⟩ := hO.len
  rw [hNl]
  refine ⟨pW, cW, fsts N, bo ++ (blks N ++ R), rfl, hk, (List.sublist_append_right _ _).trans (List.sublist_append_right _ _), hE'.perm (lp1 ..), fun w1 hE1 => ?_, fun m hm => (OwnP.sees hown m hm).mono ((List.sublist_append_left _ _).trans (List.sublist_append_right _ _))⟩
  have := hO.rd hE1
  rw [List.length_map]
  rwa [hNl] at this ⊢
theorem PS.to (h : PS w0 most M v bs R) {q : Int} (hE : CE w0 X gN gR most v bs vR bR R w) (hmo : most ≤ 64) : Calls Tryd.prog 14 #[.pointer (some ⟨gN, 0, none⟩), .int .i64 q] w fun e w' => ∃ v' bI, e = .returned v' ∧ Ow 3 (nats .i64 (ixs (M.map (·.to)) q M.length)) v' bI ∧ Env w0 (bI ++ (X ++ (ntv gN v most :: (bs ++ (rnb gR vR most :: (bR ++ R)))))) w' := by
  have hl := h.len
  refine (To_any h.oz (fun m hm => (h.see m hm).mono (sb1 (rnb gR vR most) X bR R)) (hE.perm (cp1 ..)) (by omega) (fun m hm => by have := (h.digs m hm).2; omega)).mono ?_
  rintro e w' ⟨v', bI, rfl, hO, hE'⟩
  exact ⟨v', bI, rfl, hO, hE'.perm (tp1 ..)⟩
end
section
variable {P : Program}
theorem wpB_up {ops : Array Oper} {Q : Exit → Act → World → Prop} {m m' : Nat} (h : m ≤ m') : ∀ {n : Nat} {L : Array Bool} {a : Act} {w : World}, wpB P ops Q m' n L a w → wpB P ops Q m n L a w
  | 0, _, _, _, hw => hw
  | n + 1, _, _, _, hw => ⟨hw.1, fun i hi => wpOp_mono (fun a' w' ⟨h1, h2⟩ => ⟨fun hlt => h1 (Nat.lt_of_lt_of_le hlt h), wpB_up h h2⟩) (hw.2 i hi)⟩
end
theorem pmN (n r : Blk) (I y z R : List Blk) : (I ++ ([] ++ (n :: (y ++ (r :: (z ++ R)))))).Perm (r :: (z ++ (I ++ (n :: (y ++ R))))) := by
  classical
  exact List.perm_iff_count.2 fun c => by simp only [List.count_append, List.count_cons, List.count_nil]; omega
theorem pmI1 (b : Blk) (I X : List Blk) : (b :: (I ++ X)).Perm (I ++ (b :: X)) := by
  classical
  exact List.perm_iff_count.2 fun c => by simp only [List.count_append, List.count_cons]; omega

set_option maxHeartbeats 100000000 in
theorem netPlays_walk0 {mo : Nat} {O : List OV} {q2 : Int} {v : Value} {w : World} (hh : Handled w) (hmo : mo < 256) (hv : RdZ 4 O.length (ocells O) v w) (hO : ∀ o ∈ O, RdOv w o) (hm : O.length ≤ maxLen) :
    Gives 3 #[.int .u8 (mo : Int), v, .int .i64 q2] w (.bool true) := by
  obtain ⟨p, c, rfl, hc⟩ := hv.len
  have hm63 : O.length < 9223372036854775808 := by unfold maxLen at hm; omega
  have HW := Lib.hid (fun w => awake_any w)
  have HV := Lib.hid hv
  have HO := Lib.hid hO
  obtain ⟨q, hq⟩ : ∃ q, mo % 64 = q := ⟨_, rfl⟩
  have hq64 : q < 64 := by rw [← hq]; exact Nat.mod_lt _ (by decide)
  have HQ := Lib.hid hq
  have hE0 := Env.nil w
  clear hq
  by_cases hall : okAll O
  · have HGr : Hid (∀ w1, Below w.heap.size w w1 → Gives 5 #[.slice p O.length c] w1 (.bool false)) := Lib.hid (fun w1 hb => great_any (hv.below hb) (fun o ho => (hO o ho).below hb) hm (by simp [hall]))
    have HAll := Lib.hid hall
    clear hv hO hall
    have hN1 : 1 ≤ 1 + q := by omega
    have hN2 : 1 + q ≤ 64 := by omega
    have hE0 := Env.nil w
    go_enter Tryd.func3, Tryd.ntmps3
    repeat ((fail_if_success (with_reducible show wpList _ _ _ (List.cons _ _) _ _)); (fail_if_success (with_reducible show Code.wp _ (Code.region _ _ true) _ _ _)); go_step)
    (with_reducible refine' wl_valS ?_ ?_ ?_); rotate_left; exact rfl; exact (v_moveC (.inr rfl))
    simp only [Act.put, List.setIfInBounds_toArray, List.set_cons_zero, List.set_cons_succ]
    repeat ((fail_if_success (with_reducible show wpList _ _ _ (List.cons _ _) _ _)); (fail_if_success (with_reducible show Code.wp _ (Code.region _ _ true) _ _ _)); go_step)
    (with_reducible refine' wl_valS ?_ ?_ ?_); rotate_left; exact rfl; exact (v_moveT (.inl rfl) rfl)
    simp only [Act.put, List.setIfInBounds_toArray, List.set_cons_zero, List.set_cons_succ]
    refine wl_step (st_gives hE0 rfl (run_call rfl Tryd.call5) (HGr.out _ hE0.below) ?_)
    intro w1 hb1 hE1
    clear hE0
    simp only [Act.put, List.setIfInBounds_toArray, List.set_cons_zero, List.set_cons_succ]
    repeat ((fail_if_success (with_reducible show wpList _ _ _ (List.cons _ _) _ _)); (fail_if_success (with_reducible show Code.wp _ (Code.region _ _ true) _ _ _)); (fail_if_success (with_reducible show Code.wp _ (Code.cond _ _ _) _ _ _)); go_step)
    refine wp_cond_false (by first | rfl | exact congrArg Value.bool (decide_eq_false (by omega))) ?_
    skip
    repeat ((fail_if_success (with_reducible show wpList _ _ _ (List.cons _ _) _ _)); (fail_if_success (with_reducible show Code.wp _ (Code.region _ _ true) _ _ _)); go_step)
    (with_reducible refine' wl_valS ?_ ?_ ?_); rotate_left; exact rfl; exact (v_moveT (.inl rfl) rfl)
    simp only [Act.put, List.setIfInBounds_toArray, List.set_cons_zero, List.set_cons_succ]
    (with_reducible refine' wl_valS ?_ ?_ ?_); rotate_left; exact rfl; exact (v_rem (n := 64) rfl rfl rfl (by omega))
    simp only [Act.put, List.setIfInBounds_toArray, List.set_cons_zero, List.set_cons_succ]
    rw [HQ.out]
    (with_reducible refine' wl_valS ?_ ?_ ?_); rotate_left; exact rfl; exact (v_convInt rfl rfl Tryd.underlying5 Tryd.underlying3 (w_i64 (by omega)))
    simp only [Act.put, List.setIfInBounds_toArray, List.set_cons_zero, List.set_cons_succ]
    (with_reducible refine' wl_valS ?_ ?_ ?_); rotate_left; exact rfl; exact (v_add (m := 1) rfl rfl rfl (w_i64 (by omega)))
    simp only [Act.put, List.setIfInBounds_toArray, List.set_cons_zero, List.set_cons_succ]
    refine wl_step (st_calls rfl (run_call rfl Tryd.call7) (New_any (n := 1 + q) hN1 hN2 _) ?_)
    rintro _ w2 ⟨g0, rfl, hb2, hn, hgN⟩
    have hE2 := hE1.more hb2 hn hgN
    refine ⟨_, rfl, ?_⟩
    clear hE1
    simp only [Act.put, List.setIfInBounds_toArray, List.set_cons_zero, List.set_cons_succ]
    (with_reducible refine' wl_valS ?_ ?_ ?_); rotate_left; exact rfl; exact (v_moveT (.inl rfl) rfl)
    simp only [Act.put, List.setIfInBounds_toArray, List.set_cons_zero, List.set_cons_succ]
    (with_reducible refine' wl_valS ?_ ?_ ?_); rotate_left; exact rfl; exact (v_extract rfl rfl rfl)
    simp only [Act.put, List.setIfInBounds_toArray, List.set_cons_zero, List.set_cons_succ]
    (with_reducible refine' wl_valS ?_ ?_ ?_); rotate_left; exact rfl; exact (v_extract rfl rfl rfl)
    simp only [Act.put, List.setIfInBounds_toArray, List.set_cons_zero, List.set_cons_succ]
    (with_reducible refine' wl_valS ?_ ?_ ?_); rotate_left; exact rfl; exact (v_moveT (.inr rfl) rfl)
    simp only [Act.put, List.setIfInBounds_toArray, List.set_cons_zero, List.set_cons_succ]
    (with_reducible refine' wl_valS ?_ ?_ ?_); rotate_left; exact rfl; exact (v_moveT (.inr rfl) rfl)
    simp only [Act.put, List.setIfInBounds_toArray, List.set_cons_zero, List.set_cons_succ]
    repeat ((fail_if_success (with_reducible show wpList _ _ _ (List.cons _ _) _ _)); (fail_if_success (with_reducible show Code.wp _ (Code.region _ _ true) _ _ _)); go_step)
    (with_reducible refine' wl_valS ?_ ?_ ?_); rotate_left; exact rfl; exact (v_moveT (.inl rfl) rfl)
    simp only [Act.put, List.setIfInBounds_toArray, List.set_cons_zero, List.set_cons_succ]
    (with_reducible refine' wl_valS ?_ ?_ ?_); rotate_left; exact rfl; exact (v_run fun w9 => by go_simp; with_reducible rfl)
    simp only [Act.put, List.setIfInBounds_toArray, List.set_cons_zero, List.set_cons_succ]
    (with_reducible refine' wl_valS ?_ ?_ ?_); rotate_left; exact rfl; exact (v_moveT (.inl rfl) rfl)
    simp only [Act.put, List.setIfInBounds_toArray, List.set_cons_zero, List.set_cons_succ]
    (with_reducible refine' wl_valS ?_ ?_ ?_); rotate_left; exact rfl; exact (v_moveT (.inl rfl) rfl)
    simp only [Act.put, List.setIfInBounds_toArray, List.set_cons_zero, List.set_cons_succ]
    (with_reducible refine' wl_valS ?_ ?_ ?_); rotate_left; exact rfl; exact (v_run fun w9 => by go_simp; with_reducible rfl)
    simp only [Act.put, List.setIfInBounds_toArray, List.set_cons_zero, List.set_cons_succ]
    (with_reducible refine' wl_valS ?_ ?_ ?_); rotate_left; exact rfl; exact (v_orF rfl rfl rfl)
    simp only [Act.put, List.setIfInBounds_toArray, List.set_cons_zero, List.set_cons_succ]
    repeat ((fail_if_success (with_reducible show wpList _ _ _ (List.cons _ _) _ _)); (fail_if_success (with_reducible show Code.wp _ (Code.region _ _ true) _ _ _)); (fail_if_success (with_reducible show Code.wp _ (Code.cond _ _ _) _ _ _)); go_step)
    refine wp_cond_false (by first | rfl | exact congrArg Value.bool (decide_eq_false (by omega))) ?_
    skip
    repeat ((fail_if_success (with_reducible show wpList _ _ _ (List.cons _ _) _ _)); (fail_if_success (with_reducible show Code.wp _ (Code.region _ _ true) _ _ _)); go_step)
    (with_reducible refine' wl_valS ?_ ?_ ?_); rotate_left; exact rfl; exact (v_moveT (.inl rfl) rfl)
    simp only [Act.put, List.setIfInBounds_toArray, List.set_cons_zero, List.set_cons_succ]
    (with_reducible refine' wl_valS ?_ ?_ ?_); rotate_left; exact rfl; exact (v_rem (n := 64) rfl rfl rfl (by omega))
    simp only [Act.put, List.setIfInBounds_toArray, List.set_cons_zero, List.set_cons_succ]
    rw [HQ.out]
    (with_reducible refine' wl_valS ?_ ?_ ?_); rotate_left; exact rfl; exact (v_convInt rfl rfl Tryd.underlying5 Tryd.underlying3 (w_i64 (by omega)))
    simp only [Act.put, List.setIfInBounds_toArray, List.set_cons_zero, List.set_cons_succ]
    (with_reducible refine' wl_valS ?_ ?_ ?_); rotate_left; exact rfl; exact (v_add (m := 1) rfl rfl rfl (w_i64 (by omega)))
    simp only [Act.put, List.setIfInBounds_toArray, List.set_cons_zero, List.set_cons_succ]
    (with_reducible refine' wl_valS ?_ ?_ ?_); rotate_left; exact rfl; exact (v_buildV (zs := [.slice none 0 0, .int .i64 0]) (lay := [(0, 1), (1, 1)]) (vals := [(1, .int .i64 ((1 + q : Nat) : Int))]) [.slice none 0 0, .int .i64 ((1 + q : Nat) : Int)] rfl (by kernel_rfl) Tryd.underlying33 (by kernel_rfl) rfl rfl)
    simp only [Act.put, List.setIfInBounds_toArray, List.set_cons_zero, List.set_cons_succ]
    refine wl_step (st_boxA hE2 rfl rfl rfl ?_)
    intro g1 w3 hb3 hE3
    clear hE2
    simp only [Act.put, List.setIfInBounds_toArray, List.set_cons_zero, List.set_cons_succ]
    (with_reducible refine' wl_valS ?_ ?_ ?_); rotate_left; exact rfl; exact (v_moveT (.inr rfl) rfl)
    simp only [Act.put, List.setIfInBounds_toArray, List.set_cons_zero, List.set_cons_succ]
    repeat ((fail_if_success (with_reducible show wpList _ _ _ (List.cons _ _) _ _)); (fail_if_success (with_reducible show Code.wp _ (Code.region _ _ true) _ _ _)); go_step)
    (with_reducible refine' wl_valS ?_ ?_ ?_); rotate_left; exact rfl; exact (v_moveC (.inr rfl))
    simp only [Act.put, List.setIfInBounds_toArray, List.set_cons_zero, List.set_cons_succ]
    have hst : CE w [] g0 g1 (1 + q) (.slice none 0 0) [] (.slice none 0 0) [] [] w3 := (hE3).perm (List.Perm.swap _ _ _)
    clear hE3
    go_wp2
    go_loopw [10] (fun i wr => ∃ (j : Nat) (M MR : List PV) (vN : Value) (bs : List Blk) (vR : Value) (bR R : List Blk), j ≤ O.length ∧ i = .int .i64 j ∧ PS w (1 + q) M vN bs R ∧ RS w MR vR bR R ∧ M.map PV.key = MR.map PV.key ∧ CE w [] g0 g1 (1 + q) vN bs vR bR R wr) (fun i _ => O.length - (intOf i).toNat)
    case atStart => exact ⟨0, [], [], .slice none 0 0, [], .slice none 0 0, [], [], Nat.zero_le _, rfl, ⟨by simp, (fun m hm => by cases hm), (fun m hm => by cases hm), Oz.nil _ _⟩, ⟨(fun m hm => by cases hm), Oz.nil _ _⟩, rfl, hst⟩
    case round =>
      clear hst
      obtain ⟨j, M0, MR0, v0, b0, vR0, bR0, R0, hj, rfl, hP0, hR0, hk0, hE0⟩ := hrel
      by_cases hjl : j < O.length
      · have d2 := Lib.hid (decide_eq_true hjl)
        have hg : O[j]? = some O[j] := List.getElem?_eq_getElem hjl
        obtain ⟨o, hoe⟩ : ∃ o, O[j] = o := ⟨_, rfl⟩
        rw [hoe] at hg
        have hmoo : o ∈ O := List.mem_of_getElem? hg
        obtain ⟨b, off, rfl, -⟩ := HV.out.elem hjl
        have hran : ∀ w', Below w.heap.size w w' → ∀ w1, Below w'.heap.size w' w1 → w1.rangeAt b (off + j * 4) [.int .u8 (o.kd : Int), .int .i64 o.i, .int .i64 o.k, o.sl] := fun w' hb w1 hb1 => by
          obtain ⟨b', off', he, hr⟩ := (HV.out.below hb).elem hjl
          injection he with he
          injection he with h1 h2 _
          subst h1 h2
          have := hr w1 hb1
          rwa [ocells_at hg] at this
        have Hran := Lib.hid hran
        have Hro := Lib.hid (HO.out o hmoo)
        have Hok := Lib.hid (HAll.out.2 o hmoo)
        have HP0 := Lib.hid hP0
        have HR0 := Lib.hid hR0
        have Hk0 := Lib.hid hk0
        clear hran hg hoe hP0 hR0 hk0
        repeat ((fail_if_success (with_reducible show wpList _ _ _ (List.cons _ _) _ _)); (fail_if_success (with_reducible show Code.wp _ (Code.region _ _ true) _ _ _)); go_step)
        (with_reducible refine' wl_valS ?_ ?_ ?_); rotate_left; exact rfl; exact (v_moveT (.inl rfl) rfl)
        simp only [Act.put, List.setIfInBounds_toArray, List.set_cons_zero, List.set_cons_succ]
        (with_reducible refine' wl_valS ?_ ?_ ?_); rotate_left; exact rfl; exact (v_moveT (.inl rfl) rfl)
        simp only [Act.put, List.setIfInBounds_toArray, List.set_cons_zero, List.set_cons_succ]
        (with_reducible refine' wl_valS ?_ ?_ ?_); rotate_left; exact rfl; exact (v_len rfl rfl Tryd.underlying22 hm63)
        simp only [Act.put, List.setIfInBounds_toArray, List.set_cons_zero, List.set_cons_succ]
        (with_reducible refine' wl_valS ?_ ?_ ?_); rotate_left; exact rfl; exact (v_lss rfl rfl rfl)
        simp only [Act.put, List.setIfInBounds_toArray, List.set_cons_zero, List.set_cons_succ]
        rw [d2.out]
        repeat ((fail_if_success (with_reducible show wpList _ _ _ (List.cons _ _) _ _)); (fail_if_success (with_reducible show Code.wp _ (Code.region _ _ true) _ _ _)); (fail_if_success (with_reducible show Code.wp _ (Code.cond _ _ _) _ _ _)); go_step)
        refine wp_cond_true (by first | rfl | exact congrArg Value.bool (decide_eq_true (by omega))) ?_
        skip
        repeat ((fail_if_success (with_reducible show wpList _ _ _ (List.cons _ _) _ _)); (fail_if_success (with_reducible show Code.wp _ (Code.region _ _ true) _ _ _)); go_step)
        refine wp_region_B (n := 43) 6 (by kernel_rfl) rfl hE0 ?_
        intro w1 hb1 hE1
        clear hE0
        refine wpB_take1 (i := 0) (by kernel_rfl) rfl (by kernel_rfl) (fun _ _ _ h => h) rfl (v_moveT (.inl rfl) rfl) ?_
        simp only [Act.put, List.setIfInBounds_toArray, List.set_cons_zero, List.set_cons_succ]
        refine wpB_take1 (i := 1) (by kernel_rfl) rfl (by kernel_rfl) (fun _ _ _ h => h) rfl (v_moveT (.inl rfl) rfl) ?_
        simp only [Act.put, List.setIfInBounds_toArray, List.set_cons_zero, List.set_cons_succ]
        refine wpB_take1 (i := 2) (by kernel_rfl) rfl (by kernel_rfl) (fun _ _ _ h => h) rfl (v_moveT (.inl rfl) rfl) ?_
        simp only [Act.put, List.setIfInBounds_toArray, List.set_cons_zero, List.set_cons_succ]
        refine wpB_take1 (i := 3) (by kernel_rfl) rfl (by kernel_rfl) (fun _ _ _ h => h) rfl (v_moveT (.inl rfl) rfl) ?_
        simp only [Act.put, List.setIfInBounds_toArray, List.set_cons_zero, List.set_cons_succ]
        refine wpB_take1 (i := 4) (by kernel_rfl) rfl (by kernel_rfl) (fun _ _ _ h => h) rfl (v_indexSs (s := 4) rfl rfl rfl Tryd.underlying22 (by kernel_rfl) hjl) ?_
        simp only [Act.put, List.setIfInBounds_toArray, List.set_cons_zero, List.set_cons_succ]
        refine wpB_take1 (i := 5) (by kernel_rfl) rfl (by kernel_rfl) (fun _ _ _ h => h) rfl (v_loadMid (cs := #[.int .u8 (o.kd : Int), .int .i64 o.i, .int .i64 o.k, o.sl]) rfl rfl (Hran.out _ hE1.below) Tryd.underlying36 rfl (by kernel_rfl)) ?_
        simp only [Act.put, List.setIfInBounds_toArray, List.set_cons_zero, List.set_cons_succ]
        refine wpB_step (i := 6) (by kernel_rfl) rfl (st_calls rfl (run_call rfl Tryd.call8) (does_any HP0.out HR0.out Hk0.out hE1 hN2 hh Hro.out Hok.out) ?_)
        rintro _ w2 ⟨rfl, M, MR, vN, bs, vR, bR, R, hP, hR, hk, hE2⟩
        skip
        refine ⟨_, rfl, ?_⟩
        clear hE1
        refine ⟨fun h => absurd h (by decide), ?_⟩
        simp only [Act.put, List.setIfInBounds_toArray, List.set_cons_zero, List.set_cons_succ]
        obtain ⟨pN, cN, rfl, -⟩ := hP.oz.len
        obtain ⟨pR, cR, rfl, -⟩ := hR.oz.len
        have hlen : M.length = MR.length := keys_lenN hk
        have hMle := hP.len
        have hM6 : M.length < 1000000 := by omega
        have hM63 : M.length < 9223372036854775808 := by omega
        have hR63 : MR.length < 9223372036854775808 := by omega
        have HP := Lib.hid hP
        have HR := Lib.hid hR
        have Hk := Lib.hid hk
        have hq63 : 1 + q < 9223372036854775808 := by omega
        have n1 := Lib.hid (decide_eq_false (show ¬ M.length ≠ MR.length by omega))
        have n2 := Lib.hid (decide_eq_false (show ¬ (1 + q - M.length) ≠ (1 + q - MR.length) by omega))
        clear hP hR hk
        refine wpB_takeU (i := 7) rfl (by kernel_rfl) (fun _ _ _ h => h) rfl (fun _ => (v_not rfl rfl)) ?_
        simp only [Act.put, List.setIfInBounds_toArray, List.set_cons_zero, List.set_cons_succ]
        refine wpB_takeU (i := 8) rfl (by kernel_rfl) (fun _ _ _ h => h) rfl (fun _ => (v_moveT (.inl rfl) rfl)) ?_
        simp only [Act.put, List.setIfInBounds_toArray, List.set_cons_zero, List.set_cons_succ]
        refine wpB_takeU (i := 9) rfl (by kernel_rfl) (fun _ _ _ h => h) rfl (fun _ => (v_moveT (.inl rfl) rfl)) ?_
        simp only [Act.put, List.setIfInBounds_toArray, List.set_cons_zero, List.set_cons_succ]
        refine wpB_takeU (i := 11) rfl (by kernel_rfl) (fun _ _ _ h => h) rfl (fun _ => (v_moveT (.inl rfl) rfl)) ?_
        simp only [Act.put, List.setIfInBounds_toArray, List.set_cons_zero, List.set_cons_succ]
        refine wpB_takeU (i := 12) rfl (by kernel_rfl) (fun _ _ _ h => h) rfl (fun _ => (v_nil rfl rfl)) ?_
        simp only [Act.put, List.setIfInBounds_toArray, List.set_cons_zero, List.set_cons_succ]
        refine wpB_takeU (i := 13) rfl (by kernel_rfl) (fun _ _ _ h => h) rfl (fun _ => (v_field0 (s := 0) rfl rfl Tryd.underlying33 rfl (by kernel_rfl) rfl)) ?_
        simp only [Act.put, List.setIfInBounds_toArray, List.set_cons_zero, List.set_cons_succ]
        refine wpB_step2 (i := 10) (j := 14) (by kernel_rfl) rfl rfl ?br1a ?br1b
        case' br1a =>
          refine st_calls rfl (run_call rfl Tryd.call10) (HP.out.list (X := []) hE2 hN2) ?_
          rintro _ w3 ⟨pW, cW, NL, R1, rfl, hkL, hs1, hE3, hrL, hsL⟩
          skip
          refine ⟨_, rfl, ?_⟩
          clear hE2
          refine ⟨fun h => absurd h (by decide), ?_⟩
          simp only [Act.put, List.setIfInBounds_toArray, List.set_cons_zero, List.set_cons_succ]
          refine wpB_step (i := 14) (by kernel_rfl) rfl (st_val rfl (v_cellB (v := .slice pR MR.length cR) (i := 0) (Env.perm (hE3 : CE w [] g0 g1 (1 + q) _ bs _ bR _ _) (cp2 ..)) rfl rfl rfl Tryd.underlying31 rfl rfl) ?_)
          refine ⟨fun _ => Below.refl _ _, ?_⟩
          simp only [Act.put, List.setIfInBounds_toArray, List.set_cons_zero, List.set_cons_succ]
          refine wpB_step (i := 15) (by kernel_rfl) rfl (st_gives hE3 rfl (run_call rfl Tryd.call9) (rAll_same (by have h := hrL _ (CE.rest (X := []) hE3); rw [keys_lenN hkL] at h ⊢; exact h) (HR.out.oz.rd (l := R1) ((Env.perm (hE3 : CE w [] g0 g1 (1 + q) _ bs _ bR R1 _) (cp2 ..)).sub (List.Sublist.cons _ (List.Sublist.append_left ((List.sublist_append_right bs R1).trans (List.sublist_cons_self _ _)) _)))) (fun m hm => ⟨hsL m hm _ (CE.rest (X := []) hE3), (keys_digsN hkL HP.out.digs m hm).1⟩) (fun m hm => ⟨(HR.out.see m hm).mono hs1 _ (CE.rest (X := []) hE3), (keys_digsN Hk.out.symm HP.out.digs m hm).1⟩) (hkL.trans Hk.out) (by rw [keys_lenN hkL]; exact hM6)) ?_)
          intro w4 hb4 hE4
          clear hE3
          refine ⟨fun h => absurd h (by decide), ?_⟩
          simp only [Act.put, List.setIfInBounds_toArray, List.set_cons_zero, List.set_cons_succ]
          refine wpB_up (m' := 43) (by decide) ?_
          refine wpB_take (i := 16) (by kernel_rfl) rfl (by kernel_rfl) (fun _ _ _ h => h) rfl (v_not rfl rfl) ?_
          simp only [Act.put, List.setIfInBounds_toArray, List.set_cons_zero, List.set_cons_succ]
          refine wpB_take (i := 17) (by kernel_rfl) rfl (by kernel_rfl) (fun _ _ _ h => h) rfl (v_orF rfl rfl rfl) ?_
          simp only [Act.put, List.setIfInBounds_toArray, List.set_cons_zero, List.set_cons_succ]
          refine wpB_take (i := 18) (by kernel_rfl) rfl (by kernel_rfl) (fun _ _ _ h => h) rfl (v_moveT (.inl rfl) rfl) ?_
          simp only [Act.put, List.setIfInBounds_toArray, List.set_cons_zero, List.set_cons_succ]
          refine wpB_take (i := 19) (by kernel_rfl) rfl (by kernel_rfl) (fun _ _ _ h => h) rfl (v_moveT (.inl rfl) rfl) ?_
          simp only [Act.put, List.setIfInBounds_toArray, List.set_cons_zero, List.set_cons_succ]
          refine wpB_take (i := 21) (by kernel_rfl) rfl (by kernel_rfl) (fun _ _ _ h => h) rfl (v_moveT (.inl rfl) rfl) ?_
          simp only [Act.put, List.setIfInBounds_toArray, List.set_cons_zero, List.set_cons_succ]
          refine wpB_take (i := 22) (by kernel_rfl) rfl (by kernel_rfl) (fun _ _ _ h => h) rfl (v_nil rfl rfl) ?_
          simp only [Act.put, List.setIfInBounds_toArray, List.set_cons_zero, List.set_cons_succ]
          refine wpB_take (i := 23) (by kernel_rfl) rfl (by kernel_rfl) (fun _ _ _ h => h) rfl (v_field0 (s := 0) rfl rfl Tryd.underlying33 rfl (by kernel_rfl) rfl) ?_
          simp only [Act.put, List.setIfInBounds_toArray, List.set_cons_zero, List.set_cons_succ]
          refine wpB_take (i := 24) (by kernel_rfl) rfl (by kernel_rfl) (fun _ _ _ h => h) rfl (v_cellB (v := .slice pR MR.length cR) (i := 0) (Env.perm (hE4 : CE w [] g0 g1 (1 + q) _ bs _ bR _ _) (cp2 ..)) rfl rfl rfl Tryd.underlying31 rfl rfl) ?_
          simp only [Act.put, List.setIfInBounds_toArray, List.set_cons_zero, List.set_cons_succ]
          refine wpB_take (i := 25) (by kernel_rfl) rfl (by kernel_rfl) (fun _ _ _ h => h) rfl (v_len rfl rfl Tryd.underlying31 hR63) ?_
          simp only [Act.put, List.setIfInBounds_toArray, List.set_cons_zero, List.set_cons_succ]
          refine wpB_step (i := 20) (by kernel_rfl) rfl (st_gives hE4 rfl (run_call rfl Tryd.call11) (Len_any (CE.net (X := []) hE4) hM63) ?_)
          intro w5 hb5 hE5
          clear hE4
          refine ⟨fun _ => hb5, ?_⟩
          simp only [Act.put, List.setIfInBounds_toArray, List.set_cons_zero, List.set_cons_succ]
          refine wpB_take (i := 26) (by kernel_rfl) rfl (by kernel_rfl) (fun _ _ _ h => h) rfl (v_neq (m := M.length) (n := MR.length) rfl rfl rfl) ?_
          simp only [Act.put, List.setIfInBounds_toArray, List.set_cons_zero, List.set_cons_succ]
          rw [n1.out]
          refine wpB_take (i := 27) (by kernel_rfl) rfl (by kernel_rfl) (fun _ _ _ h => h) rfl (v_orF rfl rfl rfl) ?_
          simp only [Act.put, List.setIfInBounds_toArray, List.set_cons_zero, List.set_cons_succ]
          refine wpB_take (i := 28) (by kernel_rfl) rfl (by kernel_rfl) (fun _ _ _ h => h) rfl (v_moveT (.inl rfl) rfl) ?_
          simp only [Act.put, List.setIfInBounds_toArray, List.set_cons_zero, List.set_cons_succ]
          refine wpB_take (i := 29) (by kernel_rfl) rfl (by kernel_rfl) (fun _ _ _ h => h) rfl (v_moveT (.inl rfl) rfl) ?_
          simp only [Act.put, List.setIfInBounds_toArray, List.set_cons_zero, List.set_cons_succ]
          refine wpB_take (i := 31) (by kernel_rfl) rfl (by kernel_rfl) (fun _ _ _ h => h) rfl (v_moveT (.inl rfl) rfl) ?_
          simp only [Act.put, List.setIfInBounds_toArray, List.set_cons_zero, List.set_cons_succ]
          refine wpB_take (i := 32) (by kernel_rfl) rfl (by kernel_rfl) (fun _ _ _ h => h) rfl (v_nil rfl rfl) ?_
          simp only [Act.put, List.setIfInBounds_toArray, List.set_cons_zero, List.set_cons_succ]
          refine wpB_take (i := 33) (by kernel_rfl) rfl (by kernel_rfl) (fun _ _ _ h => h) rfl (v_fieldK (s := 0) rfl rfl Tryd.underlying33 rfl (by kernel_rfl) rfl) ?_
          simp only [Act.put, List.setIfInBounds_toArray, List.set_cons_zero, List.set_cons_succ]
          refine wpB_take (i := 34) (by kernel_rfl) rfl (by kernel_rfl) (fun _ _ _ h => h) rfl (v_cellB (v := .int .i64 ((1 + q : Nat) : Int)) (i := 0) (Env.perm (hE5 : CE w [] g0 g1 (1 + q) _ bs _ bR _ _) (cp2 ..)) rfl rfl rfl Tryd.underlying3 rfl rfl) ?_
          simp only [Act.put, List.setIfInBounds_toArray, List.set_cons_zero, List.set_cons_succ]
          refine wpB_take (i := 35) (by kernel_rfl) rfl (by kernel_rfl) (fun _ _ _ h => h) rfl (v_moveT (.inl rfl) rfl) ?_
          simp only [Act.put, List.setIfInBounds_toArray, List.set_cons_zero, List.set_cons_succ]
          refine wpB_take (i := 36) (by kernel_rfl) rfl (by kernel_rfl) (fun _ _ _ h => h) rfl (v_nil rfl rfl) ?_
          simp only [Act.put, List.setIfInBounds_toArray, List.set_cons_zero, List.set_cons_succ]
          refine wpB_take (i := 37) (by kernel_rfl) rfl (by kernel_rfl) (fun _ _ _ h => h) rfl (v_field0 (s := 0) rfl rfl Tryd.underlying33 rfl (by kernel_rfl) rfl) ?_
          simp only [Act.put, List.setIfInBounds_toArray, List.set_cons_zero, List.set_cons_succ]
          refine wpB_take (i := 38) (by kernel_rfl) rfl (by kernel_rfl) (fun _ _ _ h => h) rfl (v_cellB (v := .slice pR MR.length cR) (i := 0) (Env.perm (hE5 : CE w [] g0 g1 (1 + q) _ bs _ bR _ _) (cp2 ..)) rfl rfl rfl Tryd.underlying31 rfl rfl) ?_
          simp only [Act.put, List.setIfInBounds_toArray, List.set_cons_zero, List.set_cons_succ]
          refine wpB_take (i := 39) (by kernel_rfl) rfl (by kernel_rfl) (fun _ _ _ h => h) rfl (v_len rfl rfl Tryd.underlying31 hR63) ?_
          simp only [Act.put, List.setIfInBounds_toArray, List.set_cons_zero, List.set_cons_succ]
          refine wpB_take (i := 40) (by kernel_rfl) rfl (by kernel_rfl) (fun _ _ _ h => h) rfl (v_sub (m := 1 + q) (n := MR.length) (r := ((1 + q - MR.length : Nat) : Int)) rfl rfl rfl (by rw [IntKind.wrap_i64]; omega)) ?_
          simp only [Act.put, List.setIfInBounds_toArray, List.set_cons_zero, List.set_cons_succ]
          refine wpB_step (i := 30) (by kernel_rfl) rfl (st_gives hE5 rfl (run_call rfl Tryd.call12) (Room_any (CE.net (X := []) hE5) hMle hq63) ?_)
          intro w6 hb6 hE6
          clear hE5
          refine ⟨fun _ => hb6, ?_⟩
          simp only [Act.put, List.setIfInBounds_toArray, List.set_cons_zero, List.set_cons_succ]
          refine wpB_take (i := 41) (by kernel_rfl) rfl (by kernel_rfl) (fun _ _ _ h => h) rfl (v_neq (m := 1 + q - M.length) (n := 1 + q - MR.length) rfl rfl rfl) ?_
          simp only [Act.put, List.setIfInBounds_toArray, List.set_cons_zero, List.set_cons_succ]
          rw [n2.out]
          refine wpB_take (i := 42) (by kernel_rfl) rfl (by kernel_rfl) (fun _ _ _ h => h) rfl (v_orF rfl rfl rfl) ?_
          simp only [Act.put, List.setIfInBounds_toArray, List.set_cons_zero, List.set_cons_succ]
          refine wpB_done (by kernel_rfl) ?_ _
        case' br1b =>
          refine st_val rfl (v_cellB (v := .slice pR MR.length cR) (i := 0) (Env.perm (hE2 : CE w [] g0 g1 (1 + q) _ bs _ bR _ _) (cp2 ..)) rfl rfl rfl Tryd.underlying31 rfl rfl) ?_
          refine ⟨fun _ => Below.refl _ _, ?_⟩
          simp only [Act.put, List.setIfInBounds_toArray, List.set_cons_zero, List.set_cons_succ]
          refine wpB_step (i := 10) (by kernel_rfl) rfl (st_calls rfl (run_call rfl Tryd.call10) (HP.out.list (X := []) hE2 hN2) ?_)
          rintro _ w3 ⟨pW, cW, NL, R1, rfl, hkL, hs1, hE3, hrL, hsL⟩
          skip
          refine ⟨_, rfl, ?_⟩
          clear hE2
          refine ⟨fun h => absurd h (by decide), ?_⟩
          simp only [Act.put, List.setIfInBounds_toArray, List.set_cons_zero, List.set_cons_succ]
          refine wpB_step (i := 15) (by kernel_rfl) rfl (st_gives hE3 rfl (run_call rfl Tryd.call9) (rAll_same (by have h := hrL _ (CE.rest (X := []) hE3); rw [keys_lenN hkL] at h ⊢; exact h) (HR.out.oz.rd (l := R1) ((Env.perm (hE3 : CE w [] g0 g1 (1 + q) _ bs _ bR R1 _) (cp2 ..)).sub (List.Sublist.cons _ (List.Sublist.append_left ((List.sublist_append_right bs R1).trans (List.sublist_cons_self _ _)) _)))) (fun m hm => ⟨hsL m hm _ (CE.rest (X := []) hE3), (keys_digsN hkL HP.out.digs m hm).1⟩) (fun m hm => ⟨(HR.out.see m hm).mono hs1 _ (CE.rest (X := []) hE3), (keys_digsN Hk.out.symm HP.out.digs m hm).1⟩) (hkL.trans Hk.out) (by rw [keys_lenN hkL]; exact hM6)) ?_)
          intro w4 hb4 hE4
          clear hE3
          refine ⟨fun h => absurd h (by decide), ?_⟩
          simp only [Act.put, List.setIfInBounds_toArray, List.set_cons_zero, List.set_cons_succ]
          refine wpB_up (m' := 43) (by decide) ?_
          refine wpB_take (i := 16) (by kernel_rfl) rfl (by kernel_rfl) (fun _ _ _ h => h) rfl (v_not rfl rfl) ?_
          simp only [Act.put, List.setIfInBounds_toArray, List.set_cons_zero, List.set_cons_succ]
          refine wpB_take (i := 17) (by kernel_rfl) rfl (by kernel_rfl) (fun _ _ _ h => h) rfl (v_orF rfl rfl rfl) ?_
          simp only [Act.put, List.setIfInBounds_toArray, List.set_cons_zero, List.set_cons_succ]
          refine wpB_take (i := 18) (by kernel_rfl) rfl (by kernel_rfl) (fun _ _ _ h => h) rfl (v_moveT (.inl rfl) rfl) ?_
          simp only [Act.put, List.setIfInBounds_toArray, List.set_cons_zero, List.set_cons_succ]
          refine wpB_take (i := 19) (by kernel_rfl) rfl (by kernel_rfl) (fun _ _ _ h => h) rfl (v_moveT (.inl rfl) rfl) ?_
          simp only [Act.put, List.setIfInBounds_toArray, List.set_cons_zero, List.set_cons_succ]
          refine wpB_take (i := 21) (by kernel_rfl) rfl (by kernel_rfl) (fun _ _ _ h => h) rfl (v_moveT (.inl rfl) rfl) ?_
          simp only [Act.put, List.setIfInBounds_toArray, List.set_cons_zero, List.set_cons_succ]
          refine wpB_take (i := 22) (by kernel_rfl) rfl (by kernel_rfl) (fun _ _ _ h => h) rfl (v_nil rfl rfl) ?_
          simp only [Act.put, List.setIfInBounds_toArray, List.set_cons_zero, List.set_cons_succ]
          refine wpB_take (i := 23) (by kernel_rfl) rfl (by kernel_rfl) (fun _ _ _ h => h) rfl (v_field0 (s := 0) rfl rfl Tryd.underlying33 rfl (by kernel_rfl) rfl) ?_
          simp only [Act.put, List.setIfInBounds_toArray, List.set_cons_zero, List.set_cons_succ]
          refine wpB_take (i := 24) (by kernel_rfl) rfl (by kernel_rfl) (fun _ _ _ h => h) rfl (v_cellB (v := .slice pR MR.length cR) (i := 0) (Env.perm (hE4 : CE w [] g0 g1 (1 + q) _ bs _ bR _ _) (cp2 ..)) rfl rfl rfl Tryd.underlying31 rfl rfl) ?_
          simp only [Act.put, List.setIfInBounds_toArray, List.set_cons_zero, List.set_cons_succ]
          refine wpB_take (i := 25) (by kernel_rfl) rfl (by kernel_rfl) (fun _ _ _ h => h) rfl (v_len rfl rfl Tryd.underlying31 hR63) ?_
          simp only [Act.put, List.setIfInBounds_toArray, List.set_cons_zero, List.set_cons_succ]
          refine wpB_step (i := 20) (by kernel_rfl) rfl (st_gives hE4 rfl (run_call rfl Tryd.call11) (Len_any (CE.net (X := []) hE4) hM63) ?_)
          intro w5 hb5 hE5
          clear hE4
          refine ⟨fun _ => hb5, ?_⟩
          simp only [Act.put, List.setIfInBounds_toArray, List.set_cons_zero, List.set_cons_succ]
          refine wpB_take (i := 26) (by kernel_rfl) rfl (by kernel_rfl) (fun _ _ _ h => h) rfl (v_neq (m := M.length) (n := MR.length) rfl rfl rfl) ?_
          simp only [Act.put, List.setIfInBounds_toArray, List.set_cons_zero, List.set_cons_succ]
          rw [n1.out]
          refine wpB_take (i := 27) (by kernel_rfl) rfl (by kernel_rfl) (fun _ _ _ h => h) rfl (v_orF rfl rfl rfl) ?_
          simp only [Act.put, List.setIfInBounds_toArray, List.set_cons_zero, List.set_cons_succ]
          refine wpB_take (i := 28) (by kernel_rfl) rfl (by kernel_rfl) (fun _ _ _ h => h) rfl (v_moveT (.inl rfl) rfl) ?_
          simp only [Act.put, List.setIfInBounds_toArray, List.set_cons_zero, List.set_cons_succ]
          refine wpB_take (i := 29) (by kernel_rfl) rfl (by kernel_rfl) (fun _ _ _ h => h) rfl (v_moveT (.inl rfl) rfl) ?_
          simp only [Act.put, List.setIfInBounds_toArray, List.set_cons_zero, List.set_cons_succ]
          refine wpB_take (i := 31) (by kernel_rfl) rfl (by kernel_rfl) (fun _ _ _ h => h) rfl (v_moveT (.inl rfl) rfl) ?_
          simp only [Act.put, List.setIfInBounds_toArray, List.set_cons_zero, List.set_cons_succ]
          refine wpB_take (i := 32) (by kernel_rfl) rfl (by kernel_rfl) (fun _ _ _ h => h) rfl (v_nil rfl rfl) ?_
          simp only [Act.put, List.setIfInBounds_toArray, List.set_cons_zero, List.set_cons_succ]
          refine wpB_take (i := 33) (by kernel_rfl) rfl (by kernel_rfl) (fun _ _ _ h => h) rfl (v_fieldK (s := 0) rfl rfl Tryd.underlying33 rfl (by kernel_rfl) rfl) ?_
          simp only [Act.put, List.setIfInBounds_toArray, List.set_cons_zero, List.set_cons_succ]
          refine wpB_take (i := 34) (by kernel_rfl) rfl (by kernel_rfl) (fun _ _ _ h => h) rfl (v_cellB (v := .int .i64 ((1 + q : Nat) : Int)) (i := 0) (Env.perm (hE5 : CE w [] g0 g1 (1 + q) _ bs _ bR _ _) (cp2 ..)) rfl rfl rfl Tryd.underlying3 rfl rfl) ?_
          simp only [Act.put, List.setIfInBounds_toArray, List.set_cons_zero, List.set_cons_succ]
          refine wpB_take (i := 35) (by kernel_rfl) rfl (by kernel_rfl) (fun _ _ _ h => h) rfl (v_moveT (.inl rfl) rfl) ?_
          simp only [Act.put, List.setIfInBounds_toArray, List.set_cons_zero, List.set_cons_succ]
          refine wpB_take (i := 36) (by kernel_rfl) rfl (by kernel_rfl) (fun _ _ _ h => h) rfl (v_nil rfl rfl) ?_
          simp only [Act.put, List.setIfInBounds_toArray, List.set_cons_zero, List.set_cons_succ]
          refine wpB_take (i := 37) (by kernel_rfl) rfl (by kernel_rfl) (fun _ _ _ h => h) rfl (v_field0 (s := 0) rfl rfl Tryd.underlying33 rfl (by kernel_rfl) rfl) ?_
          simp only [Act.put, List.setIfInBounds_toArray, List.set_cons_zero, List.set_cons_succ]
          refine wpB_take (i := 38) (by kernel_rfl) rfl (by kernel_rfl) (fun _ _ _ h => h) rfl (v_cellB (v := .slice pR MR.length cR) (i := 0) (Env.perm (hE5 : CE w [] g0 g1 (1 + q) _ bs _ bR _ _) (cp2 ..)) rfl rfl rfl Tryd.underlying31 rfl rfl) ?_
          simp only [Act.put, List.setIfInBounds_toArray, List.set_cons_zero, List.set_cons_succ]
          refine wpB_take (i := 39) (by kernel_rfl) rfl (by kernel_rfl) (fun _ _ _ h => h) rfl (v_len rfl rfl Tryd.underlying31 hR63) ?_
          simp only [Act.put, List.setIfInBounds_toArray, List.set_cons_zero, List.set_cons_succ]
          refine wpB_take (i := 40) (by kernel_rfl) rfl (by kernel_rfl) (fun _ _ _ h => h) rfl (v_sub (m := 1 + q) (n := MR.length) (r := ((1 + q - MR.length : Nat) : Int)) rfl rfl rfl (by rw [IntKind.wrap_i64]; omega)) ?_
          simp only [Act.put, List.setIfInBounds_toArray, List.set_cons_zero, List.set_cons_succ]
          refine wpB_step (i := 30) (by kernel_rfl) rfl (st_gives hE5 rfl (run_call rfl Tryd.call12) (Room_any (CE.net (X := []) hE5) hMle hq63) ?_)
          intro w6 hb6 hE6
          clear hE5
          refine ⟨fun _ => hb6, ?_⟩
          simp only [Act.put, List.setIfInBounds_toArray, List.set_cons_zero, List.set_cons_succ]
          refine wpB_take (i := 41) (by kernel_rfl) rfl (by kernel_rfl) (fun _ _ _ h => h) rfl (v_neq (m := 1 + q - M.length) (n := 1 + q - MR.length) rfl rfl rfl) ?_
          simp only [Act.put, List.setIfInBounds_toArray, List.set_cons_zero, List.set_cons_succ]
          rw [n2.out]
          refine wpB_take (i := 42) (by kernel_rfl) rfl (by kernel_rfl) (fun _ _ _ h => h) rfl (v_orF rfl rfl rfl) ?_
          simp only [Act.put, List.setIfInBounds_toArray, List.set_cons_zero, List.set_cons_succ]
          refine wpB_done (by kernel_rfl) ?_ _
        all_goals
          repeat ((fail_if_success (with_reducible show wpList _ _ _ (List.cons _ _) _ _)); (fail_if_success (with_reducible show Code.wp _ (Code.region _ _ true) _ _ _)); (fail_if_success (with_reducible show Code.wp _ (Code.cond _ _ _) _ _ _)); go_step)
          refine wp_cond_false (by first | rfl | exact congrArg Value.bool (decide_eq_false (by omega))) ?_
          skip
          repeat ((fail_if_success (with_reducible show wpList _ _ _ (List.cons _ _) _ _)); (fail_if_success (with_reducible show Code.wp _ (Code.region _ _ true) _ _ _)); go_step)
          (with_reducible refine' wl_valS ?_ ?_ ?_); rotate_left; exact rfl; exact (v_moveC (.inr rfl))
          simp only [Act.put, List.setIfInBounds_toArray, List.set_cons_zero, List.set_cons_succ]
          repeat ((fail_if_success (with_reducible show wpList _ _ _ (List.cons _ _) _ _)); (fail_if_success (with_reducible show Code.wp _ (Code.region _ _ true) _ _ _)); go_step)
          (with_reducible refine' wl_valS ?_ ?_ ?_); rotate_left; exact rfl; exact (v_moveC (.inr rfl))
          simp only [Act.put, List.setIfInBounds_toArray, List.set_cons_zero, List.set_cons_succ]
          obtain ⟨i0, hi0, hz0, hs0, hb0⟩ := info_int
          have Hi := Lib.hid hi0
          have Hz := Lib.hid hz0
          have Hs := Lib.hid hs0
          have Hb := Lib.hid hb0
          have HP1 := Lib.hid (HP.out.more hs1)
          have HR1 := Lib.hid (HR.out.more hs1)
          have hM7 : MR.length < 1000000 := by omega
          have hst : Env w ([] ++ ([] ++ (ntv g0 (.slice pN M.length cN) (1 + q) :: (bs ++ (rnb g1 (.slice pR MR.length cR) (1 + q) :: (bR ++ R1)))))) w6 := hE6
          clear hE6 hi0 hz0 hs0 hb0 hkL hrL hsL
          go_wp2
          go_loopw [11, 12] (fun s i wr => ∃ (k : Nat) (bI : List Blk), k ≤ MR.length ∧ i = .int .i64 k ∧ Hid (Ow 3 (nats .i64 (ixs (MR.map (·.to)) q2 k)) s bI) ∧ Env w (bI ++ ([] ++ (ntv g0 (.slice pN M.length cN) (1 + q) :: (bs ++ (rnb g1 (.slice pR MR.length cR) (1 + q) :: (bR ++ R1)))))) wr) (fun _ i _ => MR.length - (intOf i).toNat)
          case atStart => exact ⟨0, [], Nat.zero_le _, rfl, Lib.hid (Ow.nil _), hst⟩
          case round =>
            clear hst
            obtain ⟨k, bI, hkk, rfl, hO3, hE0⟩ := hrel
            by_cases hkl : k < MR.length
            · have d3 := Lib.hid (decide_eq_true hkl)
              have g4 : MR[k]? = some MR[k] := List.getElem?_eq_getElem hkl
              obtain ⟨n, hne⟩ : ∃ n, MR[k] = n := ⟨_, rfl⟩
              rw [hne] at g4
              have hto : (MR.map (·.to))[k]? = some n.to := by rw [List.getElem?_map, g4]; rfl
              obtain ⟨bq, offq, hpq, -⟩ := (HR1.out.oz.rd (l := R1) (hE0.sub ((((List.sublist_cons_self _ _).trans (List.sublist_append_right _ _)).trans (List.sublist_cons_self _ _)).trans (List.sublist_append_right _ _)))).elem hkl
              subst hpq
              have hran : ∀ w' l, Env w (bR ++ l) w' → ∀ w1, Below w'.heap.size w' w1 → w1.rangeAt bq (offq + k * 3) [.int .i64 n.fr, .int .i64 n.to, n.sl] := fun w' l h => by
                obtain ⟨b', off', he, hr⟩ := (HR1.out.oz.rd h).elem hkl
                injection he with he
                injection he with h1 h2 _
                subst h1 h2
                rw [pcells_at g4] at hr
                exact hr
              have hixl := ixs_len (MR.map (·.to)) q2 k
              have hyes := fun h => ixs_yes (T := MR.map (·.to)) (q := q2) (k := k) h
              have hno := fun h => ixs_no (T := MR.map (·.to)) (q := q2) (k := k) hto h
              obtain ⟨X, hX⟩ : ∃ X, ixs (MR.map (·.to)) q2 k = X := ⟨_, rfl⟩
              rw [hX] at hixl hyes hno hO3
              have h63 : (nats .i64 X).length + ([0] : List Nat).length ≤ maxLen := by rw [nats_len]; simp only [List.length_cons, List.length_nil, maxLen]; omega
              have hft : ((nats .i64 X).length + ([0] : List Nat).length) * 8 ≤ 140737488355328 := by rw [nats_len]; simp only [List.length_cons, List.length_nil]; omega
              have He : Hid (nats .i64 X ++ nats .i64 [k] = nats .i64 (X ++ [k])) := Lib.hid (nats_append ..)
              have Hran3 := Lib.hid hran
              have Hto := Lib.hid hto
              have Hyes := Lib.hid hyes
              have Hno := Lib.hid hno
              clear hran g4 hne hto hyes hno hX
              repeat ((fail_if_success (with_reducible show wpList _ _ _ (List.cons _ _) _ _)); (fail_if_success (with_reducible show Code.wp _ (Code.region _ _ true) _ _ _)); go_step)
              (with_reducible refine' wl_valS ?_ ?_ ?_); rotate_left; exact rfl; exact (v_moveT (.inl rfl) rfl)
              simp only [Act.put, List.setIfInBounds_toArray, List.set_cons_zero, List.set_cons_succ]
              (with_reducible refine' wl_valS ?_ ?_ ?_); rotate_left; exact rfl; exact (v_moveT (.inl rfl) rfl)
              simp only [Act.put, List.setIfInBounds_toArray, List.set_cons_zero, List.set_cons_succ]
              (with_reducible refine' wl_valS ?_ ?_ ?_); rotate_left; exact rfl; exact (v_nil rfl rfl)
              simp only [Act.put, List.setIfInBounds_toArray, List.set_cons_zero, List.set_cons_succ]
              (with_reducible refine' wl_valS ?_ ?_ ?_); rotate_left; exact rfl; exact (v_field0 (s := 0) rfl rfl Tryd.underlying33 rfl (by kernel_rfl) rfl)
              simp only [Act.put, List.setIfInBounds_toArray, List.set_cons_zero, List.set_cons_succ]
              (with_reducible refine' wl_valS ?_ ?_ ?_); rotate_left; exact rfl; exact (v_cellB (v := .slice (some ⟨bq, offq, none⟩) MR.length cR) (i := 0) (Env.perm (hE0 : Env w (bI ++ ([] ++ (ntv g0 (.slice pN M.length cN) (1 + q) :: (bs ++ (rnb g1 (.slice (some ⟨bq, offq, none⟩) MR.length cR) (1 + q) :: (bR ++ R1)))))) _) (pmN ..)) rfl rfl rfl Tryd.underlying31 rfl rfl)
              simp only [Act.put, List.setIfInBounds_toArray, List.set_cons_zero, List.set_cons_succ]
              (with_reducible refine' wl_valS ?_ ?_ ?_); rotate_left; exact rfl; exact (v_len rfl rfl Tryd.underlying31 hR63)
              simp only [Act.put, List.setIfInBounds_toArray, List.set_cons_zero, List.set_cons_succ]
              (with_reducible refine' wl_valS ?_ ?_ ?_); rotate_left; exact rfl; exact (v_lss (m := k) (n := MR.length) rfl rfl rfl)
              simp only [Act.put, List.setIfInBounds_toArray, List.set_cons_zero, List.set_cons_succ]
              rw [d3.out]
              repeat ((fail_if_success (with_reducible show wpList _ _ _ (List.cons _ _) _ _)); (fail_if_success (with_reducible show Code.wp _ (Code.region _ _ true) _ _ _)); (fail_if_success (with_reducible show Code.wp _ (Code.cond _ _ _) _ _ _)); go_step)
              refine wp_cond_true (by first | rfl | exact congrArg Value.bool (decide_eq_true (by omega))) ?_
              skip
              by_cases hq3 : n.to = q2
              · have d4 := Lib.hid (decide_eq_true hq3)
                repeat ((fail_if_success (with_reducible show wpList _ _ _ (List.cons _ _) _ _)); (fail_if_success (with_reducible show Code.wp _ (Code.region _ _ true) _ _ _)); go_step)
                (with_reducible refine' wl_valS ?_ ?_ ?_); rotate_left; exact rfl; exact (v_moveT (.inl rfl) rfl)
                simp only [Act.put, List.setIfInBounds_toArray, List.set_cons_zero, List.set_cons_succ]
                (with_reducible refine' wl_valS ?_ ?_ ?_); rotate_left; exact rfl; exact (v_nil rfl rfl)
                simp only [Act.put, List.setIfInBounds_toArray, List.set_cons_zero, List.set_cons_succ]
                (with_reducible refine' wl_valS ?_ ?_ ?_); rotate_left; exact rfl; exact (v_field0 (s := 0) rfl rfl Tryd.underlying33 rfl (by kernel_rfl) rfl)
                simp only [Act.put, List.setIfInBounds_toArray, List.set_cons_zero, List.set_cons_succ]
                (with_reducible refine' wl_valS ?_ ?_ ?_); rotate_left; exact rfl; exact (v_cellB (v := .slice (some ⟨bq, offq, none⟩) MR.length cR) (i := 0) (Env.perm (hE0 : Env w (bI ++ ([] ++ (ntv g0 (.slice pN M.length cN) (1 + q) :: (bs ++ (rnb g1 (.slice (some ⟨bq, offq, none⟩) MR.length cR) (1 + q) :: (bR ++ R1)))))) _) (pmN ..)) rfl rfl rfl Tryd.underlying31 rfl rfl)
                simp only [Act.put, List.setIfInBounds_toArray, List.set_cons_zero, List.set_cons_succ]
                (with_reducible refine' wl_valS ?_ ?_ ?_); rotate_left; exact rfl; exact (v_moveT (.inl rfl) rfl)
                simp only [Act.put, List.setIfInBounds_toArray, List.set_cons_zero, List.set_cons_succ]
                (with_reducible refine' wl_valS ?_ ?_ ?_); rotate_left; exact rfl; exact (v_indexSs (s := 3) rfl rfl rfl Tryd.underlying31 (by kernel_rfl) hkl)
                simp only [Act.put, List.setIfInBounds_toArray, List.set_cons_zero, List.set_cons_succ]
                (with_reducible refine' wl_valS ?_ ?_ ?_); rotate_left; exact rfl; exact (v_fieldK (s := 0) rfl rfl Tryd.underlying43 rfl (by kernel_rfl) rfl)
                simp only [Act.put, List.setIfInBounds_toArray, List.set_cons_zero, List.set_cons_succ]
                (with_reducible refine' wl_valS ?_ ?_ ?_); rotate_left; exact rfl; exact (v_cellR (v := .int .i64 n.to) (j := 1) (Hran3.out _ _ ((Env.perm (hE0 : Env w (bI ++ ([] ++ (ntv g0 (.slice pN M.length cN) (1 + q) :: (bs ++ (rnb g1 (.slice (some ⟨bq, offq, none⟩) MR.length cR) (1 + q) :: (bR ++ R1)))))) _) (pmN ..)).sub (List.sublist_cons_self _ _))) rfl rfl rfl Tryd.underlying3 rfl)
                simp only [Act.put, List.setIfInBounds_toArray, List.set_cons_zero, List.set_cons_succ]
                (with_reducible refine' wl_valS ?_ ?_ ?_); rotate_left; exact rfl; exact (v_moveT (.inl rfl) rfl)
                simp only [Act.put, List.setIfInBounds_toArray, List.set_cons_zero, List.set_cons_succ]
                (with_reducible refine' wl_valS ?_ ?_ ?_); rotate_left; exact rfl; exact (v_eqlI rfl rfl rfl)
                simp only [Act.put, List.setIfInBounds_toArray, List.set_cons_zero, List.set_cons_succ]
                rw [d4.out]
                repeat ((fail_if_success (with_reducible show wpList _ _ _ (List.cons _ _) _ _)); (fail_if_success (with_reducible show Code.wp _ (Code.region _ _ true) _ _ _)); (fail_if_success (with_reducible show Code.wp _ (Code.cond _ _ _) _ _ _)); go_step)
                refine wp_cond_true (by first | rfl | exact congrArg Value.bool (decide_eq_true (by omega))) ?_
                skip
                repeat ((fail_if_success (with_reducible show wpList _ _ _ (List.cons _ _) _ _)); (fail_if_success (with_reducible show Code.wp _ (Code.region _ _ true) _ _ _)); go_step)
                (with_reducible refine' wl_valS ?_ ?_ ?_); rotate_left; exact rfl; exact (v_moveT (.inl rfl) rfl)
                simp only [Act.put, List.setIfInBounds_toArray, List.set_cons_zero, List.set_cons_succ]
                (with_reducible refine' wl_valS ?_ ?_ ?_); rotate_left; exact rfl; exact (v_moveT (.inl rfl) rfl)
                simp only [Act.put, List.setIfInBounds_toArray, List.set_cons_zero, List.set_cons_succ]
                refine wl_step (st_buildNums (k := .i64) [k] hE0 rfl rfl (by first | (kernel_rfl; done) | (simp only [List.map_cons, List.map_nil, List.zipIdx_cons, List.zipIdx_nil]; rfl)) rfl (by decide) (by decide) Tryd.underlying40 (by kernel_rfl) Tryd.zeroValue3 ?_)
                intro g60 w1 hb1 hE1
                clear hE0
                simp only [Act.put, List.setIfInBounds_toArray, List.set_cons_zero, List.set_cons_succ]
                refine wl_step (st_append (hO3.out.sl (hE1.perm (pmI1 ..))) rfl rfl Tryd.underlying40 Hi.out Hz.out Hs.out rfl Hb.out rfl rfl (RdS.of_block (hE1.get (i := 0) rfl)) h63 hft ?_)
                intro v2 w2 hS2
                have hE2 := hS2.env
                clear hE1
                simp only [Act.put, List.setIfInBounds_toArray, List.set_cons_zero, List.set_cons_succ]
                obtain ⟨bs2, ho2, hEE⟩ := hS2.ow
                rw [He.out] at ho2
                (with_reducible refine' wl_valS ?_ ?_ ?_); rotate_left; exact rfl; exact (v_moveT (.inr rfl) rfl)
                simp only [Act.put, List.setIfInBounds_toArray, List.set_cons_zero, List.set_cons_succ]
                repeat ((fail_if_success (with_reducible show wpList _ _ _ (List.cons _ _) _ _)); (fail_if_success (with_reducible show Code.wp _ (Code.region _ _ true) _ _ _)); go_step)
                (with_reducible refine' wl_valS ?_ ?_ ?_); rotate_left; exact rfl; exact (v_moveT (.inl rfl) rfl)
                simp only [Act.put, List.setIfInBounds_toArray, List.set_cons_zero, List.set_cons_succ]
                (with_reducible refine' wl_valS ?_ ?_ ?_); rotate_left; exact rfl; exact (v_add (n := 1) rfl rfl rfl (w_i64 (by omega)))
                simp only [Act.put, List.setIfInBounds_toArray, List.set_cons_zero, List.set_cons_succ]
                (with_reducible refine' wl_valS ?_ ?_ ?_); rotate_left; exact rfl; exact (v_moveT (.inr rfl) rfl)
                simp only [Act.put, List.setIfInBounds_toArray, List.set_cons_zero, List.set_cons_succ]
                go_wp2
                go_roundw
                case rel => exact ⟨k + 1, bs2, by omega, rfl, Lib.hid (by rw [Hyes.out (by rw [Hto.out, hq3])]; exact ho2), hEE.sub (List.Sublist.append_left (List.sublist_cons_self _ _) _)⟩
                case measure => simp [intOf]; omega
              · have d4 := Lib.hid (decide_eq_false hq3)
                repeat ((fail_if_success (with_reducible show wpList _ _ _ (List.cons _ _) _ _)); (fail_if_success (with_reducible show Code.wp _ (Code.region _ _ true) _ _ _)); go_step)
                (with_reducible refine' wl_valS ?_ ?_ ?_); rotate_left; exact rfl; exact (v_moveT (.inl rfl) rfl)
                simp only [Act.put, List.setIfInBounds_toArray, List.set_cons_zero, List.set_cons_succ]
                (with_reducible refine' wl_valS ?_ ?_ ?_); rotate_left; exact rfl; exact (v_nil rfl rfl)
                simp only [Act.put, List.setIfInBounds_toArray, List.set_cons_zero, List.set_cons_succ]
                (with_reducible refine' wl_valS ?_ ?_ ?_); rotate_left; exact rfl; exact (v_field0 (s := 0) rfl rfl Tryd.underlying33 rfl (by kernel_rfl) rfl)
                simp only [Act.put, List.setIfInBounds_toArray, List.set_cons_zero, List.set_cons_succ]
                (with_reducible refine' wl_valS ?_ ?_ ?_); rotate_left; exact rfl; exact (v_cellB (v := .slice (some ⟨bq, offq, none⟩) MR.length cR) (i := 0) (Env.perm (hE0 : Env w (bI ++ ([] ++ (ntv g0 (.slice pN M.length cN) (1 + q) :: (bs ++ (rnb g1 (.slice (some ⟨bq, offq, none⟩) MR.length cR) (1 + q) :: (bR ++ R1)))))) _) (pmN ..)) rfl rfl rfl Tryd.underlying31 rfl rfl)
                simp only [Act.put, List.setIfInBounds_toArray, List.set_cons_zero, List.set_cons_succ]
                (with_reducible refine' wl_valS ?_ ?_ ?_); rotate_left; exact rfl; exact (v_moveT (.inl rfl) rfl)
                simp only [Act.put, List.setIfInBounds_toArray, List.set_cons_zero, List.set_cons_succ]
                (with_reducible refine' wl_valS ?_ ?_ ?_); rotate_left; exact rfl; exact (v_indexSs (s := 3) rfl rfl rfl Tryd.underlying31 (by kernel_rfl) hkl)
                simp only [Act.put, List.setIfInBounds_toArray, List.set_cons_zero, List.set_cons_succ]
                (with_reducible refine' wl_valS ?_ ?_ ?_); rotate_left; exact rfl; exact (v_fieldK (s := 0) rfl rfl Tryd.underlying43 rfl (by kernel_rfl) rfl)
                simp only [Act.put, List.setIfInBounds_toArray, List.set_cons_zero, List.set_cons_succ]
                (with_reducible refine' wl_valS ?_ ?_ ?_); rotate_left; exact rfl; exact (v_cellR (v := .int .i64 n.to) (j := 1) (Hran3.out _ _ ((Env.perm (hE0 : Env w (bI ++ ([] ++ (ntv g0 (.slice pN M.length cN) (1 + q) :: (bs ++ (rnb g1 (.slice (some ⟨bq, offq, none⟩) MR.length cR) (1 + q) :: (bR ++ R1)))))) _) (pmN ..)).sub (List.sublist_cons_self _ _))) rfl rfl rfl Tryd.underlying3 rfl)
                simp only [Act.put, List.setIfInBounds_toArray, List.set_cons_zero, List.set_cons_succ]
                (with_reducible refine' wl_valS ?_ ?_ ?_); rotate_left; exact rfl; exact (v_moveT (.inl rfl) rfl)
                simp only [Act.put, List.setIfInBounds_toArray, List.set_cons_zero, List.set_cons_succ]
                (with_reducible refine' wl_valS ?_ ?_ ?_); rotate_left; exact rfl; exact (v_eqlI rfl rfl rfl)
                simp only [Act.put, List.setIfInBounds_toArray, List.set_cons_zero, List.set_cons_succ]
                rw [d4.out]
                repeat ((fail_if_success (with_reducible show wpList _ _ _ (List.cons _ _) _ _)); (fail_if_success (with_reducible show Code.wp _ (Code.region _ _ true) _ _ _)); (fail_if_success (with_reducible show Code.wp _ (Code.cond _ _ _) _ _ _)); go_step)
                refine wp_cond_false (by first | rfl | exact congrArg Value.bool (decide_eq_false (by omega))) ?_
                skip
                repeat ((fail_if_success (with_reducible show wpList _ _ _ (List.cons _ _) _ _)); (fail_if_success (with_reducible show Code.wp _ (Code.region _ _ true) _ _ _)); go_step)
                (with_reducible refine' wl_valS ?_ ?_ ?_); rotate_left; exact rfl; exact (v_moveT (.inl rfl) rfl)
                simp only [Act.put, List.setIfInBounds_toArray, List.set_cons_zero, List.set_cons_succ]
                (with_reducible refine' wl_valS ?_ ?_ ?_); rotate_left; exact rfl; exact (v_add (n := 1) rfl rfl rfl (w_i64 (by omega)))
                simp only [Act.put, List.setIfInBounds_toArray, List.set_cons_zero, List.set_cons_succ]
                (with_reducible refine' wl_valS ?_ ?_ ?_); rotate_left; exact rfl; exact (v_moveT (.inr rfl) rfl)
                simp only [Act.put, List.setIfInBounds_toArray, List.set_cons_zero, List.set_cons_succ]
                go_wp2
                go_roundw
                case rel => exact ⟨k + 1, bI, by omega, rfl, Lib.hid (by rw [Hno.out hq3]; exact hO3.out), hE0⟩
                case measure => simp [intOf]; omega
            · have hk' : k = MR.length := by omega
              subst hk'
              have d3 := Lib.hid (decide_eq_false hkl)
              have hixx : ixs (M.map (·.to)) q2 M.length = ixs (MR.map (·.to)) q2 MR.length := by rw [keys_tos Hk.out, hlen]
              have hixl := ixs_len (MR.map (·.to)) q2 MR.length
              repeat ((fail_if_success (with_reducible show wpList _ _ _ (List.cons _ _) _ _)); (fail_if_success (with_reducible show Code.wp _ (Code.region _ _ true) _ _ _)); go_step)
              (with_reducible refine' wl_valS ?_ ?_ ?_); rotate_left; exact rfl; exact (v_moveT (.inl rfl) rfl)
              simp only [Act.put, List.setIfInBounds_toArray, List.set_cons_zero, List.set_cons_succ]
              (with_reducible refine' wl_valS ?_ ?_ ?_); rotate_left; exact rfl; exact (v_moveT (.inl rfl) rfl)
              simp only [Act.put, List.setIfInBounds_toArray, List.set_cons_zero, List.set_cons_succ]
              (with_reducible refine' wl_valS ?_ ?_ ?_); rotate_left; exact rfl; exact (v_nil rfl rfl)
              simp only [Act.put, List.setIfInBounds_toArray, List.set_cons_zero, List.set_cons_succ]
              (with_reducible refine' wl_valS ?_ ?_ ?_); rotate_left; exact rfl; exact (v_field0 (s := 0) rfl rfl Tryd.underlying33 rfl (by kernel_rfl) rfl)
              simp only [Act.put, List.setIfInBounds_toArray, List.set_cons_zero, List.set_cons_succ]
              (with_reducible refine' wl_valS ?_ ?_ ?_); rotate_left; exact rfl; exact (v_cellB (v := .slice pR MR.length cR) (i := 0) (Env.perm (hE0 : Env w (bI ++ ([] ++ (ntv g0 (.slice pN M.length cN) (1 + q) :: (bs ++ (rnb g1 (.slice pR MR.length cR) (1 + q) :: (bR ++ R1)))))) _) (pmN ..)) rfl rfl rfl Tryd.underlying31 rfl rfl)
              simp only [Act.put, List.setIfInBounds_toArray, List.set_cons_zero, List.set_cons_succ]
              (with_reducible refine' wl_valS ?_ ?_ ?_); rotate_left; exact rfl; exact (v_len rfl rfl Tryd.underlying31 hR63)
              simp only [Act.put, List.setIfInBounds_toArray, List.set_cons_zero, List.set_cons_succ]
              (with_reducible refine' wl_valS ?_ ?_ ?_); rotate_left; exact rfl; exact (v_lss (m := MR.length) (n := MR.length) rfl rfl rfl)
              simp only [Act.put, List.setIfInBounds_toArray, List.set_cons_zero, List.set_cons_succ]
              rw [d3.out]
              repeat ((fail_if_success (with_reducible show wpList _ _ _ (List.cons _ _) _ _)); (fail_if_success (with_reducible show Code.wp _ (Code.region _ _ true) _ _ _)); (fail_if_success (with_reducible show Code.wp _ (Code.cond _ _ _) _ _ _)); go_step)
              refine wp_cond_false (by first | rfl | exact congrArg Value.bool (decide_eq_false (by omega))) ?_
              skip
              repeat ((fail_if_success (with_reducible show wpList _ _ _ (List.cons _ _) _ _)); (fail_if_success (with_reducible show Code.wp _ (Code.region _ _ true) _ _ _)); go_step)
              (with_reducible refine' wl_valS ?_ ?_ ?_); rotate_left; exact rfl; exact (v_moveT (.inl rfl) rfl)
              simp only [Act.put, List.setIfInBounds_toArray, List.set_cons_zero, List.set_cons_succ]
              (with_reducible refine' wl_valS ?_ ?_ ?_); rotate_left; exact rfl; exact (v_moveT (.inl rfl) rfl)
              simp only [Act.put, List.setIfInBounds_toArray, List.set_cons_zero, List.set_cons_succ]
              refine wl_step (st_calls rfl (run_call rfl Tryd.call14) (HP1.out.to (X := bI) (q := q2) hE0 hN2) ?_)
              rintro _ w1 ⟨vI, bI2, rfl, hOI, hE1⟩
              rw [hixx] at hOI
              refine ⟨_, rfl, ?_⟩
              clear hE0
              simp only [Act.put, List.setIfInBounds_toArray, List.set_cons_zero, List.set_cons_succ]
              (with_reducible refine' wl_valS ?_ ?_ ?_); rotate_left; exact rfl; exact (v_moveT (.inl rfl) rfl)
              simp only [Act.put, List.setIfInBounds_toArray, List.set_cons_zero, List.set_cons_succ]
              refine wl_step (st_gives hE1 rfl (run_call rfl Tryd.call13) (Ints_same (hOI.seesW _ (hE1.sub (List.sublist_append_left _ _))) (hO3.out.seesW _ (hE1.sub ((List.sublist_append_left _ _).trans (List.sublist_append_right _ _)))) (by omega)) ?_)
              intro w2 hb2 hE2
              clear hE1
              simp only [Act.put, List.setIfInBounds_toArray, List.set_cons_zero, List.set_cons_succ]
              (with_reducible refine' wl_valS ?_ ?_ ?_); rotate_left; exact rfl; exact (v_not rfl rfl)
              simp only [Act.put, List.setIfInBounds_toArray, List.set_cons_zero, List.set_cons_succ]
              repeat ((fail_if_success (with_reducible show wpList _ _ _ (List.cons _ _) _ _)); (fail_if_success (with_reducible show Code.wp _ (Code.region _ _ true) _ _ _)); (fail_if_success (with_reducible show Code.wp _ (Code.cond _ _ _) _ _ _)); go_step)
              refine wp_cond_false (by first | rfl | exact congrArg Value.bool (decide_eq_false (by omega))) ?_
              skip
              repeat ((fail_if_success (with_reducible show wpList _ _ _ (List.cons _ _) _ _)); (fail_if_success (with_reducible show Code.wp _ (Code.region _ _ true) _ _ _)); go_step)
              (with_reducible refine' wl_valS ?_ ?_ ?_); rotate_left; exact rfl; exact (v_moveT (.inl rfl) rfl)
              simp only [Act.put, List.setIfInBounds_toArray, List.set_cons_zero, List.set_cons_succ]
              (with_reducible refine' wl_valS ?_ ?_ ?_); rotate_left; exact rfl; exact (v_add (n := 1) rfl rfl rfl (w_i64 (by omega)))
              simp only [Act.put, List.setIfInBounds_toArray, List.set_cons_zero, List.set_cons_succ]
              (with_reducible refine' wl_valS ?_ ?_ ?_); rotate_left; exact rfl; exact (v_moveT (.inr rfl) rfl)
              simp only [Act.put, List.setIfInBounds_toArray, List.set_cons_zero, List.set_cons_succ]
              go_wp2
              go_roundw
              case rel => exact ⟨j + 1, M, MR, _, bs, _, bR, R1, by omega, rfl, HP1.out, HR1.out, Hk.out, (hE2).sub ((List.sublist_append_right _ _).trans (List.sublist_append_right _ _))⟩
              case measure => simp [intOf]; omega
      · have d2 := Lib.hid (decide_eq_false hjl)
        repeat ((fail_if_success (with_reducible show wpList _ _ _ (List.cons _ _) _ _)); (fail_if_success (with_reducible show Code.wp _ (Code.region _ _ true) _ _ _)); go_step)
        (with_reducible refine' wl_valS ?_ ?_ ?_); rotate_left; exact rfl; exact (v_moveT (.inl rfl) rfl)
        simp only [Act.put, List.setIfInBounds_toArray, List.set_cons_zero, List.set_cons_succ]
        (with_reducible refine' wl_valS ?_ ?_ ?_); rotate_left; exact rfl; exact (v_moveT (.inl rfl) rfl)
        simp only [Act.put, List.setIfInBounds_toArray, List.set_cons_zero, List.set_cons_succ]
        (with_reducible refine' wl_valS ?_ ?_ ?_); rotate_left; exact rfl; exact (v_len rfl rfl Tryd.underlying22 hm63)
        simp only [Act.put, List.setIfInBounds_toArray, List.set_cons_zero, List.set_cons_succ]
        (with_reducible refine' wl_valS ?_ ?_ ?_); rotate_left; exact rfl; exact (v_lss rfl rfl rfl)
        simp only [Act.put, List.setIfInBounds_toArray, List.set_cons_zero, List.set_cons_succ]
        rw [d2.out]
        repeat ((fail_if_success (with_reducible show wpList _ _ _ (List.cons _ _) _ _)); (fail_if_success (with_reducible show Code.wp _ (Code.region _ _ true) _ _ _)); (fail_if_success (with_reducible show Code.wp _ (Code.cond _ _ _) _ _ _)); go_step)
        refine wp_cond_false (by first | rfl | exact congrArg Value.bool (decide_eq_false (by omega))) ?_
        skip
        repeat ((fail_if_success (with_reducible show wpList _ _ _ (List.cons _ _) _ _)); (fail_if_success (with_reducible show Code.wp _ (Code.region _ _ true) _ _ _)); go_step)
        refine wl_step (st_gives hE0 rfl (run_call rfl Tryd.call6) (HW.out _) ?_)
        intro w1 hb1 hE1
        clear hE0
        simp only [Act.put, List.setIfInBounds_toArray, List.set_cons_zero, List.set_cons_succ]
        (with_reducible refine' wl_valS ?_ ?_ ?_); rotate_left; exact rfl; exact (v_moveT (.inr rfl) rfl)
        simp only [Act.put, List.setIfInBounds_toArray, List.set_cons_zero, List.set_cons_succ]
        repeat ((fail_if_success (with_reducible show wpList _ _ _ (List.cons _ _) _ _)); (fail_if_success (with_reducible show Code.wp _ (Code.region _ _ true) _ _ _)); go_step)
        go_returns
        exact ⟨rfl, hE1.below⟩
  · have HGr : Hid (∀ w1, Below w.heap.size w w1 → Gives 5 #[.slice p O.length c] w1 (.bool true)) := Lib.hid (fun w1 hb => great_any (hv.below hb) (fun o ho => (hO o ho).below hb) hm (by simp [hall]))
    clear hv hO hall
    have hE0 := Env.nil w
    go_enter Tryd.func3, Tryd.ntmps3
    repeat ((fail_if_success (with_reducible show wpList _ _ _ (List.cons _ _) _ _)); (fail_if_success (with_reducible show Code.wp _ (Code.region _ _ true) _ _ _)); go_step)
    (with_reducible refine' wl_valS ?_ ?_ ?_); rotate_left; exact rfl; exact (v_moveC (.inr rfl))
    simp only [Act.put, List.setIfInBounds_toArray, List.set_cons_zero, List.set_cons_succ]
    repeat ((fail_if_success (with_reducible show wpList _ _ _ (List.cons _ _) _ _)); (fail_if_success (with_reducible show Code.wp _ (Code.region _ _ true) _ _ _)); go_step)
    (with_reducible refine' wl_valS ?_ ?_ ?_); rotate_left; exact rfl; exact (v_moveT (.inl rfl) rfl)
    simp only [Act.put, List.setIfInBounds_toArray, List.set_cons_zero, List.set_cons_succ]
    refine wl_step (st_gives hE0 rfl (run_call rfl Tryd.call5) (HGr.out _ hE0.below) ?_)
    intro w1 hb1 hE1
    clear hE0
    simp only [Act.put, List.setIfInBounds_toArray, List.set_cons_zero, List.set_cons_succ]
    repeat ((fail_if_success (with_reducible show wpList _ _ _ (List.cons _ _) _ _)); (fail_if_success (with_reducible show Code.wp _ (Code.region _ _ true) _ _ _)); (fail_if_success (with_reducible show Code.wp _ (Code.cond _ _ _) _ _ _)); go_step)
    refine wp_cond_true (by first | rfl | exact congrArg Value.bool (decide_eq_true (by omega))) ?_
    skip
    repeat ((fail_if_success (with_reducible show wpList _ _ _ (List.cons _ _) _ _)); (fail_if_success (with_reducible show Code.wp _ (Code.region _ _ true) _ _ _)); go_step)
    refine wl_step (st_gives hE1 rfl (run_call rfl Tryd.call6) (HW.out _) ?_)
    intro w2 hb2 hE2
    clear hE1
    simp only [Act.put, List.setIfInBounds_toArray, List.set_cons_zero, List.set_cons_succ]
    (with_reducible refine' wl_valS ?_ ?_ ?_); rotate_left; exact rfl; exact (v_moveT (.inr rfl) rfl)
    simp only [Act.put, List.setIfInBounds_toArray, List.set_cons_zero, List.set_cons_succ]
    repeat ((fail_if_success (with_reducible show wpList _ _ _ (List.cons _ _) _ _)); (fail_if_success (with_reducible show Code.wp _ (Code.region _ _ true) _ _ _)); go_step)
    go_returns
    exact ⟨rfl, hE2.below⟩
theorem netPlays_walk {a0 a2 : Int} {O : List OV} {v : Value} {w : World} (hh : Handled w) (wf : (Lit.int .u8 a0).wf = true) (hv : RdZ 4 O.length (ocells O) v w) (hO : ∀ o ∈ O, RdOv w o) (hm : O.length ≤ maxLen) :
    Gives 3 #[.int .u8 a0, v, .int .i64 a2] w (.bool true) := by
  have hb := bounds_u8 wf
  obtain ⟨mo, rfl⟩ : ∃ n : Nat, a0 = (n : Int) := ⟨a0.toNat, by omega⟩
  exact netPlays_walk0 hh (by omega) hv hO hm
set_option maxRecDepth 100000 in
theorem netPlays_lifted (os : Os) (started : os.Started) (H : Type) (enc : TypeId × Value → H) :
    ReturnsInHanded {} Tryd.checked os 3 .any (fun w args => (Rows.netPlaysSpec.pre enc Tryd.prog Tryd.f3 [] false w args ∧ laidMetH Tryd.prog laidL w) ∧ sizedMet enc Tryd.prog Tryd.f3 (OpenSpec.ofChange Rows.netPlaysSpec) false w args) (Rows.netPlaysSpec.post enc Tryd.prog Tryd.f3 false true false false) := by
  refine returnsInHanded_of_change_and (C := Tryd.checked) (X := fun w _ => laidMetH Tryd.prog laidL w) (fun _ _ _ hh h => h.of_heap hh) own started (by kernel_rfl) Tryd.func3
    (ChangeSpec.witness_at (enc := enc) (C := Tryd.checked) (os := os) (X := fun w _ => laidMetH Tryd.prog laidL w) false (laidWorld os) #[.int .u8 0, .slice none 0 0, .int .i64 0] 8 rfl (by kernel_rfl) (by kernel_rfl) (by kernel_rfl) (by kernel_rfl) (by kernel_rfl) (laidWorld_met os _)) ?_
  intro W base args ds gs before hval0 hW hcnd _ hL _
  have hg := handle_of_laid hL
  have hval : ∀ (j : Nat) t v, Tryd.f3.params[j]? = some t → args[j]? = some v → Value.okWide Tryd.prog W .any base t v := hval0
  have hW' := hW
  obtain ⟨p, q, hA0, hV, rfl, hfz, hnd⟩ := hW
  have hA : DataW.TrodAll enc Tryd.prog W 0 (fun _ => true) true Tryd.f3.params.toList args.toList ds p := hA0
  rw [Tryd.params3] at hA hval
  obtain ⟨v0, vs0, d0, ds0, p0, q0, hargs, rfl, rfl, h0, r0⟩ := trodAll_cons hA
  obtain ⟨v1, vs1, d1, ds1, p1, q1, rfl, rfl, rfl, h1, r1⟩ := trodAll_cons r0
  obtain ⟨v2, vs2, d2, ds2, p2, q2, rfl, rfl, rfl, h2, r2⟩ := trodAll_cons r1
  obtain ⟨rfl, rfl, rfl⟩ := trodAll_nil r2
  obtain rfl : args = #[v0, v1, v2] := by cases args; simp_all
  obtain ⟨rfl, rfl⟩ := trodVars_none hV
  have k0 := h0
  have lt0 : ∀ x ∈ p0, x.block < W.heap.size := by obtain ⟨m, hm⟩ := k0; exact DataW.trod_lt m _ _ _ hm
  have k1 := h1
  have lt1 : ∀ x ∈ p1, x.block < W.heap.size := by obtain ⟨m, hm⟩ := k1; exact DataW.trod_lt m _ _ _ hm
  have k2 := h2
  have lt2 : ∀ x ∈ p2, x.block < W.heap.size := by obtain ⟨m, hm⟩ := k2; exact DataW.trod_lt m _ _ _ hm
  obtain ⟨a0, rfl, rfl, rfl, wf0⟩ := open_int Tryd.underlying5 (hval 0 5 v0 rfl rfl) h0
  obtain ⟨O1, ho1, ho2, ho3⟩ := open_ops (hval 1 22 v1 rfl rfl) h1
  obtain ⟨a2, rfl, rfl, rfl, wf2⟩ := open_int Tryd.underlying3 (hval 2 3 v2 rfl rfl) h2
  clear hA0 hval0
  refine (netPlays_walk hg wf0 ho1 ho2 ho3).mono fun e W' ⟨he, bel⟩ => ?_
  subst he
  exact ⟨_, rfl, _, _, _, [], _, [], hW', trodAll_mk1 (shut_bool Tryd.underlying4 _), (trodAll_cons_mk (Below.trod laidOut (by kernel_rfl) (of_decide_eq_true (by kernel_rfl)) k0 bel lt0) (trodAll_cons_mk (Below.trod laidOut (by kernel_rfl) (of_decide_eq_true (by kernel_rfl)) k1 bel lt1) (trodAll_cons_mk (Below.trod laidOut (by kernel_rfl) (of_decide_eq_true (by kernel_rfl)) k2 bel lt2) trodAll_mk0))), rfl, bel.frame _, fun h => by cases h⟩

theorem netPlays_over : Rows.netPlaysRow.holds Tryd.pinned (OpenSpec.ofChange Rows.netPlaysSpec) :=
  OpenClaim.holds_of_wide 3 Tryd.f3 rfl rfl rfl rfl rfl rfl rfl ⟨rfl, rfl, rfl, rfl, rfl⟩ rfl rfl rfl rfl rfl (by kernel_rfl) Tryd.func3 (by kernel_rfl)
    (of_decide_eq_true (by kernel_rfl)) (by unfold Func.isWrapper; first | (rw [if_pos (by decide +kernel)]; kernel_rfl) | (rw [if_neg (by decide +kernel)]; exact ⟨rfl, rfl⟩))
    (fun os started H enc _ => netPlays_lifted os started H enc)

theorem netPlays_holds : Rows.NetPlaysCardSaid :=
  Claim7.holds_tied_plain_at .later [] [.handle] true Rows.netPlaysCard.stood.harness true
    netPlays_over (fun _ h => by cases h) (by kernel_rfl) (fun _ h => by cases h) netPlays_row_tie rfl ⟨rfl, rfl⟩ (by kernel_rfl) rfl
    (fun f fn hf hfn => by
      obtain rfl : f = 3 := Option.some.inj ((show Tryd.prog.funcNamed "dioptre/dioptrelaw28.NetPlays" = some 3 by kernel_rfl).symm.trans hf) |>.symm
      obtain rfl : fn = Tryd.f3 := (Option.some.inj (Tryd.func3.symm.trans hfn)).symm
      exact ⟨by kernel_rfl, fun j t ht => by
        rw [Tryd.params3] at ht
        have hm := List.mem_of_getElem? (show [5, 22, 3][j]? = some t by simpa using ht)
        have key : ∀ t ∈ [5, 22, 3], Tryd.prog.wantsStandIn t = false := by
          intro t h
          simp only [List.mem_cons, List.not_mem_nil, or_false] at h
          rcases h with rfl | rfl | rfl <;> kernel_rfl
        exact key t hm⟩)
    (by kernel_rfl)

#print axioms netPlays_holds
end Go.Proofs.YtnbbehgcnodfbaaDoor
