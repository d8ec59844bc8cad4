/-
  Layer 28: 'NetOwn': whoever writes into what was handed in, or was answered, changes no packet. No condition.
-/
import Derived.Test.YtnbbehgcnodfbaaNetH
namespace Go.Proofs.Ytnbbehgcnodfbaa
open Go.ChangeShapes Go.WideShapes Go.ChangeAt Go.RowKit
set_option maxRecDepth 100000
set_option linter.unusedVariables false
set_option linter.unusedSimpArgs false

/-- The block of an own slice of bytes: a byte of it, and what it is when that byte is another. -/
theorem Ow.blk {e : TypeId} {L : List Nat} {p : Option Addr} {n c j : Nat} {bs : List Blk} (h : Ow e (nats .u8 L) (.slice p n c) bs) (hl : L.length = n) (hj : j < n) : ∃ g cs, p = some ⟨g, 0, none⟩ ∧ bs = [⟨g, e, cs⟩] ∧ cs[j]? = some (.int .u8 (L.getD j 0 : Nat)) ∧ j < cs.size ∧
    ∀ x : Nat, Ow e (nats .u8 (L.set j x)) (.slice p n c) [⟨g, e, cs.setIfInBounds j (.int .u8 (x : Int))⟩] := by
  rcases h with ⟨h1, h2, h3⟩ | ⟨g, cap, cs, h1, h2, h3, h4, h5, h6⟩
  · injection h1 with _ h1 _
    omega
  · rw [nats_len] at h1 h2 h5
    injection h1 with e1 e2 e3
    subst e1 e3
    have hjl : j < L.length := by omega
    refine ⟨g, cs, rfl, h6, ?_, by omega, fun x => ?_⟩
    · have h7 : (cs.toList.take L.length)[j]? = (nats .u8 L)[j]? := by rw [h5]
      rw [List.getElem?_take, if_pos hjl] at h7
      rw [← Array.getElem?_toList, h7]
      unfold nats
      rw [Array.getElem?_toList]
      exact ints_get? .u8 L j hjl
    · have hsl : (nats .u8 (L.set j x)).length = n := by rw [nats_len, List.length_set, hl]
      refine .inr ⟨g, c, _, by rw [hsl], by rw [hsl]; omega, h3, by rw [Array.size_setIfInBounds, h4], ?_, rfl⟩
      rw [hsl, ← hl, Array.toList_setIfInBounds, List.take_set, h5]
      unfold nats
      rw [← Array.toList_setIfInBounds, ints_set]
/-- A slice built of nothing. -/
theorem st_build0' {P : Program} {ops : Array Oper} {Q : Exit → Act → World → Prop} {a : Act} {w w0 : World} {l : List Blk} {o : Oper} {K : Act → World → Prop} {t e : TypeId} (hE : Env w0 l w) (hw : Region.wanted o (yielded ops a.tmps) = true) (ho : o.op = .buildSlice t 0 #[]) (ht : P.underlying t = some (.slice e)) (hs : (P.info? e).map (·.size) = some 1)
    (kk : ∀ g w1, Below w.heap.size w w1 → Env w0 (⟨g, e, #[]⟩ :: l) w1 → K (a.put o.dst (.slice (some ⟨g, 0, none⟩) 0 0)) w1) : Step P ops Q o K a w := by
  refine st_run (w1 := w.alloc (.cells #[] e)) (v := .slice (some ⟨w.heap.size, 0, none⟩) 0 0) hw ?_ (kk _ _ ((Below.refl _ _).alloc (Nat.le_refl _) _) (hE.alloc e _))
  unfold execOp
  simp [ho, Instr.buildSlice, Sem.run_bind, run_underlying ht, size_run hs, Sem.run_pure, Instr.fill, newRow, newObj, Sem.run]
  congr 2
  apply Array.toList_inj.1
  simp
theorem Copy_ok {w0 w : World} {g most i : Nat} {M : List PV} {m : PV} {R bs : List Blk} {v : Value} (hO : Oz 3 25 M.length (pcells M) v bs) (hS : ∀ m ∈ M, Sees w0 R m) (hm : M[i]? = some m) (hM : M.length + 1 ≤ most) (hmost : most ≤ 64) (hmb : m.by'.length < 1000000)
    (hE : Env w0 (⟨g, 48, #[v, .int .i64 (most : Int)]⟩ :: (bs ++ R)) w) :
    Calls Try.prog 11 #[.pointer (some ⟨g, 0, none⟩), .int .i64 (i : Int)] w fun e w' => e = .returned .nilIface ∧ ∃ v' bo s b, Ow 5 (nats .u8 m.by') s b ∧ Oz 3 25 (M ++ [(⟨m.fr, m.to, m.by', s⟩ : PV)]).length (pcells (M ++ [(⟨m.fr, m.to, m.by', s⟩ : PV)])) v' bo ∧
      Env w0 (⟨g, 48, #[v', .int .i64 (most : Int)]⟩ :: (bo ++ (b ++ R))) w' := by
  refine (Copy_any hO hS hm (by omega) hmost hmb hE).mono ?_
  rintro e w' ⟨rfl, v', bo, N, h2, h3, h4, h5⟩
  rw [List.take_of_length_le (by simp only [List.length_cons, List.length_nil]; omega)] at h2
  rw [if_pos (by omega)]
  obtain ⟨s, b, rfl⟩ := one_of (f := m.fr) (t := m.to) (c := m.by') h2
  refine ⟨rfl, v', bo, s, b, h3 _ (List.mem_cons_self ..), h4, ?_⟩
  simpa [blks] using h5
theorem pmA (a b : Blk) (x : List Blk) : (a :: (b :: x)).Perm (b :: ([] ++ (a :: x))) := List.Perm.swap _ _ _
theorem pmB (a : Blk) (x y z u : List Blk) : (a :: (x ++ (y ++ (z ++ u)))).Perm (u ++ (a :: (x ++ (y ++ z)))) := by
  classical
  exact List.perm_iff_count.2 fun c => by simp only [List.count_append, List.count_cons, List.count_nil]; omega
theorem pmC (a : Blk) (x y z u : List Blk) : (u ++ (a :: (x ++ (y ++ z)))).Perm (a :: (x ++ ((y ++ z) ++ u))) := by
  classical
  exact List.perm_iff_count.2 fun c => by simp only [List.count_append, List.count_cons, List.count_nil]; omega
theorem pmD (a d : Blk) (y z u v x w : List Blk) : (a :: ((d :: y) ++ ((z ++ u) ++ (v ++ (x ++ w))))).Perm (z ++ (u ++ (d :: (a :: (v ++ (x ++ (y ++ w))))))) := by
  classical
  exact List.perm_iff_count.2 fun c => by simp only [List.count_append, List.count_cons, List.count_nil]; omega
theorem pmE (x y z : List Blk) : (x ++ (y ++ z)).Perm (y ++ (x ++ z)) := by
  classical
  exact List.perm_iff_count.2 fun c => by simp only [List.count_append]; omega
theorem pmF (d a : Blk) (z u v x : List Blk) : (z ++ (u ++ (d :: (a :: (v ++ x))))).Perm (d :: (z ++ (u ++ (a :: (v ++ x))))) := by
  classical
  exact List.perm_iff_count.2 fun c => by simp only [List.count_append, List.count_cons]; omega
theorem pmG (a b : Blk) (x y z : List Blk) : (a :: (b :: (x ++ (y ++ z)))).Perm (z ++ (a :: (b :: (x ++ y)))) := by
  classical
  exact List.perm_iff_count.2 fun c => by simp only [List.count_append, List.count_cons]; omega
theorem pmI (z u x : List Blk) (d : Blk) : (z ++ (u ++ (d :: x))).Perm (d :: (z ++ (u ++ x))) := by
  classical
  exact List.perm_iff_count.2 fun c => by simp only [List.count_append, List.count_cons]; omega
theorem pmJ (a b d : Blk) (x y z : List Blk) : (a :: (b :: (x ++ (y ++ (d :: z))))).Perm (d :: (a :: (b :: (x ++ (y ++ z))))) := by
  classical
  exact List.perm_iff_count.2 fun c => by simp only [List.count_append, List.count_cons]; omega
theorem pmH (a b : Blk) (x y z : List Blk) : (z ++ (a :: (b :: (x ++ y)))).Perm (b :: (x ++ (y ++ (a :: z)))) := by
  classical
  exact List.perm_iff_count.2 fun c => by simp only [List.count_append, List.count_cons]; omega

set_option maxHeartbeats 40000000 in
theorem netOwn_walk {l : List Nat} {v : Value} {fr to : Int} {w : World} (hv : RdS .u8 l v w) (dl : Digs 256 l) (hm : l.length ≤ maxLen) : Gives 4 #[v, .int .i64 fr, .int .i64 to] w (.bool true) := by
  obtain ⟨p, c, rfl, hc, -⟩ := id hv
  have Hv := Lib.hid hv
  have HW := Lib.hid (fun w => awake_any w)
  have hm63 : l.length < 9223372036854775808 := by unfold maxLen at hm; omega
  by_cases h60 : 60 < l.length
  · have d1 := Lib.hid (decide_eq_true h60)
    clear hv dl
    have hE0 := Env.nil w
    go_enter Try.func4, Try.ntmps4
    repeat ((fail_if_success (with_reducible show wpList _ _ _ (List.cons _ _) _ _)); (fail_if_success (with_reducible show Code.wp _ (Code.region _ _ true) _ _ _)); go_step)
    refine wl_step (st_val rfl (v_moveC (.inr rfl)) ?_)
    simp only [Act.put, List.setIfInBounds_toArray, List.set_cons_zero, List.set_cons_succ]
    repeat ((fail_if_success (with_reducible show wpList _ _ _ (List.cons _ _) _ _)); (fail_if_success (with_reducible show Code.wp _ (Code.region _ _ true) _ _ _)); go_step)
    refine wl_step (st_val rfl (v_moveT (.inl rfl) rfl) ?_)
    simp only [Act.put, List.setIfInBounds_toArray, List.set_cons_zero, List.set_cons_succ]
    refine wl_step (st_val rfl (v_len rfl rfl Try.underlying23 hm63) ?_)
    simp only [Act.put, List.setIfInBounds_toArray, List.set_cons_zero, List.set_cons_succ]
    refine wl_step (st_val rfl (v_gtr (n := 60) rfl rfl rfl) ?_)
    simp only [Act.put, List.setIfInBounds_toArray, List.set_cons_zero, List.set_cons_succ]
    rw [d1.out]
    repeat ((fail_if_success (with_reducible show wpList _ _ _ (List.cons _ _) _ _)); (fail_if_success (with_reducible show Code.wp _ (Code.region _ _ true) _ _ _)); (fail_if_success (with_reducible show Code.wp _ (Code.cond _ _ _) _ _ _)); go_step)
    refine wp_cond_true (by first | rfl | exact congrArg Value.bool (decide_eq_true (by omega))) ?_
    skip
    repeat ((fail_if_success (with_reducible show wpList _ _ _ (List.cons _ _) _ _)); (fail_if_success (with_reducible show Code.wp _ (Code.region _ _ true) _ _ _)); go_step)
    refine wl_step (st_gives hE0 rfl (run_call rfl Try.call6) (HW.out _) ?_)
    intro w1 hb1 hE1
    clear hE0
    simp only [Act.put, List.setIfInBounds_toArray, List.set_cons_zero, List.set_cons_succ]
    refine wl_step (st_val rfl (v_moveT (.inr rfl) rfl) ?_)
    simp only [Act.put, List.setIfInBounds_toArray, List.set_cons_zero, List.set_cons_succ]
    repeat ((fail_if_success (with_reducible show wpList _ _ _ (List.cons _ _) _ _)); (fail_if_success (with_reducible show Code.wp _ (Code.region _ _ true) _ _ _)); go_step)
    go_returns
    exact ⟨rfl, hE1.below⟩
  · have d1 := Lib.hid (decide_eq_false h60)
    have hl60 : l.length ≤ 60 := by omega
    obtain ⟨iu, hi, hz', hsz, hby⟩ := info_u8
    have Hi := Lib.hid hi
    have Hz := Lib.hid hz'
    have Hsz := Lib.hid hsz
    have Hby := Lib.hid hby
    have Dl := Lib.hid dl
    have a1 : ([] : List Value).length + l.length ≤ maxLen := by simp only [List.length_nil, maxLen]; omega
    have a2 : (([] : List Value).length + l.length) * 1 ≤ 140737488355328 := by simp only [List.length_nil]; omega
    clear hv dl hi hz' hsz hby
    have hE0 := Env.nil w
    go_enter Try.func4, Try.ntmps4
    repeat ((fail_if_success (with_reducible show wpList _ _ _ (List.cons _ _) _ _)); (fail_if_success (with_reducible show Code.wp _ (Code.region _ _ true) _ _ _)); go_step)
    refine wl_step (st_val rfl (v_moveC (.inr rfl)) ?_)
    simp only [Act.put, List.setIfInBounds_toArray, List.set_cons_zero, List.set_cons_succ]
    repeat ((fail_if_success (with_reducible show wpList _ _ _ (List.cons _ _) _ _)); (fail_if_success (with_reducible show Code.wp _ (Code.region _ _ true) _ _ _)); go_step)
    refine wl_step (st_val rfl (v_moveT (.inl rfl) rfl) ?_)
    simp only [Act.put, List.setIfInBounds_toArray, List.set_cons_zero, List.set_cons_succ]
    refine wl_step (st_val rfl (v_len rfl rfl Try.underlying23 hm63) ?_)
    simp only [Act.put, List.setIfInBounds_toArray, List.set_cons_zero, List.set_cons_succ]
    refine wl_step (st_val rfl (v_gtr (n := 60) rfl rfl rfl) ?_)
    simp only [Act.put, List.setIfInBounds_toArray, List.set_cons_zero, List.set_cons_succ]
    rw [d1.out]
    repeat ((fail_if_success (with_reducible show wpList _ _ _ (List.cons _ _) _ _)); (fail_if_success (with_reducible show Code.wp _ (Code.region _ _ true) _ _ _)); (fail_if_success (with_reducible show Code.wp _ (Code.cond _ _ _) _ _ _)); go_step)
    refine wp_cond_false (by first | rfl | exact congrArg Value.bool (decide_eq_false (by omega))) ?_
    skip
    repeat ((fail_if_success (with_reducible show wpList _ _ _ (List.cons _ _) _ _)); (fail_if_success (with_reducible show Code.wp _ (Code.region _ _ true) _ _ _)); go_step)
    refine wl_step (st_calls rfl (run_call rfl Try.call7) (New_any (n := 3) (by decide) (by decide) _) ?_)
    rintro _ w1 ⟨g0, rfl, hb1, hn, hgN⟩
    have hE1 := hE0.more hb1 hn hgN
    refine ⟨_, rfl, ?_⟩
    clear hE0
    simp only [Act.put, List.setIfInBounds_toArray, List.set_cons_zero, List.set_cons_succ]
    refine wl_step (st_val rfl (v_moveT (.inl rfl) rfl) ?_)
    simp only [Act.put, List.setIfInBounds_toArray, List.set_cons_zero, List.set_cons_succ]
    refine wl_step (st_val rfl (v_extract rfl rfl rfl) ?_)
    simp only [Act.put, List.setIfInBounds_toArray, List.set_cons_zero, List.set_cons_succ]
    refine wl_step (st_val rfl (v_extract rfl rfl rfl) ?_)
    simp only [Act.put, List.setIfInBounds_toArray, List.set_cons_zero, List.set_cons_succ]
    refine wl_step (st_val rfl (v_moveT (.inr rfl) rfl) ?_)
    simp only [Act.put, List.setIfInBounds_toArray, List.set_cons_zero, List.set_cons_succ]
    refine wl_step (st_val rfl (v_moveT (.inr rfl) rfl) ?_)
    simp only [Act.put, List.setIfInBounds_toArray, List.set_cons_zero, List.set_cons_succ]
    repeat ((fail_if_success (with_reducible show wpList _ _ _ (List.cons _ _) _ _)); (fail_if_success (with_reducible show Code.wp _ (Code.region _ _ true) _ _ _)); go_step)
    refine wl_step (st_val rfl (v_moveT (.inl rfl) rfl) ?_)
    simp only [Act.put, List.setIfInBounds_toArray, List.set_cons_zero, List.set_cons_succ]
    refine wl_step (st_val rfl (v_run fun w9 => by go_simp; with_reducible rfl) ?_)
    simp only [Act.put, List.setIfInBounds_toArray, List.set_cons_zero, List.set_cons_succ]
    refine wl_step (st_val rfl (v_moveT (.inl rfl) rfl) ?_)
    simp only [Act.put, List.setIfInBounds_toArray, List.set_cons_zero, List.set_cons_succ]
    refine wl_step (st_val rfl (v_moveT (.inl rfl) rfl) ?_)
    simp only [Act.put, List.setIfInBounds_toArray, List.set_cons_zero, List.set_cons_succ]
    refine wl_step (st_val rfl (v_run fun w9 => by go_simp; with_reducible rfl) ?_)
    simp only [Act.put, List.setIfInBounds_toArray, List.set_cons_zero, List.set_cons_succ]
    refine wl_step (st_val rfl (v_orF rfl rfl rfl) ?_)
    simp only [Act.put, List.setIfInBounds_toArray, List.set_cons_zero, List.set_cons_succ]
    repeat ((fail_if_success (with_reducible show wpList _ _ _ (List.cons _ _) _ _)); (fail_if_success (with_reducible show Code.wp _ (Code.region _ _ true) _ _ _)); (fail_if_success (with_reducible show Code.wp _ (Code.cond _ _ _) _ _ _)); go_step)
    refine wp_cond_false (by first | rfl | exact congrArg Value.bool (decide_eq_false (by omega))) ?_
    skip
    repeat ((fail_if_success (with_reducible show wpList _ _ _ (List.cons _ _) _ _)); (fail_if_success (with_reducible show Code.wp _ (Code.region _ _ true) _ _ _)); go_step)
    refine wl_step (st_build0' hE1 rfl rfl Try.underlying23 (by kernel_rfl) ?_)
    intro g1 w2 hb2 hE2
    clear hE1
    simp only [Act.put, List.setIfInBounds_toArray, List.set_cons_zero, List.set_cons_succ]
    obtain ⟨bs3, ho3, hEE⟩ := (Sl.of_block hE2 (by decide)).ow
    clear hE2
    have hE2 := hEE.perm List.perm_append_comm
    clear hEE
    refine wl_step (st_val rfl (v_moveT (.inl rfl) rfl) ?_)
    simp only [Act.put, List.setIfInBounds_toArray, List.set_cons_zero, List.set_cons_succ]
    refine wl_step (st_append (ho3.sl (hE2.perm (List.perm_append_comm (l₁ := [_])))) rfl rfl Try.underlying23 Hi.out Hz.out Hsz.out rfl Hby.out rfl rfl (Hv.out.below hE2.below) a1 a2 ?_)
    intro v3 w3 hS3
    have hE3 := hS3.env
    clear hE2
    simp only [Act.put, List.setIfInBounds_toArray, List.set_cons_zero, List.set_cons_succ]
    obtain ⟨bc, hoc, hEE⟩ := hS3.ow
    obtain ⟨pc, cc, hva, hca⟩ := Ow.lenN (l := l) hoc
    subst hva
    clear hE3 hS3
    have hE3 := hEE.perm List.perm_append_comm
    clear hEE
    refine wl_step (st_val rfl (v_moveT (.inr rfl) rfl) ?_)
    simp only [Act.put, List.setIfInBounds_toArray, List.set_cons_zero, List.set_cons_succ]
    have hoc' : Ow 5 (nats .u8 l) (.slice pc l.length cc) bc := hoc
    have HOC := Lib.hid hoc'
    have hsc : ∀ (R : List Blk), Sees w (R ++ bc) ⟨fr, to, l, .slice pc l.length cc⟩ := fun R w' h => hoc'.seesW _ (h.sub (List.sublist_append_right _ _))
    have HSend : Hid (∀ (w' : World) (gP : Nat), Env w (⟨gP, 25, ([[Value.int .i64 fr, .int .i64 to, .slice pc l.length cc]].flatten).toArray⟩ :: (⟨g0, 48, #[.slice none 0 0, .int .i64 ((3 : Nat) : Int)]⟩ :: bc)) w' →
        Calls Try.prog 13 #[.pointer (some ⟨g0, 0, none⟩), .slice (some ⟨gP, 0, none⟩) 1 1] w' fun e w'' => ∃ v' bo s1 b1, e = .returned .nilIface ∧ Ow 5 (nats .u8 l) s1 b1 ∧ Oz 3 25 1 (pcells [⟨fr, to, l, s1⟩]) v' bo ∧
          Env w (⟨g0, 48, #[v', .int .i64 ((3 : Nat) : Int)]⟩ :: (bo ++ (b1 ++ bc))) w'') := Lib.hid (fun w' gP h => by
      refine (Send_ok (M := []) (M' := [⟨fr, to, l, .slice pc l.length cc⟩]) (Oz.nil _ _) (fun m hm => by cases hm) (h.perm (pmA _ _ _)) (by decide) (fun w1 h1 => RdZ.of_block (h1.get (i := 0) rfl) rfl) (fun m hm => ?_) (fun m hm => ?_) (show 0 + 1 ≤ 3 by decide)).mono ?_
      · rw [List.mem_singleton.1 hm]
        exact hsc [_]
      · rw [List.mem_singleton.1 hm]
        show l.length < 1000000
        omega
      · rintro e w2 ⟨v', bo, N, he, hk, hown, hO, hE⟩
        obtain ⟨s1, b1, rfl⟩ := one_of (f := fr) (t := to) (c := l) hk
        refine ⟨v', bo, s1, b1, he, hown _ (List.mem_cons_self ..), hO, hE.sub ?_⟩
        refine List.Sublist.cons_cons _ (List.Sublist.append_left ?_ _)
        simp only [blks, List.flatMap_cons, List.flatMap_nil, List.append_nil]
        exact List.Sublist.append_left (List.sublist_cons_self _ _) _)
    clear hoc hoc' hsc
    repeat ((fail_if_success (with_reducible show wpList _ _ _ (List.cons _ _) _ _)); (fail_if_success (with_reducible show Code.wp _ (Code.region _ _ true) _ _ _)); go_step)
    refine wl_step (st_val rfl (v_moveT (.inl rfl) rfl) ?_)
    simp only [Act.put, List.setIfInBounds_toArray, List.set_cons_zero, List.set_cons_succ]
    refine wl_step (st_val rfl (v_moveT (.inl rfl) rfl) ?_)
    simp only [Act.put, List.setIfInBounds_toArray, List.set_cons_zero, List.set_cons_succ]
    refine wl_step (st_val rfl (v_moveT (.inl rfl) rfl) ?_)
    simp only [Act.put, List.setIfInBounds_toArray, List.set_cons_zero, List.set_cons_succ]
    refine wl_step (st_val rfl (v_moveT (.inl rfl) rfl) ?_)
    simp only [Act.put, List.setIfInBounds_toArray, List.set_cons_zero, List.set_cons_succ]
    refine wl_step (st_val rfl (v_buildV (zs := [.int .i64 0, .int .i64 0, .slice none 0 0]) (lay := [(0, 1), (1, 1), (2, 1)]) (vals := [(0, .int .i64 fr), (1, .int .i64 to), (2, .slice pc l.length cc)]) [.int .i64 fr, .int .i64 to, .slice pc l.length cc] rfl (by kernel_rfl) Try.underlying25 (by kernel_rfl) rfl rfl) ?_)
    simp only [Act.put, List.setIfInBounds_toArray, List.set_cons_zero, List.set_cons_succ]
    refine wl_step (st_oneP [[Value.int .i64 fr, .int .i64 to, .slice pc l.length cc]] hE3 rfl rfl (by simp only [List.map_cons, List.map_nil, List.zipIdx_cons, List.zipIdx_nil]; rfl) rfl (by decide) (by decide) Try.underlying33 (by kernel_rfl) Try.zeroValue25 (fun r hr => by rw [List.mem_singleton.1 hr]; rfl) ?_)
    intro g2 w4 hb4 hE4
    clear hE3
    simp only [Act.put, List.setIfInBounds_toArray, List.set_cons_zero, List.set_cons_succ]
    refine wl_step (st_calls rfl (run_call rfl Try.call13) (HSend.out _ _ hE4) ?_)
    rintro _ w5 ⟨v1, bo1, s1, b1, rfl, ho1, hz1, hE5⟩
    skip
    refine ⟨_, rfl, ?_⟩
    clear hE4
    simp only [Act.put, List.setIfInBounds_toArray, List.set_cons_zero, List.set_cons_succ]
    refine wl_step (st_val rfl (v_moveT (.inr rfl) rfl) ?_)
    simp only [Act.put, List.setIfInBounds_toArray, List.set_cons_zero, List.set_cons_succ]
    have HO1 := Lib.hid ho1
    have hs1 : ∀ (R : List Blk), Sees w (b1 ++ R) ⟨fr, to, l, s1⟩ := fun R w' h => ho1.seesW _ (h.sub (List.sublist_append_left _ _))
    have HS1 : Hid (∀ (R : List Blk), ∀ m ∈ [(⟨fr, to, l, s1⟩ : PV)], Sees w (b1 ++ R) m) := Lib.hid (fun R m hm => by rw [List.mem_singleton.1 hm]; exact hs1 R)
    have hl6 : l.length < 1000000 := by omega
    repeat ((fail_if_success (with_reducible show wpList _ _ _ (List.cons _ _) _ _)); (fail_if_success (with_reducible show Code.wp _ (Code.region _ _ true) _ _ _)); go_step)
    refine wl_step (st_val rfl (v_moveT (.inl rfl) rfl) ?_)
    simp only [Act.put, List.setIfInBounds_toArray, List.set_cons_zero, List.set_cons_succ]
    refine wl_step (st_calls rfl (run_call rfl Try.call11) (Copy_ok (i := 0) (m := ⟨fr, to, l, s1⟩) (M := [⟨fr, to, l, s1⟩]) hz1 (HS1.out _) rfl (show 1 + 1 ≤ 3 by decide) (show 3 ≤ 64 by decide) hl6 hE5) ?_)
    rintro _ w6 ⟨rfl, v2, bo2, s2, b2, ho2, hz2, hE6⟩
    skip
    refine ⟨_, rfl, ?_⟩
    clear hE5
    simp only [Act.put, List.setIfInBounds_toArray, List.set_cons_zero, List.set_cons_succ]
    refine wl_step (st_val rfl (v_moveT (.inr rfl) rfl) ?_)
    simp only [Act.put, List.setIfInBounds_toArray, List.set_cons_zero, List.set_cons_succ]
    have HO2 := Lib.hid ho2
    have HZ2 := Lib.hid hz2
    obtain ⟨p1, c1, hse1, -⟩ := ho1.lenN
    obtain ⟨p2, c2, hse2, -⟩ := ho2.lenN
    change s2 = .slice p2 l.length c2 at hse2
    subst hse1 hse2
    have hst := (hE6).perm (pmB _ bo2 b2 b1 bc)
    clear hE6 hz1 hz2 ho1 ho2 HSend hs1 HS1
    have HS12 : Hid (∀ (bX : List Blk), ∀ m ∈ [(⟨fr, to, l, .slice p1 l.length c1⟩ : PV), ⟨fr, to, l, .slice p2 l.length c2⟩], Sees w ((b2 ++ b1) ++ bX) m) := Lib.hid (fun bX m hm w' h => by
      simp only [List.mem_cons, List.not_mem_nil, or_false] at hm
      rcases hm with rfl | rfl
      · exact HO1.out.seesW _ (h.sub (List.Sublist.trans (List.sublist_append_right _ _) (List.sublist_append_left _ _)))
      · exact HO2.out.seesW _ (h.sub (List.Sublist.trans (List.sublist_append_left _ _) (List.sublist_append_left _ _))))
    obtain ⟨G, hG⟩ : ∃ G, (⟨g0, 48, #[v2, .int .i64 ((3 : Nat) : Int)]⟩ :: (bo2 ++ (b2 ++ b1)) : List Blk) = G := ⟨_, rfl⟩
    have HList : Hid (∀ (w' : World) (bX : List Blk), Env w (bX ++ G) w' → Calls Try.prog 8 #[.pointer (some ⟨g0, 0, none⟩)] w' fun e w'' => ∃ g3 c3 cs3 q0 d0 b3 q1 d1 b4, e = .returned (.slice (some ⟨g3, 0, none⟩) 2 c3) ∧ Ow 5 (nats .u8 l) (.slice q0 l.length d0) b3 ∧ Ow 5 (nats .u8 l) (.slice q1 l.length d1) b4 ∧ cs3[2]? = some (.slice q0 l.length d0) ∧ cs3[5]? = some (.slice q1 l.length d1) ∧
        Env w (b3 ++ (b4 ++ (⟨g3, 25, cs3⟩ :: G))) w'') := Lib.hid (fun w' bX h => by
      rw [← hG] at h
      refine (List_any (M := [(⟨fr, to, l, .slice p1 l.length c1⟩ : PV), ⟨fr, to, l, .slice p2 l.length c2⟩]) HZ2.out (HS12.out bX) (h.perm (pmC _ _ _ _ _)) (show 2 < 1000000 by decide) (fun m hm => ?_)).mono ?_
      · simp only [List.mem_cons, List.not_mem_nil, or_false] at hm
        rcases hm with rfl | rfl <;> exact hl6
      · rintro e w2 ⟨v', bo, N, rfl, hk, hown, hO, hE⟩
        obtain ⟨s3, b3, s4, b4, rfl⟩ := two_of (f := fr) (t := to) (c := l) (g := fr) (u := to) (d := l) hk
        have h3 : Ow 5 (nats .u8 l) s3 b3 := hown _ (List.mem_cons_self ..)
        have h4 : Ow 5 (nats .u8 l) s4 b4 := hown _ (List.mem_cons_of_mem _ (List.mem_cons_self ..))
        obtain ⟨q0, d0, rfl, -⟩ := h3.lenN
        obtain ⟨q1, d1, rfl, -⟩ := h4.lenN
        obtain ⟨-, ⟨-, h0, -⟩ | ⟨g3, c3, cs3, rfl, k2, k3, k4, k5, rfl⟩⟩ := hO
        · cases h0
        · have k6 : cs3.toList.take 6 = [.int .i64 fr, .int .i64 to, .slice q0 l.length d0, .int .i64 fr, .int .i64 to, .slice q1 l.length d1] := k5
          have k7 : ∀ j, j < 6 → cs3[j]? = ([.int .i64 fr, .int .i64 to, .slice q0 l.length d0, .int .i64 fr, .int .i64 to, .slice q1 l.length d1] : List Value)[j]? := fun j hj => by
            rw [← k6, List.getElem?_take, if_pos hj, Array.getElem?_toList]
          refine ⟨g3, c3, cs3, q0, d0, b3, q1, d1, b4, rfl, h3, h4, k7 2 (by decide), k7 5 (by decide), ?_⟩
          have h5 : Env w (⟨g0, 48, #[v2, .int .i64 ((3 : Nat) : Int)]⟩ :: ((⟨g3, 25, cs3⟩ :: []) ++ ((b3 ++ b4) ++ (bo2 ++ ((b2 ++ b1) ++ bX))))) w2 := by
            simpa [blks] using hE
          rw [← hG]
          refine (h5.perm (pmD _ _ _ _ _ _ _ _)).sub ?_
          refine List.Sublist.append_left (List.Sublist.append_left (List.Sublist.cons_cons _ (List.Sublist.cons_cons _ (List.Sublist.append_left ?_ _))) _) _
          exact List.sublist_append_left _ _)
    rw [hG] at hst
    have HG := Lib.hid hG
    clear hG HS12
    repeat ((fail_if_success (with_reducible show wpList _ _ _ (List.cons _ _) _ _)); (fail_if_success (with_reducible show Code.wp _ (Code.region _ _ true) _ _ _)); go_step)
    refine wl_step (st_val rfl (v_moveC (.inr rfl)) ?_)
    simp only [Act.put, List.setIfInBounds_toArray, List.set_cons_zero, List.set_cons_succ]
    go_wp2
    go_loopw [12] (fun i wr => ∃ (j : Nat) (L : List Nat) (bX : List Blk), j ≤ l.length ∧ i = .int .i64 j ∧ L.length = l.length ∧ Ow 5 (nats .u8 L) (.slice pc l.length cc) bX ∧ Env w (bX ++ G) wr) (fun i _ => l.length - (intOf i).toNat)
    case atStart => exact ⟨0, l, bc, Nat.zero_le _, rfl, rfl, HOC.out, hst⟩
    case round =>
      clear hst
      obtain ⟨j, L, bX, hj, rfl, hL, hOX, hE0⟩ := hrel
      by_cases hjl : j < l.length
      · have d1 := Lib.hid (decide_eq_true hjl)
        obtain ⟨gx, cs, hpc, rfl, hcell, hjs, hput⟩ := hOX.blk hL hjl
        subst hpc
        obtain ⟨x, hx⟩ : ∃ x, L.getD j 0 = x := ⟨_, rfl⟩
        rw [hx] at hcell
        have Hcell := Lib.hid hcell
        have Hput := Lib.hid hput
        have HL := Lib.hid hL
        clear hcell hput hL hOX hx
        repeat ((fail_if_success (with_reducible show wpList _ _ _ (List.cons _ _) _ _)); (fail_if_success (with_reducible show Code.wp _ (Code.region _ _ true) _ _ _)); go_step)
        refine wl_step (st_val rfl (v_moveT (.inl rfl) rfl) ?_)
        simp only [Act.put, List.setIfInBounds_toArray, List.set_cons_zero, List.set_cons_succ]
        refine wl_step (st_val rfl (v_moveT (.inl rfl) rfl) ?_)
        simp only [Act.put, List.setIfInBounds_toArray, List.set_cons_zero, List.set_cons_succ]
        refine wl_step (st_val rfl (v_len rfl rfl Try.underlying23 hm63) ?_)
        simp only [Act.put, List.setIfInBounds_toArray, List.set_cons_zero, List.set_cons_succ]
        refine wl_step (st_val rfl (v_lss rfl rfl rfl) ?_)
        simp only [Act.put, List.setIfInBounds_toArray, List.set_cons_zero, List.set_cons_succ]
        rw [d1.out]
        repeat ((fail_if_success (with_reducible show wpList _ _ _ (List.cons _ _) _ _)); (fail_if_success (with_reducible show Code.wp _ (Code.region _ _ true) _ _ _)); (fail_if_success (with_reducible show Code.wp _ (Code.cond _ _ _) _ _ _)); go_step)
        refine wp_cond_true (by first | rfl | exact congrArg Value.bool (decide_eq_true (by omega))) ?_
        skip
        repeat ((fail_if_success (with_reducible show wpList _ _ _ (List.cons _ _) _ _)); (fail_if_success (with_reducible show Code.wp _ (Code.region _ _ true) _ _ _)); go_step)
        refine wl_step (st_val rfl (v_moveT (.inl rfl) rfl) ?_)
        simp only [Act.put, List.setIfInBounds_toArray, List.set_cons_zero, List.set_cons_succ]
        refine wl_step (st_val rfl (v_moveT (.inl rfl) rfl) ?_)
        simp only [Act.put, List.setIfInBounds_toArray, List.set_cons_zero, List.set_cons_succ]
        refine wl_step (st_val rfl (v_moveT (.inl rfl) rfl) ?_)
        simp only [Act.put, List.setIfInBounds_toArray, List.set_cons_zero, List.set_cons_succ]
        refine wl_step (st_val rfl (v_moveT (.inl rfl) rfl) ?_)
        simp only [Act.put, List.setIfInBounds_toArray, List.set_cons_zero, List.set_cons_succ]
        refine wl_step (st_val rfl (v_indexS0 rfl rfl rfl Try.underlying23 (by kernel_rfl) hjl) ?_)
        simp only [Act.put, List.setIfInBounds_toArray, List.set_cons_zero, List.set_cons_succ]
        refine wl_step (st_val rfl (v_cellB (v := .int .u8 (x : Int)) (i := 0) hE0 rfl rfl rfl Try.underlying5 rfl Hcell.out) ?_)
        simp only [Act.put, List.setIfInBounds_toArray, List.set_cons_zero, List.set_cons_succ]
        refine wl_step (st_val rfl (v_add (n := 1) rfl rfl rfl (w_u8m _)) ?_)
        simp only [Act.put, List.setIfInBounds_toArray, List.set_cons_zero, List.set_cons_succ]
        refine wl_step (st_val rfl (v_indexS0 rfl rfl rfl Try.underlying23 (by kernel_rfl) hjl) ?_)
        simp only [Act.put, List.setIfInBounds_toArray, List.set_cons_zero, List.set_cons_succ]
        refine wl_step (st_put (v := .int .u8 (((x + 1) % 256 : Nat) : Int)) (i := 0) hE0 rfl rfl rfl rfl rfl (by kernel_rfl) rfl rfl hjs ?_)
        intro w1 hE1
        clear hE0
        simp only [Act.put, List.setIfInBounds_toArray, List.set_cons_zero, List.set_cons_succ]
        repeat ((fail_if_success (with_reducible show wpList _ _ _ (List.cons _ _) _ _)); (fail_if_success (with_reducible show Code.wp _ (Code.region _ _ true) _ _ _)); go_step)
        refine wl_step (st_val rfl (v_moveT (.inl rfl) rfl) ?_)
        simp only [Act.put, List.setIfInBounds_toArray, List.set_cons_zero, List.set_cons_succ]
        refine wl_step (st_val rfl (v_add (n := 1) rfl rfl rfl (w_i64 (by omega))) ?_)
        simp only [Act.put, List.setIfInBounds_toArray, List.set_cons_zero, List.set_cons_succ]
        refine wl_step (st_val rfl (v_moveT (.inr rfl) rfl) ?_)
        simp only [Act.put, List.setIfInBounds_toArray, List.set_cons_zero, List.set_cons_succ]
        go_wp2
        go_roundw
        case rel => exact ⟨j + 1, L.set j ((x + 1) % 256), _, by omega, rfl, by rw [List.length_set]; exact HL.out, Hput.out _, hE1⟩
        case measure => simp [intOf]; omega
      · have hj' : j = l.length := by omega
        subst hj'
        have d1 := Lib.hid (decide_eq_false hjl)
        clear hL hOX
        repeat ((fail_if_success (with_reducible show wpList _ _ _ (List.cons _ _) _ _)); (fail_if_success (with_reducible show Code.wp _ (Code.region _ _ true) _ _ _)); go_step)
        refine wl_step (st_val rfl (v_moveT (.inl rfl) rfl) ?_)
        simp only [Act.put, List.setIfInBounds_toArray, List.set_cons_zero, List.set_cons_succ]
        refine wl_step (st_val rfl (v_moveT (.inl rfl) rfl) ?_)
        simp only [Act.put, List.setIfInBounds_toArray, List.set_cons_zero, List.set_cons_succ]
        refine wl_step (st_val rfl (v_len rfl rfl Try.underlying23 hm63) ?_)
        simp only [Act.put, List.setIfInBounds_toArray, List.set_cons_zero, List.set_cons_succ]
        refine wl_step (st_val rfl (v_lss rfl rfl rfl) ?_)
        simp only [Act.put, List.setIfInBounds_toArray, List.set_cons_zero, List.set_cons_succ]
        rw [d1.out]
        repeat ((fail_if_success (with_reducible show wpList _ _ _ (List.cons _ _) _ _)); (fail_if_success (with_reducible show Code.wp _ (Code.region _ _ true) _ _ _)); (fail_if_success (with_reducible show Code.wp _ (Code.cond _ _ _) _ _ _)); go_step)
        refine wp_cond_false (by first | rfl | exact congrArg Value.bool (decide_eq_false (by omega))) ?_
        skip
        repeat ((fail_if_success (with_reducible show wpList _ _ _ (List.cons _ _) _ _)); (fail_if_success (with_reducible show Code.wp _ (Code.region _ _ true) _ _ _)); go_step)
        refine wl_step (st_val rfl (v_moveT (.inl rfl) rfl) ?_)
        simp only [Act.put, List.setIfInBounds_toArray, List.set_cons_zero, List.set_cons_succ]
        refine wl_step (st_calls rfl (run_call rfl Try.call8) (HList.out _ _ hE0) ?_)
        rintro _ w1 ⟨g3, c3, cs3, q0, e0, b3, q1, e1, b4, rfl, ho3, ho4, hcs0, hcs1, hE1⟩
        skip
        refine ⟨_, rfl, ?_⟩
        clear hE0
        simp only [Act.put, List.setIfInBounds_toArray, List.set_cons_zero, List.set_cons_succ]
        refine wl_step (st_val rfl (v_moveT (.inr rfl) rfl) ?_)
        simp only [Act.put, List.setIfInBounds_toArray, List.set_cons_zero, List.set_cons_succ]
        have HO3 := Lib.hid ho3
        have HO4 := Lib.hid ho4
        have Hcs0 := Lib.hid hcs0
        have Hcs1 := Lib.hid hcs1
        have hst := hE1
        clear hE1 ho3 ho4 hcs0 hcs1 HList
        repeat ((fail_if_success (with_reducible show wpList _ _ _ (List.cons _ _) _ _)); (fail_if_success (with_reducible show Code.wp _ (Code.region _ _ true) _ _ _)); go_step)
        refine wl_step (st_val rfl (v_moveC (.inr rfl)) ?_)
        simp only [Act.put, List.setIfInBounds_toArray, List.set_cons_zero, List.set_cons_succ]
        go_wp2
        go_loopw [14] (fun i wr => ∃ (j : Nat) (L0 L1 : List Nat) (bY0 bY1 : List Blk), j ≤ 2 ∧ i = .int .i64 j ∧ L0.length = l.length ∧ L1.length = l.length ∧ Ow 5 (nats .u8 L0) (.slice q0 l.length e0) bY0 ∧ Ow 5 (nats .u8 L1) (.slice q1 l.length e1) bY1 ∧ Env w (bY0 ++ (bY1 ++ (⟨g3, 25, cs3⟩ :: G))) wr) (fun i _ => 2 - (intOf i).toNat)
        case atStart => exact ⟨0, l, l, b3, b4, by decide, rfl, rfl, rfl, HO3.out, HO4.out, hst⟩
        case round =>
          clear hst
          obtain ⟨j, L0, L1, bY0, bY1, hj2, rfl, hL0, hL1, hY0, hY1, hE0⟩ := hrel
          by_cases hjl : j < 2
          · have d2 := Lib.hid (decide_eq_true hjl)
            repeat ((fail_if_success (with_reducible show wpList _ _ _ (List.cons _ _) _ _)); (fail_if_success (with_reducible show Code.wp _ (Code.region _ _ true) _ _ _)); go_step)
            refine wl_step (st_val rfl (v_moveT (.inl rfl) rfl) ?_)
            simp only [Act.put, List.setIfInBounds_toArray, List.set_cons_zero, List.set_cons_succ]
            refine wl_step (st_val rfl (v_moveT (.inl rfl) rfl) ?_)
            simp only [Act.put, List.setIfInBounds_toArray, List.set_cons_zero, List.set_cons_succ]
            refine wl_step (st_val rfl (v_len rfl rfl Try.underlying33 (show 2 < 9223372036854775808 by decide)) ?_)
            simp only [Act.put, List.setIfInBounds_toArray, List.set_cons_zero, List.set_cons_succ]
            refine wl_step (st_val rfl (v_lss rfl rfl rfl) ?_)
            simp only [Act.put, List.setIfInBounds_toArray, List.set_cons_zero, List.set_cons_succ]
            rw [d2.out]
            repeat ((fail_if_success (with_reducible show wpList _ _ _ (List.cons _ _) _ _)); (fail_if_success (with_reducible show Code.wp _ (Code.region _ _ true) _ _ _)); (fail_if_success (with_reducible show Code.wp _ (Code.cond _ _ _) _ _ _)); go_step)
            refine wp_cond_true (by first | rfl | exact congrArg Value.bool (decide_eq_true (by omega))) ?_
            skip
            repeat ((fail_if_success (with_reducible show wpList _ _ _ (List.cons _ _) _ _)); (fail_if_success (with_reducible show Code.wp _ (Code.region _ _ true) _ _ _)); go_step)
            refine wl_step (st_val rfl (v_moveC (.inr rfl)) ?_)
            simp only [Act.put, List.setIfInBounds_toArray, List.set_cons_zero, List.set_cons_succ]
            have HY0 := Lib.hid hY0
            have HY1 := Lib.hid hY1
            have HL0 := Lib.hid hL0
            have HL1 := Lib.hid hL1
            obtain ⟨bYo0, hbo0⟩ : ∃ b, bY1 = b := ⟨_, rfl⟩
            obtain ⟨bYo1, hbo1⟩ : ∃ b, bY0 = b := ⟨_, rfl⟩
            have hP0 : Env w (bY0 ++ (bYo0 ++ (⟨g3, 25, cs3⟩ :: G))) wr := by rw [← hbo0]; exact hE0
            have hP1 : Env w (bY1 ++ (bYo1 ++ (⟨g3, 25, cs3⟩ :: G))) wr := by rw [← hbo1]; exact hE0.perm (pmE _ _ _)
            have Hbo0 := Lib.hid hbo0
            have Hbo1 := Lib.hid hbo1
            clear hE0 hY0 hY1 hL0 hL1 d2 hbo0 hbo1
            rcases (show j = 0 ∨ j = 1 by omega) with rfl | rfl
            · have hst := hP0
              clear hP0 hP1
              go_wp2
              go_loopw [15] (fun i wr => ∃ (k : Nat) (L : List Nat) (bX : List Blk), k ≤ l.length ∧ i = .int .i64 k ∧ L.length = l.length ∧ Ow 5 (nats .u8 L) (.slice q0 l.length e0) bX ∧ Env w (bX ++ (bYo0 ++ (⟨g3, 25, cs3⟩ :: G))) wr) (fun i _ => l.length - (intOf i).toNat)
              case atStart => exact ⟨0, L0, bY0, Nat.zero_le _, rfl, HL0.out, HY0.out, hst⟩
              case round =>
                clear hst
                obtain ⟨k, L, bX, hk, rfl, hL, hOX, hE0⟩ := hrel
                by_cases hkl : k < l.length
                · have d1 := Lib.hid (decide_eq_true hkl)
                  obtain ⟨gx, cs, hpc, rfl, hcell, hks, hput⟩ := hOX.blk hL hkl
                  subst hpc
                  have Hput := Lib.hid hput
                  have HL := Lib.hid hL
                  clear hcell hput hL hOX
                  repeat ((fail_if_success (with_reducible show wpList _ _ _ (List.cons _ _) _ _)); (fail_if_success (with_reducible show Code.wp _ (Code.region _ _ true) _ _ _)); go_step)
                  refine wl_step (st_val rfl (v_moveT (.inl rfl) rfl) ?_)
                  simp only [Act.put, List.setIfInBounds_toArray, List.set_cons_zero, List.set_cons_succ]
                  refine wl_step (st_val rfl (v_moveT (.inl rfl) rfl) ?_)
                  simp only [Act.put, List.setIfInBounds_toArray, List.set_cons_zero, List.set_cons_succ]
                  refine wl_step (st_val rfl (v_moveT (.inl rfl) rfl) ?_)
                  simp only [Act.put, List.setIfInBounds_toArray, List.set_cons_zero, List.set_cons_succ]
                  refine wl_step (st_val rfl (v_indexSs (j := 0) (s := 3) rfl rfl rfl Try.underlying33 (by kernel_rfl) (by decide)) ?_)
                  simp only [Act.put, List.setIfInBounds_toArray, List.set_cons_zero, List.set_cons_succ]
                  refine wl_step (st_val rfl (v_fieldK (s := 0) rfl rfl Try.underlying25 rfl (by kernel_rfl) rfl) ?_)
                  simp only [Act.put, List.setIfInBounds_toArray, List.set_cons_zero, List.set_cons_succ]
                  refine wl_step (st_val rfl (v_cellB (v := .slice (some ⟨gx, 0, none⟩) l.length e0) (i := 0) (hE0.perm (pmI [_] bYo0 _ _)) rfl rfl rfl Try.underlying23 rfl Hcs0.out) ?_)
                  simp only [Act.put, List.setIfInBounds_toArray, List.set_cons_zero, List.set_cons_succ]
                  refine wl_step (st_val rfl (v_len rfl rfl Try.underlying23 hm63) ?_)
                  simp only [Act.put, List.setIfInBounds_toArray, List.set_cons_zero, List.set_cons_succ]
                  refine wl_step (st_val rfl (v_lss rfl rfl rfl) ?_)
                  simp only [Act.put, List.setIfInBounds_toArray, List.set_cons_zero, List.set_cons_succ]
                  rw [d1.out]
                  repeat ((fail_if_success (with_reducible show wpList _ _ _ (List.cons _ _) _ _)); (fail_if_success (with_reducible show Code.wp _ (Code.region _ _ true) _ _ _)); (fail_if_success (with_reducible show Code.wp _ (Code.cond _ _ _) _ _ _)); go_step)
                  refine wp_cond_true (by first | rfl | exact congrArg Value.bool (decide_eq_true (by omega))) ?_
                  skip
                  repeat ((fail_if_success (with_reducible show wpList _ _ _ (List.cons _ _) _ _)); (fail_if_success (with_reducible show Code.wp _ (Code.region _ _ true) _ _ _)); go_step)
                  refine wl_step (st_val rfl (v_moveT (.inl rfl) rfl) ?_)
                  simp only [Act.put, List.setIfInBounds_toArray, List.set_cons_zero, List.set_cons_succ]
                  refine wl_step (st_val rfl (v_moveT (.inl rfl) rfl) ?_)
                  simp only [Act.put, List.setIfInBounds_toArray, List.set_cons_zero, List.set_cons_succ]
                  refine wl_step (st_val rfl (v_indexSs (j := 0) (s := 3) rfl rfl rfl Try.underlying33 (by kernel_rfl) (by decide)) ?_)
                  simp only [Act.put, List.setIfInBounds_toArray, List.set_cons_zero, List.set_cons_succ]
                  refine wl_step (st_val rfl (v_fieldK (s := 0) rfl rfl Try.underlying25 rfl (by kernel_rfl) rfl) ?_)
                  simp only [Act.put, List.setIfInBounds_toArray, List.set_cons_zero, List.set_cons_succ]
                  refine wl_step (st_val rfl (v_cellB (v := .slice (some ⟨gx, 0, none⟩) l.length e0) (i := 0) (hE0.perm (pmI [_] bYo0 _ _)) rfl rfl rfl Try.underlying23 rfl Hcs0.out) ?_)
                  simp only [Act.put, List.setIfInBounds_toArray, List.set_cons_zero, List.set_cons_succ]
                  refine wl_step (st_val rfl (v_moveT (.inl rfl) rfl) ?_)
                  simp only [Act.put, List.setIfInBounds_toArray, List.set_cons_zero, List.set_cons_succ]
                  refine wl_step (st_val rfl (v_indexS0 rfl rfl rfl Try.underlying23 (by kernel_rfl) hkl) ?_)
                  simp only [Act.put, List.setIfInBounds_toArray, List.set_cons_zero, List.set_cons_succ]
                  refine wl_step (st_put (v := .int .u8 0) (i := 0) hE0 rfl rfl rfl rfl rfl (by kernel_rfl) rfl rfl hks ?_)
                  intro w1 hE1
                  clear hE0
                  simp only [Act.put, List.setIfInBounds_toArray, List.set_cons_zero, List.set_cons_succ]
                  repeat ((fail_if_success (with_reducible show wpList _ _ _ (List.cons _ _) _ _)); (fail_if_success (with_reducible show Code.wp _ (Code.region _ _ true) _ _ _)); go_step)
                  refine wl_step (st_val rfl (v_moveT (.inl rfl) rfl) ?_)
                  simp only [Act.put, List.setIfInBounds_toArray, List.set_cons_zero, List.set_cons_succ]
                  refine wl_step (st_val rfl (v_add (n := 1) rfl rfl rfl (w_i64 (by omega))) ?_)
                  simp only [Act.put, List.setIfInBounds_toArray, List.set_cons_zero, List.set_cons_succ]
                  refine wl_step (st_val rfl (v_moveT (.inr rfl) rfl) ?_)
                  simp only [Act.put, List.setIfInBounds_toArray, List.set_cons_zero, List.set_cons_succ]
                  go_wp2
                  go_roundw
                  case rel => exact ⟨k + 1, L.set k 0, _, by omega, rfl, by rw [List.length_set]; exact HL.out, Hput.out 0, hE1⟩
                  case measure => simp [intOf]; omega
                · have hk' : k = l.length := by omega
                  subst hk'
                  have d1 := Lib.hid (decide_eq_false hkl)
                  have HL := Lib.hid hL
                  have HX := Lib.hid hOX
                  clear hL hOX
                  repeat ((fail_if_success (with_reducible show wpList _ _ _ (List.cons _ _) _ _)); (fail_if_success (with_reducible show Code.wp _ (Code.region _ _ true) _ _ _)); go_step)
                  refine wl_step (st_val rfl (v_moveT (.inl rfl) rfl) ?_)
                  simp only [Act.put, List.setIfInBounds_toArray, List.set_cons_zero, List.set_cons_succ]
                  refine wl_step (st_val rfl (v_moveT (.inl rfl) rfl) ?_)
                  simp only [Act.put, List.setIfInBounds_toArray, List.set_cons_zero, List.set_cons_succ]
                  refine wl_step (st_val rfl (v_moveT (.inl rfl) rfl) ?_)
                  simp only [Act.put, List.setIfInBounds_toArray, List.set_cons_zero, List.set_cons_succ]
                  refine wl_step (st_val rfl (v_indexSs (j := 0) (s := 3) rfl rfl rfl Try.underlying33 (by kernel_rfl) (by decide)) ?_)
                  simp only [Act.put, List.setIfInBounds_toArray, List.set_cons_zero, List.set_cons_succ]
                  refine wl_step (st_val rfl (v_fieldK (s := 0) rfl rfl Try.underlying25 rfl (by kernel_rfl) rfl) ?_)
                  simp only [Act.put, List.setIfInBounds_toArray, List.set_cons_zero, List.set_cons_succ]
                  refine wl_step (st_val rfl (v_cellB (v := .slice q0 l.length e0) (i := 0) (hE0.perm (pmI bX bYo0 _ _)) rfl rfl rfl Try.underlying23 rfl Hcs0.out) ?_)
                  simp only [Act.put, List.setIfInBounds_toArray, List.set_cons_zero, List.set_cons_succ]
                  refine wl_step (st_val rfl (v_len rfl rfl Try.underlying23 hm63) ?_)
                  simp only [Act.put, List.setIfInBounds_toArray, List.set_cons_zero, List.set_cons_succ]
                  refine wl_step (st_val rfl (v_lss rfl rfl rfl) ?_)
                  simp only [Act.put, List.setIfInBounds_toArray, List.set_cons_zero, List.set_cons_succ]
                  rw [d1.out]
                  repeat ((fail_if_success (with_reducible show wpList _ _ _ (List.cons _ _) _ _)); (fail_if_success (with_reducible show Code.wp _ (Code.region _ _ true) _ _ _)); (fail_if_success (with_reducible show Code.wp _ (Code.cond _ _ _) _ _ _)); go_step)
                  refine wp_cond_false (by first | rfl | exact congrArg Value.bool (decide_eq_false (by omega))) ?_
                  skip
                  repeat ((fail_if_success (with_reducible show wpList _ _ _ (List.cons _ _) _ _)); (fail_if_success (with_reducible show Code.wp _ (Code.region _ _ true) _ _ _)); go_step)
                  refine wl_step (st_val rfl (v_moveT (.inl rfl) rfl) ?_)
                  simp only [Act.put, List.setIfInBounds_toArray, List.set_cons_zero, List.set_cons_succ]
                  refine wl_step (st_val rfl (v_add (n := 1) rfl rfl rfl (w_i64 (by omega))) ?_)
                  simp only [Act.put, List.setIfInBounds_toArray, List.set_cons_zero, List.set_cons_succ]
                  refine wl_step (st_val rfl (v_moveT (.inr rfl) rfl) ?_)
                  simp only [Act.put, List.setIfInBounds_toArray, List.set_cons_zero, List.set_cons_succ]
                  go_wp2
                  go_roundw
                  case rel =>
                    first
                      | (rw [← Hbo0.out] at hE0; exact ⟨1, L, L1, bX, bY1, by decide, rfl, HL.out, HL1.out, HX.out, HY1.out, hE0⟩)
                      | (rw [← Hbo1.out] at hE0; exact ⟨2, L0, L, bY0, bX, by decide, rfl, HL0.out, HL.out, HY0.out, HX.out, (hE0).perm (pmE _ _ _)⟩)
                  case measure => simp [intOf]
            · have hst := hP1
              clear hP0 hP1
              go_wp2
              go_loopw [15] (fun i wr => ∃ (k : Nat) (L : List Nat) (bX : List Blk), k ≤ l.length ∧ i = .int .i64 k ∧ L.length = l.length ∧ Ow 5 (nats .u8 L) (.slice q1 l.length e1) bX ∧ Env w (bX ++ (bYo1 ++ (⟨g3, 25, cs3⟩ :: G))) wr) (fun i _ => l.length - (intOf i).toNat)
              case atStart => exact ⟨0, L1, bY1, Nat.zero_le _, rfl, HL1.out, HY1.out, hst⟩
              case round =>
                clear hst
                obtain ⟨k, L, bX, hk, rfl, hL, hOX, hE0⟩ := hrel
                by_cases hkl : k < l.length
                · have d1 := Lib.hid (decide_eq_true hkl)
                  obtain ⟨gx, cs, hpc, rfl, hcell, hks, hput⟩ := hOX.blk hL hkl
                  subst hpc
                  have Hput := Lib.hid hput
                  have HL := Lib.hid hL
                  clear hcell hput hL hOX
                  repeat ((fail_if_success (with_reducible show wpList _ _ _ (List.cons _ _) _ _)); (fail_if_success (with_reducible show Code.wp _ (Code.region _ _ true) _ _ _)); go_step)
                  refine wl_step (st_val rfl (v_moveT (.inl rfl) rfl) ?_)
                  simp only [Act.put, List.setIfInBounds_toArray, List.set_cons_zero, List.set_cons_succ]
                  refine wl_step (st_val rfl (v_moveT (.inl rfl) rfl) ?_)
                  simp only [Act.put, List.setIfInBounds_toArray, List.set_cons_zero, List.set_cons_succ]
                  refine wl_step (st_val rfl (v_moveT (.inl rfl) rfl) ?_)
                  simp only [Act.put, List.setIfInBounds_toArray, List.set_cons_zero, List.set_cons_succ]
                  refine wl_step (st_val rfl (v_indexSs (j := 1) (s := 3) rfl rfl rfl Try.underlying33 (by kernel_rfl) (by decide)) ?_)
                  simp only [Act.put, List.setIfInBounds_toArray, List.set_cons_zero, List.set_cons_succ]
                  refine wl_step (st_val rfl (v_fieldK (s := 0) rfl rfl Try.underlying25 rfl (by kernel_rfl) rfl) ?_)
                  simp only [Act.put, List.setIfInBounds_toArray, List.set_cons_zero, List.set_cons_succ]
                  refine wl_step (st_val rfl (v_cellB (v := .slice (some ⟨gx, 0, none⟩) l.length e1) (i := 0) (hE0.perm (pmI [_] bYo1 _ _)) rfl rfl rfl Try.underlying23 rfl Hcs1.out) ?_)
                  simp only [Act.put, List.setIfInBounds_toArray, List.set_cons_zero, List.set_cons_succ]
                  refine wl_step (st_val rfl (v_len rfl rfl Try.underlying23 hm63) ?_)
                  simp only [Act.put, List.setIfInBounds_toArray, List.set_cons_zero, List.set_cons_succ]
                  refine wl_step (st_val rfl (v_lss rfl rfl rfl) ?_)
                  simp only [Act.put, List.setIfInBounds_toArray, List.set_cons_zero, List.set_cons_succ]
                  rw [d1.out]
                  repeat ((fail_if_success (with_reducible show wpList _ _ _ (List.cons _ _) _ _)); (fail_if_success (with_reducible show Code.wp _ (Code.region _ _ true) _ _ _)); (fail_if_success (with_reducible show Code.wp _ (Code.cond _ _ _) _ _ _)); go_step)
                  refine wp_cond_true (by first | rfl | exact congrArg Value.bool (decide_eq_true (by omega))) ?_
                  skip
                  repeat ((fail_if_success (with_reducible show wpList _ _ _ (List.cons _ _) _ _)); (fail_if_success (with_reducible show Code.wp _ (Code.region _ _ true) _ _ _)); go_step)
                  refine wl_step (st_val rfl (v_moveT (.inl rfl) rfl) ?_)
                  simp only [Act.put, List.setIfInBounds_toArray, List.set_cons_zero, List.set_cons_succ]
                  refine wl_step (st_val rfl (v_moveT (.inl rfl) rfl) ?_)
                  simp only [Act.put, List.setIfInBounds_toArray, List.set_cons_zero, List.set_cons_succ]
                  refine wl_step (st_val rfl (v_indexSs (j := 1) (s := 3) rfl rfl rfl Try.underlying33 (by kernel_rfl) (by decide)) ?_)
                  simp only [Act.put, List.setIfInBounds_toArray, List.set_cons_zero, List.set_cons_succ]
                  refine wl_step (st_val rfl (v_fieldK (s := 0) rfl rfl Try.underlying25 rfl (by kernel_rfl) rfl) ?_)
                  simp only [Act.put, List.setIfInBounds_toArray, List.set_cons_zero, List.set_cons_succ]
                  refine wl_step (st_val rfl (v_cellB (v := .slice (some ⟨gx, 0, none⟩) l.length e1) (i := 0) (hE0.perm (pmI [_] bYo1 _ _)) rfl rfl rfl Try.underlying23 rfl Hcs1.out) ?_)
                  simp only [Act.put, List.setIfInBounds_toArray, List.set_cons_zero, List.set_cons_succ]
                  refine wl_step (st_val rfl (v_moveT (.inl rfl) rfl) ?_)
                  simp only [Act.put, List.setIfInBounds_toArray, List.set_cons_zero, List.set_cons_succ]
                  refine wl_step (st_val rfl (v_indexS0 rfl rfl rfl Try.underlying23 (by kernel_rfl) hkl) ?_)
                  simp only [Act.put, List.setIfInBounds_toArray, List.set_cons_zero, List.set_cons_succ]
                  refine wl_step (st_put (v := .int .u8 0) (i := 0) hE0 rfl rfl rfl rfl rfl (by kernel_rfl) rfl rfl hks ?_)
                  intro w1 hE1
                  clear hE0
                  simp only [Act.put, List.setIfInBounds_toArray, List.set_cons_zero, List.set_cons_succ]
                  repeat ((fail_if_success (with_reducible show wpList _ _ _ (List.cons _ _) _ _)); (fail_if_success (with_reducible show Code.wp _ (Code.region _ _ true) _ _ _)); go_step)
                  refine wl_step (st_val rfl (v_moveT (.inl rfl) rfl) ?_)
                  simp only [Act.put, List.setIfInBounds_toArray, List.set_cons_zero, List.set_cons_succ]
                  refine wl_step (st_val rfl (v_add (n := 1) rfl rfl rfl (w_i64 (by omega))) ?_)
                  simp only [Act.put, List.setIfInBounds_toArray, List.set_cons_zero, List.set_cons_succ]
                  refine wl_step (st_val rfl (v_moveT (.inr rfl) rfl) ?_)
                  simp only [Act.put, List.setIfInBounds_toArray, List.set_cons_zero, List.set_cons_succ]
                  go_wp2
                  go_roundw
                  case rel => exact ⟨k + 1, L.set k 0, _, by omega, rfl, by rw [List.length_set]; exact HL.out, Hput.out 0, hE1⟩
                  case measure => simp [intOf]; omega
                · have hk' : k = l.length := by omega
                  subst hk'
                  have d1 := Lib.hid (decide_eq_false hkl)
                  have HL := Lib.hid hL
                  have HX := Lib.hid hOX
                  clear hL hOX
                  repeat ((fail_if_success (with_reducible show wpList _ _ _ (List.cons _ _) _ _)); (fail_if_success (with_reducible show Code.wp _ (Code.region _ _ true) _ _ _)); go_step)
                  refine wl_step (st_val rfl (v_moveT (.inl rfl) rfl) ?_)
                  simp only [Act.put, List.setIfInBounds_toArray, List.set_cons_zero, List.set_cons_succ]
                  refine wl_step (st_val rfl (v_moveT (.inl rfl) rfl) ?_)
                  simp only [Act.put, List.setIfInBounds_toArray, List.set_cons_zero, List.set_cons_succ]
                  refine wl_step (st_val rfl (v_moveT (.inl rfl) rfl) ?_)
                  simp only [Act.put, List.setIfInBounds_toArray, List.set_cons_zero, List.set_cons_succ]
                  refine wl_step (st_val rfl (v_indexSs (j := 1) (s := 3) rfl rfl rfl Try.underlying33 (by kernel_rfl) (by decide)) ?_)
                  simp only [Act.put, List.setIfInBounds_toArray, List.set_cons_zero, List.set_cons_succ]
                  refine wl_step (st_val rfl (v_fieldK (s := 0) rfl rfl Try.underlying25 rfl (by kernel_rfl) rfl) ?_)
                  simp only [Act.put, List.setIfInBounds_toArray, List.set_cons_zero, List.set_cons_succ]
                  refine wl_step (st_val rfl (v_cellB (v := .slice q1 l.length e1) (i := 0) (hE0.perm (pmI bX bYo1 _ _)) rfl rfl rfl Try.underlying23 rfl Hcs1.out) ?_)
                  simp only [Act.put, List.setIfInBounds_toArray, List.set_cons_zero, List.set_cons_succ]
                  refine wl_step (st_val rfl (v_len rfl rfl Try.underlying23 hm63) ?_)
                  simp only [Act.put, List.setIfInBounds_toArray, List.set_cons_zero, List.set_cons_succ]
                  refine wl_step (st_val rfl (v_lss rfl rfl rfl) ?_)
                  simp only [Act.put, List.setIfInBounds_toArray, List.set_cons_zero, List.set_cons_succ]
                  rw [d1.out]
                  repeat ((fail_if_success (with_reducible show wpList _ _ _ (List.cons _ _) _ _)); (fail_if_success (with_reducible show Code.wp _ (Code.region _ _ true) _ _ _)); (fail_if_success (with_reducible show Code.wp _ (Code.cond _ _ _) _ _ _)); go_step)
                  refine wp_cond_false (by first | rfl | exact congrArg Value.bool (decide_eq_false (by omega))) ?_
                  skip
                  repeat ((fail_if_success (with_reducible show wpList _ _ _ (List.cons _ _) _ _)); (fail_if_success (with_reducible show Code.wp _ (Code.region _ _ true) _ _ _)); go_step)
                  refine wl_step (st_val rfl (v_moveT (.inl rfl) rfl) ?_)
                  simp only [Act.put, List.setIfInBounds_toArray, List.set_cons_zero, List.set_cons_succ]
                  refine wl_step (st_val rfl (v_add (n := 1) rfl rfl rfl (w_i64 (by omega))) ?_)
                  simp only [Act.put, List.setIfInBounds_toArray, List.set_cons_zero, List.set_cons_succ]
                  refine wl_step (st_val rfl (v_moveT (.inr rfl) rfl) ?_)
                  simp only [Act.put, List.setIfInBounds_toArray, List.set_cons_zero, List.set_cons_succ]
                  go_wp2
                  go_roundw
                  case rel =>
                    first
                      | (rw [← Hbo0.out] at hE0; exact ⟨1, L, L1, bX, bY1, by decide, rfl, HL.out, HL1.out, HX.out, HY1.out, hE0⟩)
                      | (rw [← Hbo1.out] at hE0; exact ⟨2, L0, L, bY0, bX, by decide, rfl, HL0.out, HL.out, HY0.out, HX.out, (hE0).perm (pmE _ _ _)⟩)
                  case measure => simp [intOf]
          · have hj' : j = 2 := by omega
            subst hj'
            have d2 := Lib.hid (decide_eq_false hjl)
            have hEt : Env w (⟨g0, 48, #[v2, .int .i64 ((3 : Nat) : Int)]⟩ :: (bo2 ++ (b2 ++ b1))) wr := by
              rw [HG.out]
              exact hE0.sub ((List.sublist_cons_self _ _).trans ((List.sublist_append_right _ _).trans (List.sublist_append_right _ _)))
            clear hE0 hL0 hL1 hY0 hY1 HO3 HO4 Hcs0 Hcs1 HG
            have HSB : Hid (∀ m ∈ [(⟨fr, to, l, .slice p1 l.length c1⟩ : PV), ⟨fr, to, l, .slice p2 l.length c2⟩], Sees w (b2 ++ b1) m) := Lib.hid (fun m hm w' h => by
              simp only [List.mem_cons, List.not_mem_nil, or_false] at hm
              rcases hm with rfl | rfl
              · exact HO1.out.seesW _ (h.sub (List.sublist_append_right _ _))
              · exact HO2.out.seesW _ (h.sub (List.sublist_append_left _ _)))
            repeat ((fail_if_success (with_reducible show wpList _ _ _ (List.cons _ _) _ _)); (fail_if_success (with_reducible show Code.wp _ (Code.region _ _ true) _ _ _)); go_step)
            refine wl_step (st_val rfl (v_moveT (.inl rfl) rfl) ?_)
            simp only [Act.put, List.setIfInBounds_toArray, List.set_cons_zero, List.set_cons_succ]
            refine wl_step (st_val rfl (v_moveT (.inl rfl) rfl) ?_)
            simp only [Act.put, List.setIfInBounds_toArray, List.set_cons_zero, List.set_cons_succ]
            refine wl_step (st_val rfl (v_len rfl rfl Try.underlying33 (show 2 < 9223372036854775808 by decide)) ?_)
            simp only [Act.put, List.setIfInBounds_toArray, List.set_cons_zero, List.set_cons_succ]
            refine wl_step (st_val rfl (v_lss rfl rfl rfl) ?_)
            simp only [Act.put, List.setIfInBounds_toArray, List.set_cons_zero, List.set_cons_succ]
            rw [d2.out]
            repeat ((fail_if_success (with_reducible show wpList _ _ _ (List.cons _ _) _ _)); (fail_if_success (with_reducible show Code.wp _ (Code.region _ _ true) _ _ _)); (fail_if_success (with_reducible show Code.wp _ (Code.cond _ _ _) _ _ _)); go_step)
            refine wp_cond_false (by first | rfl | exact congrArg Value.bool (decide_eq_false (by omega))) ?_
            skip
            repeat ((fail_if_success (with_reducible show wpList _ _ _ (List.cons _ _) _ _)); (fail_if_success (with_reducible show Code.wp _ (Code.region _ _ true) _ _ _)); go_step)
            refine wl_step (st_val rfl (v_moveT (.inl rfl) rfl) ?_)
            simp only [Act.put, List.setIfInBounds_toArray, List.set_cons_zero, List.set_cons_succ]
            refine wl_step (st_calls rfl (run_call rfl Try.call9) (Take_any (i := 0) (m := ⟨fr, to, l, .slice p1 l.length c1⟩) (M := [⟨fr, to, l, .slice p1 l.length c1⟩, ⟨fr, to, l, .slice p2 l.length c2⟩]) HZ2.out HSB.out hEt rfl (show 2 < 1000000 by decide)) ?_)
            rintro _ w1 ⟨vT, bT, rfl, hzT, hE1⟩
            skip
            refine ⟨_, rfl, ?_⟩
            clear hEt
            simp only [Act.put, List.setIfInBounds_toArray, List.set_cons_zero, List.set_cons_succ]
            refine wl_step (st_val rfl (v_moveT (.inl rfl) rfl) ?_)
            simp only [Act.put, List.setIfInBounds_toArray, List.set_cons_zero, List.set_cons_succ]
            refine wl_step (st_val rfl (v_extract rfl rfl rfl) ?_)
            simp only [Act.put, List.setIfInBounds_toArray, List.set_cons_zero, List.set_cons_succ]
            refine wl_step (st_val rfl (v_extract rfl rfl rfl) ?_)
            simp only [Act.put, List.setIfInBounds_toArray, List.set_cons_zero, List.set_cons_succ]
            refine wl_step (st_alloc (zs := #[Value.int .i64 0, Value.int .i64 0, Value.slice none 0 0]) hE1 rfl rfl (fun w => by kernel_rfl) ?_)
            intro g20 w2 hb2 hE2
            clear hE1
            simp only [Act.put, List.setIfInBounds_toArray, List.set_cons_zero, List.set_cons_succ]
            refine wl_step (st_store (i := 0) hE2 rfl rfl rfl rfl rfl (sz_of (n := 3) (by kernel_rfl) rfl) rfl (by simp; exact ⟨rfl, rfl, rfl⟩) ?_)
            intro w3 hE3
            clear hE2
            simp only [List.set_cons_zero] at hE3
            simp only [Act.put, List.setIfInBounds_toArray, List.set_cons_zero, List.set_cons_succ]
            refine wl_step (st_val rfl (v_moveT (.inr rfl) rfl) ?_)
            simp only [Act.put, List.setIfInBounds_toArray, List.set_cons_zero, List.set_cons_succ]
            have HZT := Lib.hid hzT
            have hst := (hE3).perm (pmG _ _ bT b2 b1)
            clear hE3 hzT HSB
            repeat ((fail_if_success (with_reducible show wpList _ _ _ (List.cons _ _) _ _)); (fail_if_success (with_reducible show Code.wp _ (Code.region _ _ true) _ _ _)); go_step)
            refine wl_step (st_val rfl (v_moveC (.inr rfl)) ?_)
            simp only [Act.put, List.setIfInBounds_toArray, List.set_cons_zero, List.set_cons_succ]
            go_wp2
            go_loopw [18] (fun i wr => ∃ (k : Nat) (L : List Nat) (bX : List Blk), k ≤ l.length ∧ i = .int .i64 k ∧ L.length = l.length ∧ Ow 5 (nats .u8 L) (.slice p1 l.length c1) bX ∧ Env w (bX ++ (⟨g20, 25, #[.int .i64 fr, .int .i64 to, .slice p1 l.length c1]⟩ :: (⟨g0, 48, #[vT, .int .i64 ((3 : Nat) : Int)]⟩ :: (bT ++ b2)))) wr) (fun i _ => l.length - (intOf i).toNat)
            case atStart => exact ⟨0, l, b1, Nat.zero_le _, rfl, rfl, HO1.out, hst⟩
            case round =>
              clear hst
              obtain ⟨k, L, bX, hk, rfl, hL, hOX, hE0⟩ := hrel
              by_cases hkl : k < l.length
              · have d1 := Lib.hid (decide_eq_true hkl)
                obtain ⟨gx, cs, hpc, rfl, hcell, hks, hput⟩ := hOX.blk hL hkl
                subst hpc
                obtain ⟨x, hx⟩ : ∃ x, L.getD k 0 = x := ⟨_, rfl⟩
                rw [hx] at hcell
                have Hcell := Lib.hid hcell
                have Hput := Lib.hid hput
                have HL := Lib.hid hL
                clear hcell hput hL hOX hx
                repeat ((fail_if_success (with_reducible show wpList _ _ _ (List.cons _ _) _ _)); (fail_if_success (with_reducible show Code.wp _ (Code.region _ _ true) _ _ _)); go_step)
                refine wl_step (st_val rfl (v_moveT (.inl rfl) rfl) ?_)
                simp only [Act.put, List.setIfInBounds_toArray, List.set_cons_zero, List.set_cons_succ]
                refine wl_step (st_val rfl (v_fieldB (s := 0) rfl rfl Try.underlying25 rfl (by kernel_rfl) rfl) ?_)
                simp only [Act.put, List.setIfInBounds_toArray, List.set_cons_zero, List.set_cons_succ]
                refine wl_step (st_val rfl (v_cellB (v := .slice (some ⟨gx, 0, none⟩) l.length c1) (i := 1) hE0 rfl rfl rfl Try.underlying23 rfl rfl) ?_)
                simp only [Act.put, List.setIfInBounds_toArray, List.set_cons_zero, List.set_cons_succ]
                refine wl_step (st_val rfl (v_len rfl rfl Try.underlying23 hm63) ?_)
                simp only [Act.put, List.setIfInBounds_toArray, List.set_cons_zero, List.set_cons_succ]
                refine wl_step (st_val rfl (v_lss rfl rfl rfl) ?_)
                simp only [Act.put, List.setIfInBounds_toArray, List.set_cons_zero, List.set_cons_succ]
                rw [d1.out]
                repeat ((fail_if_success (with_reducible show wpList _ _ _ (List.cons _ _) _ _)); (fail_if_success (with_reducible show Code.wp _ (Code.region _ _ true) _ _ _)); (fail_if_success (with_reducible show Code.wp _ (Code.cond _ _ _) _ _ _)); go_step)
                refine wp_cond_true (by first | rfl | exact congrArg Value.bool (decide_eq_true (by omega))) ?_
                skip
                repeat ((fail_if_success (with_reducible show wpList _ _ _ (List.cons _ _) _ _)); (fail_if_success (with_reducible show Code.wp _ (Code.region _ _ true) _ _ _)); go_step)
                refine wp_region_B (n := 11) 10 (by kernel_rfl) rfl hE0 ?_
                intro w1 hb1 hE1
                clear hE0
                refine wpB_take (i := 0) (by kernel_rfl) rfl (by kernel_rfl) (fun _ _ _ h => h) rfl (v_fieldB (s := 0) rfl rfl Try.underlying25 rfl (by kernel_rfl) rfl) ?_
                simp only [Act.put, List.setIfInBounds_toArray, List.set_cons_zero, List.set_cons_succ]
                refine wpB_take (i := 1) (by kernel_rfl) rfl (by kernel_rfl) (fun _ _ _ h => h) rfl (v_cellB (v := .slice (some ⟨gx, 0, none⟩) l.length c1) (i := 1) hE1 rfl rfl rfl Try.underlying23 rfl rfl) ?_
                simp only [Act.put, List.setIfInBounds_toArray, List.set_cons_zero, List.set_cons_succ]
                refine wpB_take (i := 2) (by kernel_rfl) rfl (by kernel_rfl) (fun _ _ _ h => h) rfl (v_moveT (.inl rfl) rfl) ?_
                simp only [Act.put, List.setIfInBounds_toArray, List.set_cons_zero, List.set_cons_succ]
                refine wpB_take (i := 3) (by kernel_rfl) rfl (by kernel_rfl) (fun _ _ _ h => h) rfl (v_fieldB (s := 0) rfl rfl Try.underlying25 rfl (by kernel_rfl) rfl) ?_
                simp only [Act.put, List.setIfInBounds_toArray, List.set_cons_zero, List.set_cons_succ]
                refine wpB_take (i := 4) (by kernel_rfl) rfl (by kernel_rfl) (fun _ _ _ h => h) rfl (v_cellB (v := .slice (some ⟨gx, 0, none⟩) l.length c1) (i := 1) hE1 rfl rfl rfl Try.underlying23 rfl rfl) ?_
                simp only [Act.put, List.setIfInBounds_toArray, List.set_cons_zero, List.set_cons_succ]
                refine wpB_take (i := 5) (by kernel_rfl) rfl (by kernel_rfl) (fun _ _ _ h => h) rfl (v_moveT (.inl rfl) rfl) ?_
                simp only [Act.put, List.setIfInBounds_toArray, List.set_cons_zero, List.set_cons_succ]
                refine wpB_take (i := 6) (by kernel_rfl) rfl (by kernel_rfl) (fun _ _ _ h => h) rfl (v_indexS0 rfl rfl rfl Try.underlying23 (by kernel_rfl) hkl) ?_
                simp only [Act.put, List.setIfInBounds_toArray, List.set_cons_zero, List.set_cons_succ]
                refine wpB_take (i := 7) (by kernel_rfl) rfl (by kernel_rfl) (fun _ _ _ h => h) rfl (v_cellB (v := .int .u8 (x : Int)) (i := 0) hE1 rfl rfl rfl Try.underlying5 rfl Hcell.out) ?_
                simp only [Act.put, List.setIfInBounds_toArray, List.set_cons_zero, List.set_cons_succ]
                refine wpB_take (i := 8) (by kernel_rfl) rfl (by kernel_rfl) (fun _ _ _ h => h) rfl (v_add (n := 1) rfl rfl rfl (w_u8m _)) ?_
                simp only [Act.put, List.setIfInBounds_toArray, List.set_cons_zero, List.set_cons_succ]
                refine wpB_take (i := 9) (by kernel_rfl) rfl (by kernel_rfl) (fun _ _ _ h => h) rfl (v_indexS0 rfl rfl rfl Try.underlying23 (by kernel_rfl) hkl) ?_
                simp only [Act.put, List.setIfInBounds_toArray, List.set_cons_zero, List.set_cons_succ]
                refine wpB_step (i := 10) (by kernel_rfl) rfl (st_put (v := .int .u8 (((x + 1) % 256 : Nat) : Int)) (i := 0) hE1 rfl rfl rfl rfl rfl (by kernel_rfl) rfl rfl hks ?_)
                intro w2 hE2
                clear hE1
                refine ⟨fun h => absurd h (by decide), ?_⟩
                simp only [Act.put, List.setIfInBounds_toArray, List.set_cons_zero, List.set_cons_succ]
                refine wpB_done (by kernel_rfl) ?_ _
                repeat ((fail_if_success (with_reducible show wpList _ _ _ (List.cons _ _) _ _)); (fail_if_success (with_reducible show Code.wp _ (Code.region _ _ true) _ _ _)); go_step)
                refine wl_step (st_val rfl (v_moveT (.inl rfl) rfl) ?_)
                simp only [Act.put, List.setIfInBounds_toArray, List.set_cons_zero, List.set_cons_succ]
                refine wl_step (st_val rfl (v_add (n := 1) rfl rfl rfl (w_i64 (by omega))) ?_)
                simp only [Act.put, List.setIfInBounds_toArray, List.set_cons_zero, List.set_cons_succ]
                refine wl_step (st_val rfl (v_moveT (.inr rfl) rfl) ?_)
                simp only [Act.put, List.setIfInBounds_toArray, List.set_cons_zero, List.set_cons_succ]
                go_wp2
                go_roundw
                case rel => exact ⟨k + 1, L.set k ((x + 1) % 256), _, by omega, rfl, by rw [List.length_set]; exact HL.out, Hput.out _, hE2⟩
                case measure => simp [intOf]; omega
              · have hk' : k = l.length := by omega
                subst hk'
                have d1 := Lib.hid (decide_eq_false hkl)
                clear hL hOX
                repeat ((fail_if_success (with_reducible show wpList _ _ _ (List.cons _ _) _ _)); (fail_if_success (with_reducible show Code.wp _ (Code.region _ _ true) _ _ _)); go_step)
                refine wl_step (st_val rfl (v_moveT (.inl rfl) rfl) ?_)
                simp only [Act.put, List.setIfInBounds_toArray, List.set_cons_zero, List.set_cons_succ]
                refine wl_step (st_val rfl (v_fieldB (s := 0) rfl rfl Try.underlying25 rfl (by kernel_rfl) rfl) ?_)
                simp only [Act.put, List.setIfInBounds_toArray, List.set_cons_zero, List.set_cons_succ]
                refine wl_step (st_val rfl (v_cellB (v := .slice p1 l.length c1) (i := 0) (Env.mid.1 hE0) rfl rfl rfl Try.underlying23 rfl rfl) ?_)
                simp only [Act.put, List.setIfInBounds_toArray, List.set_cons_zero, List.set_cons_succ]
                refine wl_step (st_val rfl (v_len rfl rfl Try.underlying23 hm63) ?_)
                simp only [Act.put, List.setIfInBounds_toArray, List.set_cons_zero, List.set_cons_succ]
                refine wl_step (st_val rfl (v_lss rfl rfl rfl) ?_)
                simp only [Act.put, List.setIfInBounds_toArray, List.set_cons_zero, List.set_cons_succ]
                rw [d1.out]
                repeat ((fail_if_success (with_reducible show wpList _ _ _ (List.cons _ _) _ _)); (fail_if_success (with_reducible show Code.wp _ (Code.region _ _ true) _ _ _)); (fail_if_success (with_reducible show Code.wp _ (Code.cond _ _ _) _ _ _)); go_step)
                refine wp_cond_false (by first | rfl | exact congrArg Value.bool (decide_eq_false (by omega))) ?_
                skip
                have hEu := hE0.perm (pmH _ _ bT b2 bX)
                clear hE0
                have HSC : Hid (∀ m ∈ [(⟨fr, to, l, .slice p2 l.length c2⟩ : PV)], Sees w (b2 ++ (⟨g20, 25, #[.int .i64 fr, .int .i64 to, .slice p1 l.length c1]⟩ :: bX)) m) := Lib.hid (fun m hm w' h => by
                  rw [List.mem_singleton.1 hm]
                  exact HO2.out.seesW _ (h.sub (List.sublist_append_left _ _)))
                repeat ((fail_if_success (with_reducible show wpList _ _ _ (List.cons _ _) _ _)); (fail_if_success (with_reducible show Code.wp _ (Code.region _ _ true) _ _ _)); go_step)
                refine wl_step (st_val rfl (v_moveT (.inl rfl) rfl) ?_)
                simp only [Act.put, List.setIfInBounds_toArray, List.set_cons_zero, List.set_cons_succ]
                refine wl_step (st_calls rfl (run_call rfl Try.call9) (Take_any (i := 0) (m := ⟨fr, to, l, .slice p2 l.length c2⟩) (M := [⟨fr, to, l, .slice p2 l.length c2⟩]) HZT.out HSC.out hEu rfl (show 1 < 1000000 by decide)) ?_)
                rintro _ w1 ⟨vU, bU, rfl, hzU, hE1⟩
                skip
                refine ⟨_, rfl, ?_⟩
                clear hEu
                simp only [Act.put, List.setIfInBounds_toArray, List.set_cons_zero, List.set_cons_succ]
                refine wl_step (st_val rfl (v_moveT (.inl rfl) rfl) ?_)
                simp only [Act.put, List.setIfInBounds_toArray, List.set_cons_zero, List.set_cons_succ]
                refine wl_step (st_val rfl (v_extract rfl rfl rfl) ?_)
                simp only [Act.put, List.setIfInBounds_toArray, List.set_cons_zero, List.set_cons_succ]
                refine wl_step (st_val rfl (v_extract rfl rfl rfl) ?_)
                simp only [Act.put, List.setIfInBounds_toArray, List.set_cons_zero, List.set_cons_succ]
                refine wl_step (st_alloc (zs := #[Value.int .i64 0, Value.int .i64 0, Value.slice none 0 0]) hE1 rfl rfl (fun w => by kernel_rfl) ?_)
                intro g40 w2 hb2 hE2
                clear hE1
                simp only [Act.put, List.setIfInBounds_toArray, List.set_cons_zero, List.set_cons_succ]
                refine wl_step (st_store (i := 0) hE2 rfl rfl rfl rfl rfl (sz_of (n := 3) (by kernel_rfl) rfl) rfl (by simp; exact ⟨rfl, rfl, rfl⟩) ?_)
                intro w3 hE3
                clear hE2
                simp only [List.set_cons_zero] at hE3
                simp only [Act.put, List.setIfInBounds_toArray, List.set_cons_zero, List.set_cons_succ]
                refine wl_step (st_val rfl (v_moveT (.inr rfl) rfl) ?_)
                simp only [Act.put, List.setIfInBounds_toArray, List.set_cons_zero, List.set_cons_succ]
                have HSm : Hid (∀ w', Env w (⟨g40, 25, #[.int .i64 fr, .int .i64 to, .slice p2 l.length c2]⟩ :: (⟨g0, 48, #[vU, .int .i64 ((3 : Nat) : Int)]⟩ :: (bU ++ (b2 ++ (⟨g20, 25, #[.int .i64 fr, .int .i64 to, .slice p1 l.length c1]⟩ :: bX))))) w' →
                    Gives 10 #[.agg #[.int .i64 fr, .int .i64 to, .slice p2 l.length c2], .agg #[.int .i64 fr, .int .i64 to, .slice p l.length c]] w' (.bool true)) := Lib.hid (fun w' h => by
                  have hs := Same_any (f1 := fr) (t1 := to) (f2 := fr) (t2 := to) (HO2.out.seesW _ (h.sub (List.Sublist.cons _ (List.Sublist.cons _ ((List.sublist_append_left _ _).trans (List.sublist_append_right _ _)))))) (Hv.out.below h.below) Dl.out Dl.out
                  simpa using hs)
                repeat ((fail_if_success (with_reducible show wpList _ _ _ (List.cons _ _) _ _)); (fail_if_success (with_reducible show Code.wp _ (Code.region _ _ true) _ _ _)); go_step)
                refine wl_step (st_val rfl (v_moveT (.inl rfl) rfl) ?_)
                simp only [Act.put, List.setIfInBounds_toArray, List.set_cons_zero, List.set_cons_succ]
                refine wl_step (st_val rfl (v_run fun w9 => by go_simp; with_reducible rfl) ?_)
                simp only [Act.put, List.setIfInBounds_toArray, List.set_cons_zero, List.set_cons_succ]
                refine wl_step (st_val rfl (v_moveT (.inl rfl) rfl) ?_)
                simp only [Act.put, List.setIfInBounds_toArray, List.set_cons_zero, List.set_cons_succ]
                refine wl_step (st_val rfl (v_moveT (.inl rfl) rfl) ?_)
                simp only [Act.put, List.setIfInBounds_toArray, List.set_cons_zero, List.set_cons_succ]
                refine wl_step (st_val rfl (v_run fun w9 => by go_simp; with_reducible rfl) ?_)
                simp only [Act.put, List.setIfInBounds_toArray, List.set_cons_zero, List.set_cons_succ]
                refine wl_step (st_val rfl (v_andT rfl rfl rfl) ?_)
                simp only [Act.put, List.setIfInBounds_toArray, List.set_cons_zero, List.set_cons_succ]
                refine wl_step (st_val rfl (v_moveT (.inl rfl) rfl) ?_)
                simp only [Act.put, List.setIfInBounds_toArray, List.set_cons_zero, List.set_cons_succ]
                refine wl_step (st_val rfl (v_moveT (.inl rfl) rfl) ?_)
                simp only [Act.put, List.setIfInBounds_toArray, List.set_cons_zero, List.set_cons_succ]
                refine wl_step (st_val rfl (v_run fun w9 => by go_simp; with_reducible rfl) ?_)
                simp only [Act.put, List.setIfInBounds_toArray, List.set_cons_zero, List.set_cons_succ]
                refine wl_step (st_val rfl (v_andT rfl rfl rfl) ?_)
                simp only [Act.put, List.setIfInBounds_toArray, List.set_cons_zero, List.set_cons_succ]
                refine wl_step (st_val rfl (v_moveT (.inl rfl) rfl) ?_)
                simp only [Act.put, List.setIfInBounds_toArray, List.set_cons_zero, List.set_cons_succ]
                refine wl_step (st_val rfl (v_moveT (.inl rfl) rfl) ?_)
                simp only [Act.put, List.setIfInBounds_toArray, List.set_cons_zero, List.set_cons_succ]
                refine wl_step (st_val rfl (v_run fun w9 => by go_simp; with_reducible rfl) ?_)
                simp only [Act.put, List.setIfInBounds_toArray, List.set_cons_zero, List.set_cons_succ]
                refine wl_step (st_val rfl (v_andT rfl rfl rfl) ?_)
                simp only [Act.put, List.setIfInBounds_toArray, List.set_cons_zero, List.set_cons_succ]
                refine wl_step (st_val rfl (v_moveT (.inl rfl) rfl) ?_)
                simp only [Act.put, List.setIfInBounds_toArray, List.set_cons_zero, List.set_cons_succ]
                refine wl_step (st_val rfl (v_load (i := 0) hE3 rfl rfl rfl Try.underlying25 rfl (sz_of (n := 3) (by kernel_rfl) rfl)) ?_)
                simp only [Act.put, List.setIfInBounds_toArray, List.set_cons_zero, List.set_cons_succ]
                refine wl_step (st_val rfl (v_moveT (.inl rfl) rfl) ?_)
                simp only [Act.put, List.setIfInBounds_toArray, List.set_cons_zero, List.set_cons_succ]
                refine wl_step (st_val rfl (v_moveT (.inl rfl) rfl) ?_)
                simp only [Act.put, List.setIfInBounds_toArray, List.set_cons_zero, List.set_cons_succ]
                refine wl_step (st_val rfl (v_moveT (.inl rfl) rfl) ?_)
                simp only [Act.put, List.setIfInBounds_toArray, List.set_cons_zero, List.set_cons_succ]
                refine wl_step (st_val rfl (v_buildV (zs := [.int .i64 0, .int .i64 0, .slice none 0 0]) (lay := [(0, 1), (1, 1), (2, 1)]) (vals := [(0, .int .i64 fr), (1, .int .i64 to), (2, .slice p l.length c)]) [.int .i64 fr, .int .i64 to, .slice p l.length c] rfl (by kernel_rfl) Try.underlying25 (by kernel_rfl) rfl rfl) ?_)
                simp only [Act.put, List.setIfInBounds_toArray, List.set_cons_zero, List.set_cons_succ]
                refine wl_step (st_gives hE3 rfl (run_call rfl Try.call10) (HSm.out _ hE3) ?_)
                intro w4 hb4 hE4
                clear hE3
                simp only [Act.put, List.setIfInBounds_toArray, List.set_cons_zero, List.set_cons_succ]
                refine wl_step (st_val rfl (v_andT rfl rfl rfl) ?_)
                simp only [Act.put, List.setIfInBounds_toArray, List.set_cons_zero, List.set_cons_succ]
                refine wl_step (st_val rfl (v_moveT (.inl rfl) rfl) ?_)
                simp only [Act.put, List.setIfInBounds_toArray, List.set_cons_zero, List.set_cons_succ]
                refine wl_step (st_val rfl (v_fieldB (s := 0) rfl rfl Try.underlying25 rfl (by kernel_rfl) rfl) ?_)
                simp only [Act.put, List.setIfInBounds_toArray, List.set_cons_zero, List.set_cons_succ]
                refine wl_step (st_val rfl (v_cellB (v := .slice p1 l.length c1) (i := 0) (hE4.perm (pmJ _ _ _ bU b2 bX)) rfl rfl rfl Try.underlying23 rfl rfl) ?_)
                simp only [Act.put, List.setIfInBounds_toArray, List.set_cons_zero, List.set_cons_succ]
                refine wl_step (st_val rfl (v_len rfl rfl Try.underlying23 hm63) ?_)
                simp only [Act.put, List.setIfInBounds_toArray, List.set_cons_zero, List.set_cons_succ]
                refine wl_step (st_val rfl (v_moveT (.inl rfl) rfl) ?_)
                simp only [Act.put, List.setIfInBounds_toArray, List.set_cons_zero, List.set_cons_succ]
                refine wl_step (st_val rfl (v_len rfl rfl Try.underlying23 hm63) ?_)
                simp only [Act.put, List.setIfInBounds_toArray, List.set_cons_zero, List.set_cons_succ]
                refine wl_step (st_val rfl (v_eql (m := l.length) (n := l.length) rfl rfl rfl) ?_)
                simp only [Act.put, List.setIfInBounds_toArray, List.set_cons_zero, List.set_cons_succ]
                refine wl_step (st_val rfl (v_andT rfl rfl rfl) ?_)
                simp only [Act.put, List.setIfInBounds_toArray, List.set_cons_zero, List.set_cons_succ]
                refine wl_step (st_val rfl (v_moveT (.inl rfl) rfl) ?_)
                simp only [Act.put, List.setIfInBounds_toArray, List.set_cons_zero, List.set_cons_succ]
                refine wl_step (st_gives hE4 rfl (run_call rfl Try.call6) (HW.out _) ?_)
                intro w5 hb5 hE5
                clear hE4
                simp only [Act.put, List.setIfInBounds_toArray, List.set_cons_zero, List.set_cons_succ]
                refine wl_step (st_val rfl (v_andT rfl rfl rfl) ?_)
                simp only [Act.put, List.setIfInBounds_toArray, List.set_cons_zero, List.set_cons_succ]
                refine wl_step (st_val rfl (v_moveT (.inr rfl) rfl) ?_)
                simp only [Act.put, List.setIfInBounds_toArray, List.set_cons_zero, List.set_cons_succ]
                repeat ((fail_if_success (with_reducible show wpList _ _ _ (List.cons _ _) _ _)); (fail_if_success (with_reducible show Code.wp _ (Code.region _ _ true) _ _ _)); go_step)
                go_returns
                exact ⟨rfl, hE5.below⟩
set_option maxRecDepth 100000 in
theorem netOwn_lifted (os : Os) (started : os.Started) (H : Type) (enc : TypeId × Value → H) :
    ReturnsInHanded {} Try.checked os 4 .any (Rows.netOwnSpec.pre6 enc Try.prog Try.f4 Rows.netOwnRow.domain false) (Rows.netOwnSpec.post enc Try.prog Try.f4 false true false false) := by
  refine returnsInHanded_of_change (C := Try.checked) own started (by kernel_rfl) Try.func4
    (ChangeSpec.witness6 (enc := enc) (C := Try.checked) false ⟨#[], #[.slice none 0 0, .int .i64 0, .int .i64 0], []⟩ 8 (by kernel_rfl) (by kernel_rfl) (by kernel_rfl) (by kernel_rfl)) ?_
  intro W base args ds gs before hval0 hW hcnd _
  have hval : ∀ (j : Nat) t v, Try.f4.params[j]? = some t → args[j]? = some v → Value.okWide Try.prog W .any base t v := hval0
  have hW' := hW
  obtain ⟨p, q, hA0, hV, rfl, hfz, hnd⟩ := hW
  have hA : DataW.TrodAll enc Try.prog W 0 (fun _ => true) true Try.f4.params.toList args.toList ds p := hA0
  rw [Try.params4] at hA hval
  obtain ⟨v0, vs0, d0, ds0, p0, q0, hargs, rfl, rfl, h0, r0⟩ := trodAll_cons hA
  obtain ⟨v1, vs1, d1, ds1, p1, q1, rfl, rfl, rfl, h1, r1⟩ := trodAll_cons r0
  obtain ⟨v2, vs2, d2, ds2, p2, q2, rfl, rfl, rfl, h2, r2⟩ := trodAll_cons r1
  obtain ⟨rfl, rfl, rfl⟩ := trodAll_nil r2
  obtain rfl : args = #[v0, v1, v2] := by cases args; simp_all
  obtain ⟨rfl, rfl⟩ := trodVars_none hV
  have k0 := h0
  have lt0 : ∀ x ∈ p0, x.block < W.heap.size := by obtain ⟨m, hm⟩ := k0; exact DataW.trod_lt m _ _ _ hm
  have k1 := h1
  have lt1 : ∀ x ∈ p1, x.block < W.heap.size := by obtain ⟨m, hm⟩ := k1; exact DataW.trod_lt m _ _ _ hm
  have k2 := h2
  have lt2 : ∀ x ∈ p2, x.block < W.heap.size := by obtain ⟨m, hm⟩ := k2; exact DataW.trod_lt m _ _ _ hm
  obtain ⟨l0, hu0, hd0, hm0⟩ := open_bytes Try.underlying23 Try.underlying5 (by kernel_rfl) (hval 0 23 v0 rfl rfl) h0
  obtain ⟨a1, rfl, rfl, rfl, wf1⟩ := open_int Try.underlying3 (hval 1 3 v1 rfl rfl) h1
  obtain ⟨a2, rfl, rfl, rfl, wf2⟩ := open_int Try.underlying3 (hval 2 3 v2 rfl rfl) h2
  clear hA0 hval0
  refine (netOwn_walk hu0 hd0 hm0).mono fun e W' ⟨he, bel⟩ => ?_
  subst he
  exact ⟨_, rfl, _, _, _, [], _, [], hW', trodAll_mk1 (shut_bool Try.underlying4 _), (trodAll_cons_mk (Below.trod laidOut (by kernel_rfl) (of_decide_eq_true (by kernel_rfl)) k0 bel lt0) (trodAll_cons_mk (Below.trod laidOut (by kernel_rfl) (of_decide_eq_true (by kernel_rfl)) k1 bel lt1) (trodAll_cons_mk (Below.trod laidOut (by kernel_rfl) (of_decide_eq_true (by kernel_rfl)) k2 bel lt2) trodAll_mk0))), rfl, bel.frame _, fun h => by cases h⟩

theorem netOwn_over : Rows.netOwnRow.holds Try.pinned (OpenSpec.ofChange Rows.netOwnSpec) :=
  OpenClaim.holds_of_wide 4 Try.f4 rfl rfl rfl rfl rfl rfl rfl ⟨rfl, rfl, rfl, rfl, rfl⟩ rfl rfl rfl rfl rfl (by kernel_rfl) Try.func4 (by kernel_rfl)
    (of_decide_eq_true (by kernel_rfl)) (by unfold Func.isWrapper; first | (rw [if_pos (by decide +kernel)]; kernel_rfl) | (rw [if_neg (by decide +kernel)]; exact ⟨rfl, rfl⟩))
    (fun os started H enc _ => netOwn_lifted os started H enc)

theorem netOwn_holds : Rows.NetOwnSaid := netOwn_over

#print axioms netOwn_holds
end Go.Proofs.Ytnbbehgcnodfbaa
