/-
  Layer 7: 'SignBack': what any seed signs is right for its key and that message, in whatever parts it comes. No condition.
-/
import Derived.Test.YthddoelflmoedaaJ22
import Derived.Test.YthddoelflmoedaaJ34
import Derived.Test.YthddoelflmoedaaJ36
import Derived.Test.YthddoelflmoedaaJ37
namespace Go.Proofs.Ythddoelflmoedaa
open Go.ChangeShapes Go.WideShapes Go.ChangeAt Go.RowKit
set_option maxRecDepth 100000
set_option linter.unusedVariables false
set_option linter.unusedSimpArgs false

section
variable {a : Act} {w : World} {o : Oper}
theorem v_eqSig {t' : TypeId} {x y : Operand} {l : List Nat} (ho : o.op = .binOp .eql 30 x y t') (hx : a.eval x = .agg (ints .u8 l)) (hy : a.eval y = .agg (ints .u8 l)) (hl : l.length = 64) : Val Try.prog o a (.bool true) w :=
  v_eqIntsS ho hx hy (by kernel_rfl) Try.underlying30 Try.underlying5 (size_run (by kernel_rfl)) hl
end
/-- What reads in every world that holds these blocks. -/
theorem Ow.seesW {w0 : World} {e : TypeId} {k : IntKind} {ns : List Nat} {v : Value} {bs : List Blk} (h : Ow e (nats k ns) v bs) : ∀ w', Env w0 bs w' → RdS k ns v w' := fun w' hE => (h.sl (l := []) (by rw [List.append_nil]; exact hE)).rdS
theorem two_slices {p1 p2 : Option Addr} {n1 n2 c1 c2 : Nat} : ∀ v ∈ [Value.slice p1 n1 c1, Value.slice p2 n2 c2], v.cells = #[v] := fun v hv => by
  simp only [List.mem_cons, List.not_mem_nil, or_false] at hv
  rcases hv with rfl | rfl <;> rfl
theorem RdSs.two {k : IntKind} {r s : List Nat} {v u : Value} {g : Nat} {T : TypeId} {w : World} (h : w.heap[g]? = some (.cells #[v, u] T (0, 0))) (hr : RdS k r v w) (hs : RdS k s u w) : RdSs k [r, s] (.slice (some ⟨g, 0, none⟩) 2 2) w :=
  RdSs.of_block (vs := [v, u]) (rows := [r, s]) h rfl (fun j hj => by
    match j, hj with
    | 0, _ => exact ⟨v, rfl, hr⟩
    | 1, _ => exact ⟨u, rfl, hs⟩)
/-- A slice built of nothing. -/
theorem st_build0' {P : Program} {ops : Array Oper} {Q : Exit → Act → World → Prop} {a : Act} {w w0 : World} {l : List Blk} {o : Oper} {K : Act → World → Prop} {t e : TypeId} (hE : Env w0 l w) (hw : Region.wanted o (yielded ops a.tmps) = true) (ho : o.op = .buildSlice t 0 #[]) (ht : P.underlying t = some (.slice e)) (hs : (P.info? e).map (·.size) = some 1)
    (kk : ∀ g w1, Below w.heap.size w w1 → Env w0 (⟨g, e, #[]⟩ :: l) w1 → K (a.put o.dst (.slice (some ⟨g, 0, none⟩) 0 0)) w1) : Step P ops Q o K a w := by
  refine st_run (w1 := w.alloc (.cells #[] e)) (v := .slice (some ⟨w.heap.size, 0, none⟩) 0 0) hw ?_ (kk _ _ ((Below.refl _ _).alloc (Nat.le_refl _) _) (hE.alloc e _))
  unfold execOp
  simp [ho, Instr.buildSlice, Sem.run_bind, run_underlying ht, size_run hs, Sem.run_pure, Instr.fill, newRow, newObj, Sem.run]
  congr 2
  apply Array.toList_inj.1
  simp

set_option maxHeartbeats 16000000 in
theorem signBack_walk {s x y : List Nat} {v u : Value} {w : World} (hs : s.length = 32) (ds : Digs 256 s) (hv : RdS .u8 x v w) (dx : Digs 256 x) (hmx : x.length ≤ maxLen) (hu : RdS .u8 y u w) (dy : Digs 256 y) (hmy : y.length ≤ maxLen) : Gives 4 #[.agg (ints .u8 s), v, u] w (.bool true) := by
  obtain ⟨p1, c1, rfl, hc1, -⟩ := id hv
  obtain ⟨p2, c2, rfl, hc2, -⟩ := id hu
  have Hv := Lib.hid hv
  have Hu := Lib.hid hu
  have HG1 : Hid (∀ w1, Below w.heap.size w w1 → Gives 5 #[.slice p1 x.length c1] w1 (.bool (decide (300 < x.length)))) := Lib.hid (fun w1 hb => great_any (hv.below hb) hmx)
  have HG2 : Hid (∀ w1, Below w.heap.size w w1 → Gives 5 #[.slice p2 y.length c2] w1 (.bool (decide (300 < y.length)))) := Lib.hid (fun w1 hb => great_any (hu.below hb) hmy)
  have HW := Lib.hid (fun w => awake_any w)
  by_cases h1 : 300 < x.length
  · rw [decide_eq_true h1] at HG1
    clear hv hu dx dy
    have hE0 := Env.nil w
    go_enter Try.func4, Try.ntmps4
    repeat ((fail_if_success with_reducible show wA ..); (fail_if_success with_reducible show wB ..); go_step)
    refine wl_step (st_boxA hE0 rfl rfl rfl ?_)
    intro g0 w1 hb1 hE1
    clear hE0
    simp only [Act.put, pA, pB, pC]
    refine wv (v_moveC (.inr rfl)) ?_
    simp only [Act.put, pA, pB, pC]
    repeat ((fail_if_success with_reducible show wA ..); (fail_if_success with_reducible show wB ..); go_step)
    refine wv (v_moveT (.inl rfl) rfl) ?_
    simp only [Act.put, pA, pB, pC]
    refine wl_step (st_gives hE1 rfl (run_call rfl Try.call5) (HG1.out _ hE1.below) ?_)
    intro w2 hb2 hE2
    clear hE1
    simp only [Act.put, pA, pB, pC]
    refine wv (v_moveT (.inl rfl) rfl) ?_
    simp only [Act.put, pA, pB, pC]
    refine wl_step (st_skip rfl ?_)
    simp only [Act.put, pA, pB, pC]
    refine wl_step (st_skip rfl ?_)
    simp only [Act.put, pA, pB, pC]
    refine wv (v_orT rfl rfl) ?_
    simp only [Act.put, pA, pB, pC]
    repeat ((fail_if_success with_reducible show wA ..); (fail_if_success with_reducible show wB ..); (fail_if_success (with_reducible show Code.wp _ (Code.cond _ _ _) _ _ _)); go_step)
    refine wp_cond_true (by first | rfl | exact congrArg Value.bool (decide_eq_true (by omega))) ?_
    skip
    repeat ((fail_if_success with_reducible show wA ..); (fail_if_success with_reducible show wB ..); go_step)
    refine wl_step (st_gives hE2 rfl (run_call rfl Try.call6) (HW.out _) ?_)
    intro w3 hb3 hE3
    clear hE2
    simp only [Act.put, pA, pB, pC]
    refine wv (v_moveT (.inr rfl) rfl) ?_
    simp only [Act.put, pA, pB, pC]
    repeat ((fail_if_success with_reducible show wA ..); (fail_if_success with_reducible show wB ..); go_step)
    go_returns
    exact ⟨rfl, hE3.below⟩
  · rw [decide_eq_false h1] at HG1
    by_cases h2 : 300 < y.length
    · rw [decide_eq_true h2] at HG2
      clear hv hu dx dy
      have hE0 := Env.nil w
      go_enter Try.func4, Try.ntmps4
      repeat ((fail_if_success with_reducible show wA ..); (fail_if_success with_reducible show wB ..); go_step)
      refine wl_step (st_boxA hE0 rfl rfl rfl ?_)
      intro g0 w1 hb1 hE1
      clear hE0
      simp only [Act.put, pA, pB, pC]
      refine wv (v_moveC (.inr rfl)) ?_
      simp only [Act.put, pA, pB, pC]
      repeat ((fail_if_success with_reducible show wA ..); (fail_if_success with_reducible show wB ..); go_step)
      refine wv (v_moveT (.inl rfl) rfl) ?_
      simp only [Act.put, pA, pB, pC]
      refine wl_step (st_gives hE1 rfl (run_call rfl Try.call5) (HG1.out _ hE1.below) ?_)
      intro w2 hb2 hE2
      clear hE1
      simp only [Act.put, pA, pB, pC]
      refine wv (v_moveT (.inl rfl) rfl) ?_
      simp only [Act.put, pA, pB, pC]
      refine wv (v_moveT (.inl rfl) rfl) ?_
      simp only [Act.put, pA, pB, pC]
      refine wl_step (st_gives hE2 rfl (run_call rfl Try.call5) (HG2.out _ hE2.below) ?_)
      intro w3 hb3 hE3
      clear hE2
      simp only [Act.put, pA, pB, pC]
      refine wv (v_or rfl rfl (fun _ => rfl)) ?_
      simp only [Act.put, pA, pB, pC]
      repeat ((fail_if_success with_reducible show wA ..); (fail_if_success with_reducible show wB ..); (fail_if_success (with_reducible show Code.wp _ (Code.cond _ _ _) _ _ _)); go_step)
      refine wp_cond_true (by first | rfl | exact congrArg Value.bool (decide_eq_true (by omega))) ?_
      skip
      repeat ((fail_if_success with_reducible show wA ..); (fail_if_success with_reducible show wB ..); go_step)
      refine wl_step (st_gives hE3 rfl (run_call rfl Try.call6) (HW.out _) ?_)
      intro w4 hb4 hE4
      clear hE3
      simp only [Act.put, pA, pB, pC]
      refine wv (v_moveT (.inr rfl) rfl) ?_
      simp only [Act.put, pA, pB, pC]
      repeat ((fail_if_success with_reducible show wA ..); (fail_if_success with_reducible show wB ..); go_step)
      go_returns
      exact ⟨rfl, hE4.below⟩
    · rw [decide_eq_false h2] at HG2
      obtain ⟨iu, hi, hz, hsz, hby⟩ := info_u8
      have Hi := Lib.hid hi
      have Hz := Lib.hid hz
      have Hsz := Lib.hid hsz
      have Hby := Lib.hid hby
      have e2 : ([x, y] : List (List Nat)).flatten = x ++ y := by simp
      have e1 : ([x ++ y] : List (List Nat)).flatten = x ++ y := by simp
      have dxy : Digs 256 (x ++ y) := dx.append dy
      have hlxy : (x ++ y).length < 274877906944 := by rw [List.length_append]; omega
      have HP := Lib.hid (fun w => Public_any hs ds w)
      have HS2 : Hid (∀ (w1 : World) (v : Value), RdSs .u8 [x, y] v w1 → Gives 8 #[.agg (ints .u8 s), v] w1 (.agg (ints .u8 (sigL s (x ++ y))))) := Lib.hid (fun w1 v h => by
        have h := Sign_any hs ds h (fun r hr => by
          simp only [List.mem_cons, List.not_mem_nil, or_false] at hr
          rcases hr with rfl | rfl <;> assumption) (by rw [e2]; exact hlxy) (show 2 < 1099511627776 by decide)
        rwa [e2] at h)
      have HS1 : Hid (∀ (w1 : World) (v : Value), RdSs .u8 [x ++ y] v w1 → Gives 8 #[.agg (ints .u8 s), v] w1 (.agg (ints .u8 (sigL s (x ++ y))))) := Lib.hid (fun w1 v h => by
        have h := Sign_any hs ds h (fun r hr => by rw [List.mem_singleton.1 hr]; exact dxy) (by rw [e1]; exact hlxy) (show 1 < 1099511627776 by decide)
        rwa [e1] at h)
      have HV2 : Hid (∀ (w1 : World) (v : Value), RdSs .u8 [x, y] v w1 → Gives 9 #[.agg (ints .u8 (pubL s)), .agg (ints .u8 (sigL s (x ++ y))), v] w1 (.bool true)) := Lib.hid (fun w1 v h => by
        have h := Verify_sig (s := s) h (fun r hr => by
          simp only [List.mem_cons, List.not_mem_nil, or_false] at hr
          rcases hr with rfl | rfl <;> assumption) (by rw [e2]; exact hlxy) (show 2 < 1099511627776 by decide)
        rwa [e2] at h)
      have HV1 : Hid (∀ (w1 : World) (v : Value), RdSs .u8 [x ++ y] v w1 → Gives 9 #[.agg (ints .u8 (pubL s)), .agg (ints .u8 (sigL s (x ++ y))), v] w1 (.bool true)) := Lib.hid (fun w1 v h => by
        have h := Verify_sig (s := s) h (fun r hr => by rw [List.mem_singleton.1 hr]; exact dxy) (by rw [e1]; exact hlxy) (show 1 < 1099511627776 by decide)
        rwa [e1] at h)
      have HK := Lib.hid (fun w => Known_yes (w := w) (P := pubP s) (pubL_len s) (pubL_Digs s) (encN_pub s))
      have l1 := pubL_len s
      have l2 := sigL_len s (x ++ y)
      have ha1 : ([] : List Value).length + x.length ≤ maxLen := by simp only [List.length_nil, maxLen]; omega
      have ha2 : (([] : List Value).length + x.length) * 1 ≤ 140737488355328 := by simp only [List.length_nil]; omega
      have ha3 : (nats .u8 x).length + y.length ≤ maxLen := by rw [nats_len]; simp only [maxLen]; omega
      have ha4 : ((nats .u8 x).length + y.length) * 1 ≤ 140737488355328 := by rw [nats_len]; omega
      obtain ⟨M, hM⟩ : ∃ M, x ++ y = M := ⟨_, rfl⟩
      have HM := Lib.hid hM
      rw [hM] at HS2 HS1 HV2 HV1 l2
      obtain ⟨SG, hSG⟩ : ∃ SG, sigL s M = SG := ⟨_, rfl⟩
      obtain ⟨K, hK⟩ : ∃ K, pubL s = K := ⟨_, rfl⟩
      rw [hSG] at HS2 HS1 HV2 HV1 l2
      rw [hK] at HP HV2 HV1 HK l1
      clear hv hu dx dy hi hz hsz hby e1 e2 dxy hlxy hM hSG hK
      have hE0 := Env.nil w
      go_enter Try.func4, Try.ntmps4
      repeat ((fail_if_success with_reducible show wA ..); (fail_if_success with_reducible show wB ..); go_step)
      refine wl_step (st_boxA hE0 rfl rfl rfl ?_)
      intro g0 w1 hb1 hE1
      clear hE0
      simp only [Act.put, pA, pB, pC]
      refine wv (v_moveC (.inr rfl)) ?_
      simp only [Act.put, pA, pB, pC]
      repeat ((fail_if_success with_reducible show wA ..); (fail_if_success with_reducible show wB ..); go_step)
      refine wv (v_moveT (.inl rfl) rfl) ?_
      simp only [Act.put, pA, pB, pC]
      refine wl_step (st_gives hE1 rfl (run_call rfl Try.call5) (HG1.out _ hE1.below) ?_)
      intro w2 hb2 hE2
      clear hE1
      simp only [Act.put, pA, pB, pC]
      refine wv (v_moveT (.inl rfl) rfl) ?_
      simp only [Act.put, pA, pB, pC]
      refine wv (v_moveT (.inl rfl) rfl) ?_
      simp only [Act.put, pA, pB, pC]
      refine wl_step (st_gives hE2 rfl (run_call rfl Try.call5) (HG2.out _ hE2.below) ?_)
      intro w3 hb3 hE3
      clear hE2
      simp only [Act.put, pA, pB, pC]
      refine wv (v_or rfl rfl (fun _ => rfl)) ?_
      simp only [Act.put, pA, pB, pC]
      repeat ((fail_if_success with_reducible show wA ..); (fail_if_success with_reducible show wB ..); (fail_if_success (with_reducible show Code.wp _ (Code.cond _ _ _) _ _ _)); go_step)
      refine wp_cond_false (by first | rfl | exact congrArg Value.bool (decide_eq_false (by omega))) ?_
      skip
      repeat ((fail_if_success with_reducible show wA ..); (fail_if_success with_reducible show wB ..); go_step)
      refine wv (v_load (i := 0) hE3 rfl rfl rfl Try.underlying23 rfl (szA (n := 32))) ?_
      simp only [Act.put, pA, pB, pC]
      refine wl_step (st_gives hE3 rfl (run_call rfl Try.call7) (HP.out _) ?_)
      intro w4 hb4 hE4
      clear hE3
      simp only [Act.put, pA, pB, pC]
      refine wl_step (st_alloc (zs := ints .u8 (List.replicate 32 0)) hE4 rfl rfl (fun w => by kernel_rfl) ?_)
      intro g1 w5 hb5 hE5
      clear hE4
      simp only [Act.put, pA, pB, pC]
      refine wl_step (st_store (i := 0) hE5 rfl rfl rfl rfl rfl (szA (n := 32)) (by first | (simp only [ints_size, digs_length, List.length_replicate, List.length_cons, List.length_nil]; done) | (simp only [ints_size, digs_length, List.length_replicate, List.length_cons, List.length_nil, List.length_set, List.length_append]; omega) | rfl) (by first | exact ints_one _ _ | decide | rfl | simp [*]) ?_)
      intro w6 hE6
      clear hE5
      simp only [pB, pC] at hE6
      simp only [Act.put, pA, pB, pC]
      repeat ((fail_if_success with_reducible show wA ..); (fail_if_success with_reducible show wB ..); go_step)
      refine wv (v_load (i := 1) hE6 rfl rfl rfl Try.underlying23 rfl (szA (n := 32))) ?_
      simp only [Act.put, pA, pB, pC]
      refine wv (v_moveT (.inl rfl) rfl) ?_
      simp only [Act.put, pA, pB, pC]
      refine wv (v_moveT (.inl rfl) rfl) ?_
      simp only [Act.put, pA, pB, pC]
      refine wl_step (st_buildVs [Value.slice p1 x.length c1, Value.slice p2 y.length c2] (two_slices) hE6 rfl rfl (by first | rfl | (simp only [List.map_cons, List.map_nil, List.zipIdx_cons, List.zipIdx_nil]; rfl)) rfl (by decide) (by decide) Try.underlying47 (by kernel_rfl) Try.zeroValue24 ?_)
      intro g2 w7 hb7 hE7
      clear hE6
      simp only [Act.put, pA, pB, pC]
      refine wl_step (st_gives hE7 rfl (run_call rfl Try.call8) (HS2.out _ _ (RdSs.two (hE7.get (i := 0) rfl) (Hv.out.below hE7.below) (Hu.out.below hE7.below))) ?_)
      intro w8 hb8 hE8
      clear hE7
      simp only [Act.put, pA, pB, pC]
      refine wl_step (st_alloc (zs := ints .u8 (List.replicate 64 0)) hE8 rfl rfl (fun w => by kernel_rfl) ?_)
      intro g3 w9 hb9 hE9
      clear hE8
      simp only [Act.put, pA, pB, pC]
      refine wl_step (st_store (i := 0) hE9 rfl rfl rfl rfl rfl (szA (n := 64)) (by first | (simp only [ints_size, digs_length, List.length_replicate, List.length_cons, List.length_nil]; done) | (simp only [ints_size, digs_length, List.length_replicate, List.length_cons, List.length_nil, List.length_set, List.length_append]; omega) | rfl) (by first | exact ints_one _ _ | decide | rfl | simp [*]) ?_)
      intro w10 hE10
      clear hE9
      simp only [pB, pC] at hE10
      simp only [Act.put, pA, pB, pC]
      repeat ((fail_if_success with_reducible show wA ..); (fail_if_success with_reducible show wB ..); go_step)
      refine wl_step (st_build0' hE10 rfl rfl Try.underlying24 (by kernel_rfl) ?_)
      intro g4 w11 hb11 hE11
      clear hE10
      simp only [Act.put, pA, pB, pC]
      refine wv (v_moveT (.inl rfl) rfl) ?_
      simp only [Act.put, pA, pB, pC]
      refine wl_step (st_append (Sl.of_block hE11 (by decide)) rfl rfl Try.underlying24 Hi.out Hz.out Hsz.out rfl Hby.out rfl rfl (Hv.out.below hE11.below) ha1 ha2 ?_)
      intro v12 w12 hS12
      have hE12 := hS12.env
      clear hE11
      simp only [Act.put, pA, pB, pC]
      refine wv (v_moveT (.inl rfl) rfl) ?_
      simp only [Act.put, pA, pB, pC]
      refine wl_step (st_append (xs := nats .u8 x) hS12 rfl rfl Try.underlying24 Hi.out Hz.out Hsz.out rfl Hby.out rfl rfl (Hu.out.below hE12.below) ha3 ha4 ?_)
      intro v13 w13 hS13
      have hE13 := hS13.env
      clear hE12
      clear hS12
      simp only [Act.put, pA, pB, pC]
      obtain ⟨ba, ho, hEE⟩ := hS13.ow
      rw [nats_append, HM.out] at ho
      obtain ⟨pa, ca, hva, hca⟩ := ho.lenN
      subst hva
      clear hE13 hS13
      have hE13 := hEE.perm List.perm_append_comm
      clear hEE
      refine wv (v_moveT (.inr rfl) rfl) ?_
      simp only [Act.put, pA, pB, pC]
      have HA := Lib.hid (ho.seesW (w0 := w))
      clear ho
      repeat ((fail_if_success with_reducible show wA ..); (fail_if_success with_reducible show wB ..); go_step)
      refine wp_region_B (n := 29) 28 (by kernel_rfl) rfl hE13 ?_
      intro w14 hb14 hE14
      clear hE13
      refine wpB_take (i := 0) (by kernel_rfl) rfl (by kernel_rfl) (fun _ _ _ h => h) rfl (v_load (i := 2) hE14 rfl rfl rfl Try.underlying27 rfl (szA (n := 32))) ?_
      simp only [Act.put, pA, pB, pC]
      refine wpB_take (i := 1) (by kernel_rfl) rfl (by kernel_rfl) (fun _ _ _ h => h) rfl (v_load (i := 0) hE14 rfl rfl rfl Try.underlying30 rfl (szA (n := 64))) ?_
      simp only [Act.put, pA, pB, pC]
      refine wpB_take (i := 2) (by kernel_rfl) rfl (by kernel_rfl) (fun _ _ _ h => h) rfl (v_moveT (.inl rfl) rfl) ?_
      simp only [Act.put, pA, pB, pC]
      refine wpB_step (i := 3) (by kernel_rfl) rfl (st_buildVs [Value.slice pa M.length ca] (one_slice) hE14 rfl rfl (by first | rfl | (simp only [List.map_cons, List.map_nil, List.zipIdx_cons, List.zipIdx_nil]; rfl)) rfl (by decide) (by decide) Try.underlying47 (by kernel_rfl) Try.zeroValue24 ?_)
      intro g5 w15 hb15 hE15
      clear hE14
      refine ⟨fun _ => hb15, ?_⟩
      simp only [Act.put, pA, pB, pC]
      refine wpB_step (i := 4) (by kernel_rfl) rfl (st_gives hE15 rfl (run_call rfl Try.call9) (HV1.out _ _ (RdSs.one (hE15.get (i := 0) rfl) (HA.out _ (hE15.sub (by repeat (first | exact List.Sublist.refl _ | refine List.Sublist.cons _ ?_)))))) ?_)
      intro w16 hb16 hE16
      clear hE15
      refine ⟨fun _ => hb16, ?_⟩
      simp only [Act.put, pA, pB, pC]
      refine wpB_take (i := 5) (by kernel_rfl) rfl (by kernel_rfl) (fun _ _ _ h => h) rfl (v_moveT (.inl rfl) rfl) ?_
      simp only [Act.put, pA, pB, pC]
      refine wpB_take (i := 6) (by kernel_rfl) rfl (by kernel_rfl) (fun _ _ _ h => h) rfl (v_load (i := 3) hE16 rfl rfl rfl Try.underlying27 rfl (szA (n := 32))) ?_
      simp only [Act.put, pA, pB, pC]
      refine wpB_take (i := 7) (by kernel_rfl) rfl (by kernel_rfl) (fun _ _ _ h => h) rfl (v_load (i := 1) hE16 rfl rfl rfl Try.underlying30 rfl (szA (n := 64))) ?_
      simp only [Act.put, pA, pB, pC]
      refine wpB_take (i := 8) (by kernel_rfl) rfl (by kernel_rfl) (fun _ _ _ h => h) rfl (v_moveT (.inl rfl) rfl) ?_
      simp only [Act.put, pA, pB, pC]
      refine wpB_take (i := 9) (by kernel_rfl) rfl (by kernel_rfl) (fun _ _ _ h => h) rfl (v_moveT (.inl rfl) rfl) ?_
      simp only [Act.put, pA, pB, pC]
      refine wpB_step (i := 10) (by kernel_rfl) rfl (st_buildVs [Value.slice p1 x.length c1, Value.slice p2 y.length c2] (two_slices) hE16 rfl rfl (by first | rfl | (simp only [List.map_cons, List.map_nil, List.zipIdx_cons, List.zipIdx_nil]; rfl)) rfl (by decide) (by decide) Try.underlying47 (by kernel_rfl) Try.zeroValue24 ?_)
      intro g6 w17 hb17 hE17
      clear hE16
      refine ⟨fun _ => hb17, ?_⟩
      simp only [Act.put, pA, pB, pC]
      refine wpB_step (i := 11) (by kernel_rfl) rfl (st_gives hE17 rfl (run_call rfl Try.call9) (HV2.out _ _ (RdSs.two (hE17.get (i := 0) rfl) (Hv.out.below hE17.below) (Hu.out.below hE17.below))) ?_)
      intro w18 hb18 hE18
      clear hE17
      refine ⟨fun _ => hb18, ?_⟩
      simp only [Act.put, pA, pB, pC]
      refine wpB_take (i := 12) (by kernel_rfl) rfl (by kernel_rfl) (fun _ _ _ h => h) rfl (v_and rfl rfl (fun _ => rfl)) ?_
      simp only [Act.put, pA, pB, pC]
      refine wpB_take (i := 13) (by kernel_rfl) rfl (by kernel_rfl) (fun _ _ _ h => h) rfl (v_moveT (.inl rfl) rfl) ?_
      simp only [Act.put, pA, pB, pC]
      refine wpB_take (i := 14) (by kernel_rfl) rfl (by kernel_rfl) (fun _ _ _ h => h) rfl (v_load (i := 5) hE18 rfl rfl rfl Try.underlying23 rfl (szA (n := 32))) ?_
      simp only [Act.put, pA, pB, pC]
      refine wpB_take (i := 15) (by kernel_rfl) rfl (by kernel_rfl) (fun _ _ _ h => h) rfl (v_moveT (.inl rfl) rfl) ?_
      simp only [Act.put, pA, pB, pC]
      refine wpB_take (i := 18) (by kernel_rfl) rfl (by kernel_rfl) (fun _ _ _ h => h) rfl (v_load (i := 2) hE18 rfl rfl rfl Try.underlying30 rfl (szA (n := 64))) ?_
      simp only [Act.put, pA, pB, pC]
      refine wpB_step (i := 16) (by kernel_rfl) rfl (st_buildVs [Value.slice pa M.length ca] (one_slice) hE18 rfl rfl (by first | rfl | (simp only [List.map_cons, List.map_nil, List.zipIdx_cons, List.zipIdx_nil]; rfl)) rfl (by decide) (by decide) Try.underlying47 (by kernel_rfl) Try.zeroValue24 ?_)
      intro g7 w19 hb19 hE19
      clear hE18
      refine ⟨fun _ => hb19, ?_⟩
      simp only [Act.put, pA, pB, pC]
      refine wpB_step (i := 17) (by kernel_rfl) rfl (st_gives hE19 rfl (run_call rfl Try.call8) (HS1.out _ _ (RdSs.one (hE19.get (i := 0) rfl) (HA.out _ (hE19.sub (by repeat (first | exact List.Sublist.refl _ | refine List.Sublist.cons _ ?_)))))) ?_)
      intro w20 hb20 hE20
      clear hE19
      refine ⟨fun _ => hb20, ?_⟩
      simp only [Act.put, pA, pB, pC]
      refine wpB_take (i := 19) (by kernel_rfl) rfl (by kernel_rfl) (fun _ _ _ h => h) rfl (v_eqSig rfl rfl rfl l2) ?_
      simp only [Act.put, pA, pB, pC]
      refine wpB_take (i := 20) (by kernel_rfl) rfl (by kernel_rfl) (fun _ _ _ h => h) rfl (v_and rfl rfl (fun _ => rfl)) ?_
      simp only [Act.put, pA, pB, pC]
      refine wpB_take (i := 21) (by kernel_rfl) rfl (by kernel_rfl) (fun _ _ _ h => h) rfl (v_moveT (.inl rfl) rfl) ?_
      simp only [Act.put, pA, pB, pC]
      refine wpB_take (i := 22) (by kernel_rfl) rfl (by kernel_rfl) (fun _ _ _ h => h) rfl (v_load (i := 5) hE20 rfl rfl rfl Try.underlying27 rfl (szA (n := 32))) ?_
      simp only [Act.put, pA, pB, pC]
      refine wpB_step (i := 23) (by kernel_rfl) rfl (st_gives hE20 rfl (run_call rfl Try.call10) (HK.out _) ?_)
      intro w21 hb21 hE21
      clear hE20
      refine ⟨fun _ => hb21, ?_⟩
      simp only [Act.put, pA, pB, pC]
      refine wpB_take (i := 24) (by kernel_rfl) rfl (by kernel_rfl) (fun _ _ _ h => h) rfl (v_and rfl rfl (fun _ => rfl)) ?_
      simp only [Act.put, pA, pB, pC]
      refine wpB_take (i := 25) (by kernel_rfl) rfl (by kernel_rfl) (fun _ _ _ h => h) rfl (v_moveT (.inl rfl) rfl) ?_
      simp only [Act.put, pA, pB, pC]
      refine wpB_step (i := 26) (by kernel_rfl) rfl (st_gives hE21 rfl (run_call rfl Try.call6) (HW.out _) ?_)
      intro w22 hb22 hE22
      clear hE21
      refine ⟨fun _ => hb22, ?_⟩
      simp only [Act.put, pA, pB, pC]
      refine wpB_take (i := 27) (by kernel_rfl) rfl (by kernel_rfl) (fun _ _ _ h => h) rfl (v_and rfl rfl (fun _ => rfl)) ?_
      simp only [Act.put, pA, pB, pC]
      refine wpB_step (i := 28) (by kernel_rfl) rfl (st_val rfl (v_moveT (.inr rfl) rfl) ?_)
      refine ⟨fun _ => Below.refl _ _, ?_⟩
      simp only [Act.put, pA, pB, pC]
      refine wpB_done (by kernel_rfl) ?_ _
      repeat ((fail_if_success with_reducible show wA ..); (fail_if_success with_reducible show wB ..); go_step)
      go_returns
      exact ⟨rfl, hE22.below⟩
set_option maxRecDepth 100000 in
theorem signBack_lifted (os : Os) (started : os.Started) (H : Type) (enc : TypeId × Value → H) :
    ReturnsInHanded {} Try.checked os 4 .any (Rows.signBackSpec.pre6 enc Try.prog Try.f4 Rows.signBackRow.domain false) (Rows.signBackSpec.post enc Try.prog Try.f4 false true false false) := by
  refine returnsInHanded_of_change (C := Try.checked) own started (by kernel_rfl) Try.func4
    (ChangeSpec.witness6 (enc := enc) (C := Try.checked) false ⟨#[], #[.agg (ints .u8 (List.replicate 32 0)), .slice none 0 0, .slice none 0 0], []⟩ 8 (by kernel_rfl) (by kernel_rfl) (by kernel_rfl) (by kernel_rfl)) ?_
  intro W base args ds gs before hval0 hW hcnd _
  have hval : ∀ (j : Nat) t v, Try.f4.params[j]? = some t → args[j]? = some v → Value.okWide Try.prog W .any base t v := hval0
  have hW' := hW
  obtain ⟨p, q, hA0, hV, rfl, hfz, hnd⟩ := hW
  have hA : DataW.TrodAll enc Try.prog W 0 (fun _ => true) true Try.f4.params.toList args.toList ds p := hA0
  rw [Try.params4] at hA hval
  obtain ⟨v0, vs0, d0, ds0, p0, q0, hargs, rfl, rfl, h0, r0⟩ := trodAll_cons hA
  obtain ⟨v1, vs1, d1, ds1, p1, q1, rfl, rfl, rfl, h1, r1⟩ := trodAll_cons r0
  obtain ⟨v2, vs2, d2, ds2, p2, q2, rfl, rfl, rfl, h2, r2⟩ := trodAll_cons r1
  obtain ⟨rfl, rfl, rfl⟩ := trodAll_nil r2
  obtain rfl : args = #[v0, v1, v2] := by cases args; simp_all
  obtain ⟨rfl, rfl⟩ := trodVars_none hV
  have k0 := h0
  have lt0 : ∀ x ∈ p0, x.block < W.heap.size := by obtain ⟨m, hm⟩ := k0; exact DataW.trod_lt m _ _ _ hm
  have k1 := h1
  have lt1 : ∀ x ∈ p1, x.block < W.heap.size := by obtain ⟨m, hm⟩ := k1; exact DataW.trod_lt m _ _ _ hm
  have k2 := h2
  have lt2 : ∀ x ∈ p2, x.block < W.heap.size := by obtain ⟨m, hm⟩ := k2; exact DataW.trod_lt m _ _ _ hm
  obtain ⟨l0, rfl, hl0, dl0⟩ := open_u8s Try.underlying23 Try.underlying5 (by kernel_rfl) (by kernel_rfl) (hval 0 23 v0 rfl rfl) h0
  obtain ⟨l1, hu1, hd1, hm1⟩ := open_bytes Try.underlying24 Try.underlying5 (by kernel_rfl) (hval 1 24 v1 rfl rfl) h1
  obtain ⟨l2, hu2, hd2, hm2⟩ := open_bytes Try.underlying24 Try.underlying5 (by kernel_rfl) (hval 2 24 v2 rfl rfl) h2
  clear hA0 hval0
  refine (signBack_walk hl0 dl0 hu1 hd1 hm1 hu2 hd2 hm2).mono fun e W' ⟨he, bel⟩ => ?_
  subst he
  exact ⟨_, rfl, _, _, _, [], _, [], hW', trodAll_mk1 (shut_bool Try.underlying4 _), (trodAll_cons_mk (Below.trod laidOut (by kernel_rfl) (of_decide_eq_true (by kernel_rfl)) k0 bel lt0) (trodAll_cons_mk (Below.trod laidOut (by kernel_rfl) (of_decide_eq_true (by kernel_rfl)) k1 bel lt1) (trodAll_cons_mk (Below.trod laidOut (by kernel_rfl) (of_decide_eq_true (by kernel_rfl)) k2 bel lt2) trodAll_mk0))), rfl, bel.frame _, fun h => by cases h⟩

theorem signBack_over : Rows.signBackRow.holds Try.pinned (OpenSpec.ofChange Rows.signBackSpec) :=
  OpenClaim.holds_of_wide 4 Try.f4 rfl rfl rfl rfl rfl rfl rfl ⟨rfl, rfl, rfl, rfl, rfl⟩ rfl rfl rfl rfl rfl (by kernel_rfl) Try.func4 (by kernel_rfl)
    (of_decide_eq_true (by kernel_rfl)) (by unfold Func.isWrapper; first | (rw [if_pos (by decide +kernel)]; kernel_rfl) | (rw [if_neg (by decide +kernel)]; exact ⟨rfl, rfl⟩))
    (fun os started H enc _ => signBack_lifted os started H enc)

theorem signBack_holds : Rows.SignBackSaid := signBack_over

#print axioms signBack_holds
end Go.Proofs.Ythddoelflmoedaa
