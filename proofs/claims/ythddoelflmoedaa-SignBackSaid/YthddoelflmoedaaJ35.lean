/-
  Two results that lie in memory.
  Layer 7: the halves of 64 bytes; a seed's number and salt; the number of bytes in parts.
  Layer 6: the point of bytes.
-/
import Derived.Test.YthddoelflmoedaaJ13
import Derived.Test.YthddoelflmoedaaJ16
import Derived.Test.YthddoelflmoedaaJ29
import Derived.Test.YthddoelflmoedaaJ30
import Derived.Test.YthddoelflmoedaaJ32
import Derived.Test.YthddoelflmoedaaJ33
import Derived.Test.YthddoelflmoedaaJ34
namespace Go.Proofs.Ythddoelflmoedaa
open Go.RowKit
set_option maxRecDepth 100000
set_option linter.unusedVariables false
set_option linter.unusedSimpArgs false

theorem results_cc {P : Program} {fn : Func} {p s : Tmp} {ty ty' : TypeId} (h : fn.results = #[.cell p ty, .cell s ty']) (tmps : Array Value) (w : World) (g g' : Nat) (t t' : TypeId) (cs cs' : Array Value) (fr fr' : Nat × Nat) (d d' : TypeDesc)
    (hp : tmps.getD p undef = .pointer (some ⟨g, 0, none⟩)) (hg : w.heap[g]? = some (.cells cs t fr))
    (hu : P.underlying ty = some d) (hd : (match d with | .struct _ | .array _ _ => true | _ => false) = true) (hi : (P.info? ty).map (·.size) = some cs.size)
    (hp' : tmps.getD s undef = .pointer (some ⟨g', 0, none⟩)) (hg' : w.heap[g']? = some (.cells cs' t' fr'))
    (hu' : P.underlying ty' = some d') (hd' : (match d' with | .struct _ | .array _ _ => true | _ => false) = true) (hi' : (P.info? ty').map (·.size) = some cs'.size) :
    (results fn tmps).run P w = .ok (.tuple #[.agg cs, .agg cs']) w := by
  have h1 : tmps[p]?.getD undef = .pointer (some ⟨g, 0, none⟩) := by simpa using hp
  have h2 : tmps[s]?.getD undef = .pointer (some ⟨g', 0, none⟩) := by simpa using hp'
  simp [results, h, h1, h2, asAddr, run_loadVar_row w g t ty cs fr d hg hu hd hi, run_loadVar_row w g' t' ty' cs' fr' d' hg' hu' hd' hi']
end Go.Proofs.Ythddoelflmoedaa
namespace Go.Proofs.Ythddoelflmoedaa
open Go.RowKit
set_option maxRecDepth 100000
set_option linter.unusedVariables false
set_option linter.unusedSimpArgs false

theorem one_sum512 {l : List Nat} {v : Value} {w : World} (hv : RdSs .u8 [l] v w) (dl : Digs 256 l) (hl : l.length < 549755813888) : Gives 22 #[v] w (.agg (ints .u8 (sum512 l))) := by
  have e : ([l] : List (List Nat)).flatten = l := by simp
  have h := Sum512_any hv (fun r hr => by rw [List.mem_singleton.1 hr]; exact dl) (by rw [e]; exact hl) (show 1 < 9223372036854775808 by decide)
  rwa [e] at h
section
variable {P : Program} {a : Act} {w : World} {o : Oper}
theorem v_andNot7 {t t' : TypeId} {x y : Operand} {m : Nat} (ho : o.op = .binOp .andNot t x y t') (hx : a.eval x = .int .u8 (m : Int)) (hy : a.eval y = .int .u8 7) (hm : m < 256) : Val P o a (.int .u8 ((m / 8 * 8 : Nat) : Int)) w :=
  v_bin ho hx hy fun w => by
    have h : ∀ m : Fin 256, (binOp .andNot t (.int .u8 ((m.val : Nat) : Int)) (.int .u8 7)).run P w = .ok (.int .u8 ((m.val / 8 * 8 : Nat) : Int)) w := by
      intro m
      have h2 : ∀ m : Fin 256, IntKind.u8.wrap (((BitVec.ofInt 8 ((m.val : Nat) : Int) &&& ~~~ (BitVec.ofInt 8 7)).toNat : Nat) : Int) = ((m.val / 8 * 8 : Nat) : Int) := by decide +kernel
      have h3 := h2 m
      simp only [binOp, ne_eq, not_true_eq_false, if_false, Op.intBits, IntKind.bits, Sem.run_pure]
      exact congrArg (fun z => Result.ok (Value.int IntKind.u8 z) w) h3
    exact h ⟨m, hm⟩
end
theorem or64 {x : Nat} (h : x < 256) : x % 128 ||| 64 = x % 64 + 64 := by
  have : ∀ x : Fin 256, x.val % 128 ||| 64 = x.val % 64 + 64 := by decide +kernel
  exact this ⟨x, h⟩

set_option maxHeartbeats 2000000 in
theorem half_lo {l : List Nat} (hl : l.length = 64) (w : World) : Gives 17 #[.agg (ints .u8 l), .bool false] w (.agg (ints .u8 (l.take 32))) := by
  have h32 : (l.take 32).length = 32 := by rw [List.length_take]; omega
  have HP : Hid (∀ (g : Nat) (T : TypeId) (w : World), w.heap[g]? = some (.cells (ints .u8 l) T (0, 0)) → RdS .u8 (l.take 32) (.slice (some ⟨g, 0, none⟩) 32 64) w) := Lib.hid (fun g T w h => by
    have := RdS.part (lo := 0) (n := 32) (c := 64) h (by omega) (by decide)
    rwa [List.drop_zero] at this)
  have hE0 := Env.nil w
  go_enter Try.func17, Try.ntmps17
  repeat ((fail_if_success with_reducible show wA ..); (fail_if_success with_reducible show wB ..); go_step)
  refine wl_step (st_boxA hE0 rfl rfl rfl ?_)
  intro g0 w1 hb1 hE1
  clear hE0
  simp only [Act.put, pA, pB, pC]
  refine wl_step (st_alloc (zs := ints .u8 (List.replicate 32 0)) hE1 rfl rfl (fun w => by kernel_rfl) ?_)
  intro g1 w2 hb2 hE2
  clear hE1
  simp only [Act.put, pA, pB, pC]
  repeat ((fail_if_success with_reducible show wA ..); (fail_if_success with_reducible show wB ..); go_step)
  refine wl_step (st_alloc (zs := ints .u8 (List.replicate 32 0)) hE2 rfl rfl (fun w => by kernel_rfl) ?_)
  intro g2 w3 hb3 hE3
  clear hE2
  simp only [Act.put, pA, pB, pC]
  repeat ((fail_if_success with_reducible show wA ..); (fail_if_success with_reducible show wB ..); go_step)
  refine wv (v_moveT (.inl rfl) rfl) ?_
  simp only [Act.put, pA, pB, pC]
  repeat ((fail_if_success with_reducible show wA ..); (fail_if_success with_reducible show wB ..); (fail_if_success (with_reducible show Code.wp _ (Code.cond _ _ _) _ _ _)); go_step)
  refine wp_cond_false (by first | rfl | exact congrArg Value.bool (decide_eq_false (by omega))) ?_
  skip
  repeat ((fail_if_success with_reducible show wA ..); (fail_if_success with_reducible show wB ..); go_step)
  refine wp_region_B (n := 3) 2 (by kernel_rfl) rfl hE3 ?_
  intro w4 hb4 hE4
  clear hE3
  refine wpB_take (i := 0) (by kernel_rfl) rfl (by kernel_rfl) (fun _ _ _ h => h) rfl (v_sliceAll rfl rfl Try.underlying22 (by kernel_rfl)) ?_
  simp only [Act.put, pA, pB, pC]
  refine wpB_take (i := 1) (by kernel_rfl) rfl (by kernel_rfl) (fun _ _ _ h => h) rfl (v_sliceArrH rfl rfl rfl Try.underlying29 (by kernel_rfl) (by decide) (by decide)) ?_
  simp only [Act.put, pA, pB, pC]
  refine wpB_step (i := 2) (by kernel_rfl) rfl (st_copyAll (i := 0) (m := l.take 32) hE4 rfl rfl rfl rfl (HP.out _ _ _ (hE4.get (i := 2) rfl)) h32 (by decide) Try.underlying24 (by kernel_rfl) rfl (by rw [ints_size]; rfl) ?_)
  intro w5 hE5
  clear hE4
  simp only [List.set_cons_zero] at hE5
  refine ⟨fun h => absurd h (by decide), ?_⟩
  simp only [Act.put, pA, pB, pC]
  refine wpB_done (by kernel_rfl) ?_ _
  repeat ((fail_if_success with_reducible show wA ..); (fail_if_success with_reducible show wB ..); go_step)
  refine wv (v_load (i := 0) hE5 rfl rfl rfl Try.underlying22 rfl (szA (n := 32))) ?_
  simp only [Act.put, pA, pB, pC]
  refine wl_step (st_store (i := 1) hE5 rfl rfl rfl rfl rfl (szA (n := 32)) (by first | (simp only [ints_size, digs_length, List.length_replicate, List.length_cons, List.length_nil]; done) | (simp only [ints_size, digs_length, List.length_replicate, List.length_cons, List.length_nil, List.length_set, List.length_append]; omega) | rfl) (by first | exact ints_one _ _ | decide | rfl | simp [*]) ?_)
  intro w6 hE6
  clear hE5
  simp only [pB, pC] at hE6
  simp only [Act.put, pA, pB, pC]
  repeat ((fail_if_success with_reducible show wA ..); (fail_if_success with_reducible show wB ..); go_step)
  refine bodyPost_ret (results_cell_row rfl _ _ _ _ _ (0, 0) _ rfl (hE6.get (i := 1) rfl) Try.underlying22 rfl (szA (n := 32))) rfl ⟨rfl, hE6.below⟩
set_option maxHeartbeats 2000000 in
theorem half_hi {l : List Nat} (hl : l.length = 64) (w : World) : Gives 17 #[.agg (ints .u8 l), .bool true] w (.agg (ints .u8 (l.drop 32))) := by
  have h32 : (l.drop 32).length = 32 := by rw [List.length_drop]; omega
  have HP : Hid (∀ (g : Nat) (T : TypeId) (w : World), w.heap[g]? = some (.cells (ints .u8 l) T (0, 0)) → RdS .u8 (l.drop 32) (.slice (some ⟨g, 32, none⟩) 32 32) w) := Lib.hid (fun g T w h => by
    have := RdS.part (lo := 32) (n := 32) (c := 32) h (by omega) (by decide)
    rwa [List.take_of_length_le (by omega)] at this)
  have hE0 := Env.nil w
  go_enter Try.func17, Try.ntmps17
  repeat ((fail_if_success with_reducible show wA ..); (fail_if_success with_reducible show wB ..); go_step)
  refine wl_step (st_boxA hE0 rfl rfl rfl ?_)
  intro g0 w1 hb1 hE1
  clear hE0
  simp only [Act.put, pA, pB, pC]
  refine wl_step (st_alloc (zs := ints .u8 (List.replicate 32 0)) hE1 rfl rfl (fun w => by kernel_rfl) ?_)
  intro g1 w2 hb2 hE2
  clear hE1
  simp only [Act.put, pA, pB, pC]
  repeat ((fail_if_success with_reducible show wA ..); (fail_if_success with_reducible show wB ..); go_step)
  refine wl_step (st_alloc (zs := ints .u8 (List.replicate 32 0)) hE2 rfl rfl (fun w => by kernel_rfl) ?_)
  intro g2 w3 hb3 hE3
  clear hE2
  simp only [Act.put, pA, pB, pC]
  repeat ((fail_if_success with_reducible show wA ..); (fail_if_success with_reducible show wB ..); go_step)
  refine wv (v_moveT (.inl rfl) rfl) ?_
  simp only [Act.put, pA, pB, pC]
  repeat ((fail_if_success with_reducible show wA ..); (fail_if_success with_reducible show wB ..); (fail_if_success (with_reducible show Code.wp _ (Code.cond _ _ _) _ _ _)); go_step)
  refine wp_cond_true (by first | rfl | exact congrArg Value.bool (decide_eq_true (by omega))) ?_
  skip
  repeat ((fail_if_success with_reducible show wA ..); (fail_if_success with_reducible show wB ..); go_step)
  refine wp_region_B (n := 3) 2 (by kernel_rfl) rfl hE3 ?_
  intro w4 hb4 hE4
  clear hE3
  refine wpB_take (i := 0) (by kernel_rfl) rfl (by kernel_rfl) (fun _ _ _ h => h) rfl (v_sliceAll rfl rfl Try.underlying22 (by kernel_rfl)) ?_
  simp only [Act.put, pA, pB, pC]
  refine wpB_take (i := 1) (by kernel_rfl) rfl (by kernel_rfl) (fun _ _ _ h => h) rfl (v_sliceArrL rfl rfl rfl Try.underlying29 (by kernel_rfl) (by decide)) ?_
  simp only [Act.put, pA, pB, pC]
  refine wpB_step (i := 2) (by kernel_rfl) rfl (st_copyAll (i := 0) (m := l.drop 32) hE4 rfl rfl rfl rfl (HP.out _ _ _ (hE4.get (i := 2) rfl)) h32 (by decide) Try.underlying24 (by kernel_rfl) rfl (by rw [ints_size]; rfl) ?_)
  intro w5 hE5
  clear hE4
  simp only [List.set_cons_zero] at hE5
  refine ⟨fun h => absurd h (by decide), ?_⟩
  simp only [Act.put, pA, pB, pC]
  refine wpB_done (by kernel_rfl) ?_ _
  repeat ((fail_if_success with_reducible show wA ..); (fail_if_success with_reducible show wB ..); go_step)
  refine wv (v_load (i := 0) hE5 rfl rfl rfl Try.underlying22 rfl (szA (n := 32))) ?_
  simp only [Act.put, pA, pB, pC]
  refine wl_step (st_store (i := 1) hE5 rfl rfl rfl rfl rfl (szA (n := 32)) (by first | (simp only [ints_size, digs_length, List.length_replicate, List.length_cons, List.length_nil]; done) | (simp only [ints_size, digs_length, List.length_replicate, List.length_cons, List.length_nil, List.length_set, List.length_append]; omega) | rfl) (by first | exact ints_one _ _ | decide | rfl | simp [*]) ?_)
  intro w6 hE6
  clear hE5
  simp only [pB, pC] at hE6
  simp only [Act.put, pA, pB, pC]
  repeat ((fail_if_success with_reducible show wA ..); (fail_if_success with_reducible show wB ..); go_step)
  refine bodyPost_ret (results_cell_row rfl _ _ _ _ _ (0, 0) _ rfl (hE6.get (i := 1) rfl) Try.underlying22 rfl (szA (n := 32))) rfl ⟨rfl, hE6.below⟩

set_option maxHeartbeats 8000000 in
theorem split_any {s : List Nat} (hs : s.length = 32) (ds : Digs 256 s) (w : World) : Gives 11 #[.agg (ints .u8 s)] w (.tuple #[.agg (ints .u8 (numL s)), .agg (ints .u8 (saltL s))]) := by
  have HS : Hid (∀ (w : World) (v : Value), RdSs .u8 [s] v w → Gives 22 #[v] w (.agg (ints .u8 (sum512 s)))) := Lib.hid (fun w v hv => one_sum512 hv ds (by omega))
  have e1 : numL s = clampL (sum512 s) := rfl
  have e2 : saltL s = (sum512 s).drop 32 := rfl
  have h64 := sum512_len s
  have dH := sum512_Digs s
  rw [e1, e2]
  obtain ⟨H, hH⟩ : ∃ H, sum512 s = H := ⟨_, rfl⟩
  rw [hH] at HS h64 dH ⊢
  have hd0 := dH.getD (by decide) 0
  have hd31 := dH.getD (by decide) 31
  have hLl : (H.take 32).length = 32 := by rw [List.length_take]; omega
  have hg0 : (H.take 32).getD 0 0 = H.getD 0 0 := by rw [List.getD_eq_getElem?_getD, List.getElem?_take, if_pos (by decide), ← List.getD_eq_getElem?_getD]
  have hg31 : ((H.take 32).set 0 (H.getD 0 0 / 8 * 8)).getD 31 0 = H.getD 31 0 := by
    rw [List.getD_eq_getElem?_getD, List.getElem?_set_ne (by decide), List.getElem?_take, if_pos (by decide), ← List.getD_eq_getElem?_getD]
  have hcl : ((H.take 32).set 0 (H.getD 0 0 / 8 * 8)).set 31 (H.getD 31 0 % 64 + 64) = clampL H := rfl
  have h32 := clampL_len h64
  have hdl : (H.drop 32).length = 32 := by rw [List.length_drop]; omega
  have HL := Lib.hid (fun w => half_lo h64 w)
  have HH := Lib.hid (fun w => half_hi h64 w)
  obtain ⟨x0, hx0⟩ : ∃ x, H.getD 0 0 = x := ⟨_, rfl⟩
  obtain ⟨x1, hx1⟩ : ∃ x, H.getD 31 0 = x := ⟨_, rfl⟩
  obtain ⟨L, hL⟩ : ∃ L, H.take 32 = L := ⟨_, rfl⟩
  obtain ⟨S, hS⟩ : ∃ S, H.drop 32 = S := ⟨_, rfl⟩
  obtain ⟨C, hC⟩ : ∃ C, clampL H = C := ⟨_, rfl⟩
  rw [hx0] at hd0 hg0 hg31 hcl
  rw [hx1] at hd31 hg31 hcl
  rw [hL] at hLl hg0 hg31 hcl HL
  rw [hS] at hdl HH
  rw [hC] at hcl h32
  rw [hS, hC]
  have b1 : x1 % 128 < 2 ^ IntKind.u8.bits := by show _ < 256; omega
  have b2 : 64 < 2 ^ IntKind.u8.bits := by decide
  have hLs : (L.set 0 (x0 / 8 * 8)).length = 32 := by rw [List.length_set]; exact hLl
  have G0 := Lib.hid hg0
  have G1 := Lib.hid hg31
  have E1 := Lib.hid (or64 hd31)
  have HC := Lib.hid hcl
  clear e1 e2 dH hH hg0 hg31 hcl hx0 hx1 hL hS hC ds
  have hE0 := Env.nil w
  go_enter Try.func11, Try.ntmps11
  repeat ((fail_if_success with_reducible show wA ..); (fail_if_success with_reducible show wB ..); go_step)
  refine wl_step (st_boxA hE0 rfl rfl rfl ?_)
  intro g0 w1 hb1 hE1
  clear hE0
  simp only [Act.put, pA, pB, pC]
  refine wl_step (st_alloc (zs := ints .u8 (List.replicate 32 0)) hE1 rfl rfl (fun w => by kernel_rfl) ?_)
  intro g1 w2 hb2 hE2
  clear hE1
  simp only [Act.put, pA, pB, pC]
  refine wl_step (st_alloc (zs := ints .u8 (List.replicate 32 0)) hE2 rfl rfl (fun w => by kernel_rfl) ?_)
  intro g2 w3 hb3 hE3
  clear hE2
  simp only [Act.put, pA, pB, pC]
  repeat ((fail_if_success with_reducible show wA ..); (fail_if_success with_reducible show wB ..); go_step)
  refine wv (v_sliceAll rfl rfl Try.underlying23 (by kernel_rfl)) ?_
  simp only [Act.put, pA, pB, pC]
  refine wl_step (st_buildVs [Value.slice (some ⟨g0, 0, none⟩) 32 32] (one_slice) hE3 rfl rfl (by first | rfl | (simp only [List.map_cons, List.map_nil, List.zipIdx_cons, List.zipIdx_nil]; rfl)) rfl (by decide) (by decide) Try.underlying47 (by kernel_rfl) Try.zeroValue24 ?_)
  intro g3 w4 hb4 hE4
  clear hE3
  simp only [Act.put, pA, pB, pC]
  refine wl_step (st_gives hE4 rfl (run_call rfl Try.call22) (HS.out _ _ (RdSs.one (hE4.get (i := 0) rfl) (RdS.whole (hE4.get (i := 3) rfl) hs))) ?_)
  intro w5 hb5 hE5
  clear hE4
  simp only [Act.put, pA, pB, pC]
  refine wl_step (st_alloc (zs := ints .u8 (List.replicate 64 0)) hE5 rfl rfl (fun w => by kernel_rfl) ?_)
  intro g4 w6 hb6 hE6
  clear hE5
  simp only [Act.put, pA, pB, pC]
  refine wl_step (st_store (i := 0) hE6 rfl rfl rfl rfl rfl (szA (n := 64)) (by first | (simp only [ints_size, digs_length, List.length_replicate, List.length_cons, List.length_nil]; done) | (simp only [ints_size, digs_length, List.length_replicate, List.length_cons, List.length_nil, List.length_set, List.length_append]; omega) | rfl) (by first | exact ints_one _ _ | decide | rfl | simp [*]) ?_)
  intro w7 hE7
  clear hE6
  simp only [pB, pC] at hE7
  simp only [Act.put, pA, pB, pC]
  repeat ((fail_if_success with_reducible show wA ..); (fail_if_success with_reducible show wB ..); go_step)
  refine wv (v_load (i := 0) hE7 rfl rfl rfl Try.underlying29 rfl (szA (n := 64))) ?_
  simp only [Act.put, pA, pB, pC]
  refine wl_step (st_gives hE7 rfl (run_call rfl Try.call17) (HL.out _) ?_)
  intro w8 hb8 hE8
  clear hE7
  simp only [Act.put, pA, pB, pC]
  refine wl_step (st_alloc (zs := ints .u8 (List.replicate 32 0)) hE8 rfl rfl (fun w => by kernel_rfl) ?_)
  intro g5 w9 hb9 hE9
  clear hE8
  simp only [Act.put, pA, pB, pC]
  refine wl_step (st_store (i := 0) hE9 rfl rfl rfl rfl rfl (szA (n := 32)) (by first | (simp only [ints_size, digs_length, List.length_replicate, List.length_cons, List.length_nil]; done) | (simp only [ints_size, digs_length, List.length_replicate, List.length_cons, List.length_nil, List.length_set, List.length_append]; omega) | rfl) (by first | exact ints_one _ _ | decide | rfl | simp [*]) ?_)
  intro w10 hE10
  clear hE9
  simp only [pB, pC] at hE10
  simp only [Act.put, pA, pB, pC]
  repeat ((fail_if_success with_reducible show wA ..); (fail_if_success with_reducible show wB ..); go_step)
  refine wv (v_indexA0 (j := 0) rfl rfl rfl Try.underlying22 (by kernel_rfl) (by first | assumption | omega)) ?_
  simp only [Act.put, pA, pB, pC]
  refine wv (v_cell rfl rfl Try.underlying5 rfl (Env.cellv (i := 0) hE10 rfl (ints_get? _ _ _ (by first | assumption | omega | (simp; done) | (simp; omega))))) ?_
  simp only [Act.put, pA, pB, pC]
  rw [G0.out]
  refine wv (v_andNot7 rfl rfl rfl hd0) ?_
  simp only [Act.put, pA, pB, pC]
  refine wv (v_indexA0 (j := 0) rfl rfl rfl Try.underlying22 (by kernel_rfl) (by first | assumption | omega)) ?_
  simp only [Act.put, pA, pB, pC]
  refine wl_step (st_putN (i := 0) hE10 rfl rfl rfl rfl rfl (by kernel_rfl) (by first | assumption | omega | (simp only [List.length_set, List.length_replicate]; first | assumption | omega)) ?_)
  intro w11 hE11
  clear hE10
  simp only [pB, pC] at hE11
  simp only [Act.put, pA, pB, pC]
  repeat ((fail_if_success with_reducible show wA ..); (fail_if_success with_reducible show wB ..); go_step)
  refine wv (v_indexA0 (j := 31) rfl rfl rfl Try.underlying22 (by kernel_rfl) (by first | assumption | omega)) ?_
  simp only [Act.put, pA, pB, pC]
  refine wv (v_cell rfl rfl Try.underlying5 rfl (Env.cellv (i := 0) hE11 rfl (ints_get? _ _ _ (by first | assumption | omega | (simp; done) | (simp; omega))))) ?_
  simp only [Act.put, pA, pB, pC]
  rw [G1.out]
  refine wv (v_mask (c := 127) (s := 7) (d := 128) rfl rfl rfl (by decide) (by decide) rfl (by simp only [IntKind.bits]; omega) (by decide)) ?_
  simp only [Act.put, pA, pB, pC]
  refine wv (v_bor rfl rfl rfl b1 b2 (w_or rfl b1 b2)) ?_
  simp only [Act.put, pA, pB, pC]
  rw [E1.out]
  refine wv (v_indexA0 (j := 31) rfl rfl rfl Try.underlying22 (by kernel_rfl) (by first | assumption | omega)) ?_
  simp only [Act.put, pA, pB, pC]
  refine wl_step (st_putN (i := 0) hE11 rfl rfl rfl rfl rfl (by kernel_rfl) (by first | assumption | omega | (simp only [List.length_set, List.length_replicate]; first | assumption | omega)) ?_)
  intro w12 hE12
  clear hE11
  simp only [pB, pC] at hE12
  simp only [Act.put, pA, pB, pC]
  rw [HC.out] at hE12
  repeat ((fail_if_success with_reducible show wA ..); (fail_if_success with_reducible show wB ..); go_step)
  refine wp_region_B (n := 5) 3 (by kernel_rfl) rfl hE12 ?_
  intro w13 hb13 hE13
  clear hE12
  refine wpB_take (i := 0) (by kernel_rfl) rfl (by kernel_rfl) (fun _ _ _ h => h) rfl (v_load (i := 0) hE13 rfl rfl rfl Try.underlying22 rfl (szA (n := 32))) ?_
  simp only [Act.put, pA, pB, pC]
  refine wpB_take (i := 1) (by kernel_rfl) rfl (by kernel_rfl) (fun _ _ _ h => h) rfl (v_load (i := 1) hE13 rfl rfl rfl Try.underlying29 rfl (szA (n := 64))) ?_
  simp only [Act.put, pA, pB, pC]
  refine wpB_step (i := 2) (by kernel_rfl) rfl (st_gives hE13 rfl (run_call rfl Try.call17) (HH.out _) ?_)
  intro w14 hb14 hE14
  clear hE13
  refine ⟨fun _ => hb14, ?_⟩
  simp only [Act.put, pA, pB, pC]
  refine wpB_step (i := 3) (by kernel_rfl) rfl (st_store (i := 4) hE14 rfl rfl rfl rfl rfl (szA (n := 32)) (by first | (simp only [ints_size, digs_length, List.length_replicate, List.length_cons, List.length_nil]; done) | (simp only [ints_size, digs_length, List.length_replicate, List.length_cons, List.length_nil, List.length_set, List.length_append]; omega) | rfl) (by first | exact ints_one _ _ | decide | rfl | simp [*]) ?_)
  intro w15 hE15
  clear hE14
  simp only [pB, pC] at hE15
  refine ⟨fun h => absurd h (by decide), ?_⟩
  simp only [Act.put, pA, pB, pC]
  refine wpB_step (i := 4) (by kernel_rfl) rfl (st_store (i := 3) hE15 rfl rfl rfl rfl rfl (szA (n := 32)) (by first | (simp only [ints_size, digs_length, List.length_replicate, List.length_cons, List.length_nil]; done) | (simp only [ints_size, digs_length, List.length_replicate, List.length_cons, List.length_nil, List.length_set, List.length_append]; omega) | rfl) (by first | exact ints_one _ _ | decide | rfl | simp [*]) ?_)
  intro w16 hE16
  clear hE15
  simp only [pB, pC] at hE16
  refine ⟨fun h => absurd h (by decide), ?_⟩
  simp only [Act.put, pA, pB, pC]
  refine wpB_done (by kernel_rfl) ?_ _
  repeat ((fail_if_success with_reducible show wA ..); (fail_if_success with_reducible show wB ..); go_step)
  refine bodyPost_ret (results_cc rfl _ _ _ _ _ _ _ _ (0, 0) (0, 0) _ _ rfl (hE16.get (i := 4) rfl) Try.underlying22 rfl (szA (n := 32)) rfl (hE16.get (i := 3) rfl) Try.underlying22 rfl (szA (n := 32))) rfl ⟨rfl, hE16.below⟩

set_option maxHeartbeats 4000000 in
theorem hash_any {x y : List Nat} {rows : List (List Nat)} {v u r : Value} {w : World} (hx : RdS .u8 x v w) (hy : RdS .u8 y u w) (hr : RdSs .u8 rows r w) (dx : Digs 256 x) (dy : Digs 256 y) (dr : ∀ l ∈ rows, Digs 256 l) (hl : x.length + y.length + rows.flatten.length < 549755813888) (hn : rows.length < 1099511627776) :
    Gives 15 #[v, u, r] w (.agg (ints .u8 (hashL (x ++ y ++ rows.flatten)))) := by
  obtain ⟨i1, hi1, hz1, hs1, hby1⟩ : ∃ i, Try.prog.info? 24 = some i ∧ i.zero = some (.slice none 0 0) ∧ i.size = 1 ∧ i.bytes = 24 := by
    have h : (Try.prog.info? 24).map (fun i => (i.zero, i.size, i.bytes)) = some (some (.slice none 0 0), 1, 24) := by kernel_rfl
    exact info_parts h
  have Hi := Lib.hid hi1
  have Hz := Lib.hid hz1
  have Hs := Lib.hid hs1
  have Hby := Lib.hid hby1
  have hfl : ([x, y] ++ rows).flatten = x ++ y ++ rows.flatten := by simp
  have hlen : ([x, y] ++ rows).flatten.length < 549755813888 := by rw [hfl, List.length_append, List.length_append]; exact hl
  have hcnt : ([x, y] ++ rows).length < 9223372036854775808 := by rw [List.length_append]; simp only [List.length_cons, List.length_nil]; omega
  have hdd : ∀ l ∈ [x, y] ++ rows, Digs 256 l := fun l h => by
    rcases List.mem_append.1 h with h | h
    · simp only [List.mem_cons, List.not_mem_nil, or_false] at h
      rcases h with rfl | rfl <;> assumption
    · exact dr l h
  have HS : Hid (∀ (w : World) (v : Value), RdSs .u8 ([x, y] ++ rows) v w → Gives 22 #[v] w (.agg (ints .u8 (sum512 (x ++ y ++ rows.flatten))))) := Lib.hid (fun w v hv => by
    have h := Sum512_any hv hdd hlen hcnt
    rwa [hfl] at h)
  have hvs : ∀ j (hj : j < [x, y].length), ∃ z, [v, u][j]? = some z ∧ RdS .u8 [x, y][j] z w := fun j hj => by
    match j, hj with
    | 0, _ => exact ⟨v, rfl, hx⟩
    | 1, _ => exact ⟨u, rfl, hy⟩
  have hone : ∀ z ∈ [v, u], z.cells = #[z] := fun z hz => by
    simp only [List.mem_cons, List.not_mem_nil, or_false] at hz
    obtain ⟨p1, c1, rfl, -⟩ := hx
    obtain ⟨p2, c2, rfl, -⟩ := hy
    rcases hz with rfl | rfl <;> rfl
  have h63 : ([v, u] : List Value).length + rows.length ≤ maxLen := by simp only [List.length_cons, List.length_nil, maxLen]; omega
  have hft : (([v, u] : List Value).length + rows.length) * 24 ≤ 140737488355328 := by simp only [List.length_cons, List.length_nil]; omega
  have Hvs := Lib.hid hvs
  have Hone := Lib.hid hone
  have Hr := Lib.hid hr
  have h64 := sum512_len (x ++ y ++ rows.flatten)
  have HR := Lib.hid (fun w => Reduce_any _ h64 (sum512_Digs (x ++ y ++ rows.flatten)) w)
  have h32 := hashL_len (x ++ y ++ rows.flatten)
  have eh : digs 256 32 (val 256 (sum512 (x ++ y ++ rows.flatten)) % q) = hashL (x ++ y ++ rows.flatten) := rfl
  rw [eh] at HR
  obtain ⟨M, hM⟩ : ∃ M, x ++ y ++ rows.flatten = M := ⟨_, rfl⟩
  rw [hM] at HS h64 HR h32 ⊢
  clear hi1 hz1 hs1 hby1 hfl hlen hcnt hdd hvs hone hr hx hy dx dy dr eh hM hl
  have hE0 := Env.nil w
  go_enter Try.func15, Try.ntmps15
  repeat ((fail_if_success with_reducible show wA ..); (fail_if_success with_reducible show wB ..); go_step)
  refine wl_step (st_alloc (zs := ints .u8 (List.replicate 32 0)) hE0 rfl rfl (fun w => by kernel_rfl) ?_)
  intro g0 w1 hb1 hE1
  clear hE0
  simp only [Act.put, pA, pB, pC]
  repeat ((fail_if_success with_reducible show wA ..); (fail_if_success with_reducible show wB ..); go_step)
  refine wv (v_moveT (.inl rfl) rfl) ?_
  simp only [Act.put, pA, pB, pC]
  refine wv (v_moveT (.inl rfl) rfl) ?_
  simp only [Act.put, pA, pB, pC]
  refine wl_step (st_buildVs [v, u] (Hone.out) hE1 rfl rfl (by first | rfl | (simp only [List.map_cons, List.map_nil, List.zipIdx_cons, List.zipIdx_nil]; rfl)) rfl (by decide) (by decide) Try.underlying47 (by kernel_rfl) Try.zeroValue24 ?_)
  intro g1 w2 hb2 hE2
  clear hE1
  simp only [Act.put, pA, pB, pC]
  refine wv (v_moveT (.inl rfl) rfl) ?_
  simp only [Act.put, pA, pB, pC]
  refine wl_step (st_appendSs (r0 := [x, y]) (rows := rows) hE2 rfl rfl Try.underlying47 Hi.out Hz.out Hs.out rfl Hby.out rfl rfl rfl Hvs.out Hr.out h63 hft ?_)
  intro v3 w3 hE3 hrs
  clear hE2
  simp only [Act.put, pA, pB, pC]
  refine wl_step (st_gives hE3 rfl (run_call rfl Try.call22) (HS.out _ _ hrs) ?_)
  intro w4 hb4 hE4
  clear hE3
  simp only [Act.put, pA, pB, pC]
  refine wl_step (st_gives hE4 rfl (run_call rfl Try.call33) (HR.out _) ?_)
  intro w5 hb5 hE5
  clear hE4
  simp only [Act.put, pA, pB, pC]
  refine wl_step (st_store (i := 0) hE5 rfl rfl rfl rfl rfl (szA (n := 32)) (by first | (simp only [ints_size, digs_length, List.length_replicate, List.length_cons, List.length_nil]; done) | (simp only [ints_size, digs_length, List.length_replicate, List.length_cons, List.length_nil, List.length_set, List.length_append]; omega) | rfl) (by first | exact ints_one _ _ | decide | rfl | simp [*]) ?_)
  intro w6 hE6
  clear hE5
  simp only [pB, pC] at hE6
  simp only [Act.put, pA, pB, pC]
  repeat ((fail_if_success with_reducible show wA ..); (fail_if_success with_reducible show wB ..); go_step)
  refine bodyPost_ret (results_cell_row rfl _ _ _ _ _ (0, 0) _ rfl (hE6.get (i := 0) rfl) Try.underlying22 rfl (szA (n := 32))) rfl ⟨rfl, hE6.below⟩
end Go.Proofs.Ythddoelflmoedaa
namespace Go.Proofs.Ythddoelflmoedaa
open Go.RowKit
set_option maxRecDepth 100000
set_option linter.unusedVariables false
set_option linter.unusedSimpArgs false

/-- Bytes of which the highest bit is struck. -/
theorem strike {b : List Nat} (hb : b.length = 32) (db : Digs 256 b) : ∃ T, b.getD 31 0 = T ∧ T < 256 ∧ (b.set 31 (T % 128)).length = 32 ∧ Digs 256 (b.set 31 (T % 128)) ∧
    val 256 (b.set 31 (T % 128)) = val 256 b % 57896044618658097711785492504343953926634992332820282019728792003956564819968 ∧ T / 128 = val 256 b / 57896044618658097711785492504343953926634992332820282019728792003956564819968 := by
  have h1 := val_div_mod db (by decide) 31
  have hV := val_lt db
  rw [hb] at hV
  have hlt : val 256 b / 256 ^ 31 < 256 := Nat.div_lt_of_lt_mul (by rw [← Nat.pow_succ]; exact hV)
  rw [Nat.mod_eq_of_lt hlt] at h1
  have hset := val_set (B := 256) b 31 (val 256 b / 256 ^ 31 % 128) (by omega)
  have hg : b[31]'(by omega) = val 256 b / 256 ^ 31 := by
    rw [h1, List.getD_eq_getElem?_getD, List.getElem?_eq_getElem (by omega)]
    rfl
  rw [hg] at hset
  refine ⟨_, h1.symm, hlt, by rw [List.length_set]; exact hb, db.set _ (by omega), ?_, ?_⟩
  · rw [half_pow, Nat.mod_mul]
    have h2 := Nat.div_add_mod (val 256 b) (256 ^ 31)
    generalize val 256 b / 256 ^ 31 = T at *
    generalize val 256 b % 256 ^ 31 = R at *
    generalize val 256 (b.set 31 (T % 128)) = W at *
    generalize (256 : Nat) ^ 31 = M at *
    omega
  · rw [half_pow, ← Nat.div_div_eq_div_mul]

theorem fk_of {c : List Nat} {n : Nat} (h : fk c = kk pN n) : fval c % pN = n % pN := kk_iff.1 h
set_option maxRecDepth 100000 in
set_option maxHeartbeats 16000000 in
theorem PDecode_walk {b : List Nat} (hb : b.length = 32) (db : Digs 256 b) (V : Nat) (hV : val 256 b = V) :
    (∀ P, encN P = V → ∃ c, PRep c P ∧ ∀ w, Gives 18 #[.agg (ints .u8 b)] w (.tuple #[pt c, .bool true])) ∧
    (¬ isPt V → ∀ w, Gives 18 #[.agg (ints .u8 b)] w (.tuple #[pt zeroL, .bool false])) := by
  obtain ⟨T, ht, hT, lb', db', hv, ho⟩ := strike hb db
  rw [hV] at hv ho
  have hVl : V < 115792089237316195423570985008687907853269984665640564039457584007913129639936 := by
    have := val_lt db
    rw [hb, hV] at this
    exact this
  obtain ⟨b', hbe⟩ : ∃ b', b.set 31 (T % 128) = b' := ⟨_, rfl⟩
  rw [hbe] at lb' db' hv
  have hC := fun w => Canonical_any lb' db' w
  have hO := fun w => Of_any b' lb' db' w
  rw [hv] at hC hO
  obtain ⟨Y, hYe⟩ : ∃ Y, V % 57896044618658097711785492504343953926634992332820282019728792003956564819968 = Y := ⟨_, rfl⟩
  obtain ⟨o, hoe⟩ : ∃ o, V / 57896044618658097711785492504343953926634992332820282019728792003956564819968 = o := ⟨_, rfl⟩
  have hpt : isPt V ↔ Y < pN ∧ (rootN (uN Y) (vN Y)).2 = true ∧ ¬ (o = 1 ∧ (rootN (uN Y) (vN Y)).1 = 0) := by
    unfold isPt
    rw [hYe, hoe]
  have hyes : ∀ P, encN P = V → isPt V ∧ P.y = kk pN Y ∧ P.x = kk pN (xOf Y o) := fun P hP => by
    have hi : isPt V := hP ▸ of_pt P
    obtain ⟨P', h1, h2, h3⟩ := pt_of hVl hi
    obtain rfl : P' = P := encN_inj (h1.trans hP.symm)
    rw [hYe] at h2 h3
    rw [hoe] at h3
    exact ⟨hi, by rw [← h2]; exact kk_all _, by rw [← h3]; exact kk_all _⟩
  rw [hpt] at hyes ⊢
  rw [hYe] at hC hO
  rw [hoe] at ho
  have fy := digs_Fe Y
  have ey : Y < pN → fk (digs 2251799813685248 5 Y) = kk pN Y := fun h => of_fk h
  obtain ⟨y, hye⟩ : ∃ y, digs 2251799813685248 5 Y = y := ⟨_, rfl⟩
  rw [hye] at fy ey hO
  obtain ⟨f1, e1, G1⟩ := Small_K (n := 1) (by decide)
  rw [kk_one] at e1
  obtain ⟨sq, fsq, esq, Gsq⟩ := Mul_K fy fy
  obtain ⟨u, fu, eu, Gu⟩ := Sub_K fsq f1
  obtain ⟨d, fd, ed, Gd⟩ := once_any
  obtain ⟨sd, fsd, esd, Gsd⟩ := Mul_K fsq fd
  obtain ⟨v, fv, ev, Gv⟩ := Add_K fsd f1
  obtain ⟨x, fx, ex, Gx⟩ := Root_any fu fv
  obtain ⟨nx, fnx, enx, Gnx⟩ := Neg_K fx
  have hZ := fun w => Zero_any fx w
  have hroot : Y < pN → rootN (fval u) (fval v) = rootN (uN Y) (vN Y) := fun h => by
    have hy := ey h
    refine rootN_congr (fk_of ?_) (fk_of ?_)
    · rw [eu, esq, hy, e1, kk_uN]
    · rw [ev, esd, esq, hy, ed, e1, kk_vN]
      grobner
  have hrl := rootN_lt (fval u) (fval v)
  rw [ex] at hZ
  have exk : fk x = kk pN (rootN (fval u) (fval v)).1 := by
    unfold fk
    exact kk_of (by rw [ex, Nat.mod_eq_of_lt hrl])
  have l1 := fsq.1
  have l2 := fu.1
  have l3 := fv.1
  have l4 := fx.1
  have l5 := fnx.1
  have l6 := fy.1
  have l7 := f1.1
  have lz : zeroL.length = 20 := rfl
  have Ht := Lib.hid ht
  have Hbe := Lib.hid hbe
  have HC := Lib.hid hC
  have HO := Lib.hid hO
  have H1 := Lib.hid G1
  have Hsq := Lib.hid Gsq
  have Hu := Lib.hid Gu
  have Hd := Lib.hid Gd
  have Hsd := Lib.hid Gsd
  have Hv := Lib.hid Gv
  have Hnx := Lib.hid Gnx
  have HR := Lib.hid hroot
  have Hyes := Lib.hid hyes
  have Ey := Lib.hid ey
  have Fy := Lib.hid fy
  have Fx := Lib.hid fx
  have Fnx := Lib.hid fnx
  have Enx := Lib.hid enx
  have Exk := Lib.hid exk
  have hord : decide (T / 128 = 1) = decide (o = 1) := by rw [ho]
  have Hod := Lib.hid hord
  clear ht hbe hC hO G1 Gsq Gu Gd Gsd Gv Gnx hroot hyes ey fy fx fnx enx exk hord ho hv hpt hYe hoe hye db db' hV hVl e1 f1 esq fsq eu fu ed fd esd fsd ev fv ex hrl
  obtain ⟨r, hr⟩ : ∃ r, rootN (fval u) (fval v) = r := ⟨_, rfl⟩
  rw [hr] at HR Exk Gx hZ
  have HX := Lib.hid Gx
  have HZ := Lib.hid hZ
  clear Gx hZ hr
  by_cases hY : Y < pN
  · have hR := HR.out hY
    rw [← hR] at Hyes ⊢
    have hCw := HC.out
    rw [decide_eq_true hY] at hCw
    have HC1 := Lib.hid hCw
    clear hCw HC
    cases hok : r.2 with
    | false =>
      refine ⟨fun P hP => ?_, fun _ w => ?_⟩
      · have := (Hyes.out P hP).1.2.1
        rw [hok] at this
        cases this
      · have hXw := HX.out
        rw [hok] at hXw
        have HX1 := Lib.hid hXw
        clear hXw HX Hyes hR hok hY
        have hE0 := Env.nil w
        go_enter Try.func18, Try.ntmps18
        repeat ((fail_if_success with_reducible show wA ..); (fail_if_success with_reducible show wB ..); go_step)
        refine wl_step (st_boxA hE0 rfl rfl rfl ?_)
        intro g0 w1 hb1 hE1
        clear hE0
        simp only [Act.put, pA, pB, pC]
        refine wl_step (st_alloc (zs := ints .u64 (List.replicate 20 0)) hE1 rfl rfl (fun w => by kernel_rfl) ?_)
        intro g1 w2 hb2 hE2
        clear hE1
        simp only [Act.put, pA, pB, pC]
        refine wv (v_moveC (.inr rfl)) ?_
        simp only [Act.put, pA, pB, pC]
        repeat ((fail_if_success with_reducible show wA ..); (fail_if_success with_reducible show wB ..); go_step)
        refine wv (v_indexA0 (j := 31) rfl rfl rfl Try.underlying22 (by kernel_rfl) (by first | assumption | omega)) ?_
        simp only [Act.put, pA, pB, pC]
        refine wv (v_cell rfl rfl Try.underlying5 rfl (Env.cellv (i := 1) hE2 rfl (ints_get? _ _ _ (by first | assumption | omega | (simp; done) | (simp; omega))))) ?_
        simp only [Act.put, pA, pB, pC]
        rw [Ht.out]
        refine wv (v_shrC (s := 7) (d := 128) rfl rfl rfl (by decide) (by decide)) ?_
        simp only [Act.put, pA, pB, pC]
        refine wv (v_eql (n := 1) rfl rfl rfl) ?_
        simp only [Act.put, pA, pB, pC]
        rw [Hod.out]
        refine wv (v_moveT (.inr rfl) rfl) ?_
        simp only [Act.put, pA, pB, pC]
        repeat ((fail_if_success with_reducible show wA ..); (fail_if_success with_reducible show wB ..); go_step)
        refine wv (v_indexA0 (j := 31) rfl rfl rfl Try.underlying22 (by kernel_rfl) (by first | assumption | omega)) ?_
        simp only [Act.put, pA, pB, pC]
        refine wv (v_cell rfl rfl Try.underlying5 rfl (Env.cellv (i := 1) hE2 rfl (ints_get? _ _ _ (by first | assumption | omega | (simp; done) | (simp; omega))))) ?_
        simp only [Act.put, pA, pB, pC]
        rw [Ht.out]
        refine wv (v_mask (c := 127) (s := 7) (d := 128) rfl rfl rfl (by decide) (by decide) rfl (by simp only [IntKind.bits]; omega) (by decide)) ?_
        simp only [Act.put, pA, pB, pC]
        refine wv (v_indexA0 (j := 31) rfl rfl rfl Try.underlying22 (by kernel_rfl) (by first | assumption | omega)) ?_
        simp only [Act.put, pA, pB, pC]
        refine wl_step (st_putN (i := 1) hE2 rfl rfl rfl rfl rfl (by kernel_rfl) (by first | assumption | omega | (simp only [List.length_set, List.length_replicate]; first | assumption | omega)) ?_)
        intro w3 hE3
        clear hE2
        simp only [pB, pC] at hE3
        simp only [Act.put, pA, pB, pC]
        rw [Hbe.out] at hE3
        repeat ((fail_if_success with_reducible show wA ..); (fail_if_success with_reducible show wB ..); go_step)
        refine wv (v_load (i := 1) hE3 rfl rfl rfl Try.underlying22 rfl (szA (n := 32))) ?_
        simp only [Act.put, pA, pB, pC]
        refine wl_step (st_gives hE3 rfl (run_call rfl Try.call39) (HC1.out _) ?_)
        intro w4 hb4 hE4
        clear hE3
        simp only [Act.put, pA, pB, pC]
        refine wv (v_not rfl rfl) ?_
        simp only [Act.put, pA, pB, pC]
        repeat ((fail_if_success with_reducible show wA ..); (fail_if_success with_reducible show wB ..); (fail_if_success (with_reducible show Code.wp _ (Code.cond _ _ _) _ _ _)); go_step)
        refine wp_cond_false (by first | rfl | exact congrArg Value.bool (decide_eq_false (by omega))) ?_
        skip
        repeat ((fail_if_success with_reducible show wA ..); (fail_if_success with_reducible show wB ..); go_step)
        refine wl_step (st_gives hE4 rfl (run_call rfl Try.call40) (H1.out _) ?_)
        intro w5 hb5 hE5
        clear hE4
        simp only [Act.put, pA, pB, pC]
        refine wl_step (st_alloc (zs := ints .u64 (List.replicate 5 0)) hE5 rfl rfl (fun w => by kernel_rfl) ?_)
        intro g2 w6 hb6 hE6
        clear hE5
        simp only [Act.put, pA, pB, pC]
        refine wl_step (st_store (i := 0) hE6 rfl rfl rfl rfl rfl (szA (n := 5)) (by first | (simp only [ints_size, digs_length, List.length_replicate, List.length_cons, List.length_nil]; done) | (simp only [ints_size, digs_length, List.length_replicate, List.length_cons, List.length_nil, List.length_set, List.length_append]; omega) | rfl) (by first | exact ints_one _ _ | decide | simp [*]) ?_)
        intro w7 hE7
        clear hE6
        simp only [pB, pC] at hE7
        simp only [Act.put, pA, pB, pC]
        repeat ((fail_if_success with_reducible show wA ..); (fail_if_success with_reducible show wB ..); go_step)
        refine wv (v_load (i := 2) hE7 rfl rfl rfl Try.underlying22 rfl (szA (n := 32))) ?_
        simp only [Act.put, pA, pB, pC]
        refine wl_step (st_gives hE7 rfl (run_call rfl Try.call24) (HO.out _) ?_)
        intro w8 hb8 hE8
        clear hE7
        simp only [Act.put, pA, pB, pC]
        refine wl_step (st_alloc (zs := ints .u64 (List.replicate 5 0)) hE8 rfl rfl (fun w => by kernel_rfl) ?_)
        intro g3 w9 hb9 hE9
        clear hE8
        simp only [Act.put, pA, pB, pC]
        refine wl_step (st_store (i := 0) hE9 rfl rfl rfl rfl rfl (szA (n := 5)) (by first | (simp only [ints_size, digs_length, List.length_replicate, List.length_cons, List.length_nil]; done) | (simp only [ints_size, digs_length, List.length_replicate, List.length_cons, List.length_nil, List.length_set, List.length_append]; omega) | rfl) (by first | exact ints_one _ _ | decide | simp [*]) ?_)
        intro w10 hE10
        clear hE9
        simp only [pB, pC] at hE10
        simp only [Act.put, pA, pB, pC]
        repeat ((fail_if_success with_reducible show wA ..); (fail_if_success with_reducible show wB ..); go_step)
        refine wv (v_load (i := 0) hE10 rfl rfl rfl Try.underlying41 rfl (szA (n := 5))) ?_
        simp only [Act.put, pA, pB, pC]
        refine wv (v_load (i := 0) hE10 rfl rfl rfl Try.underlying41 rfl (szA (n := 5))) ?_
        simp only [Act.put, pA, pB, pC]
        refine wl_step (st_gives hE10 rfl (run_call rfl Try.call30) (Hsq.out _) ?_)
        intro w11 hb11 hE11
        clear hE10
        simp only [Act.put, pA, pB, pC]
        refine wl_step (st_alloc (zs := ints .u64 (List.replicate 5 0)) hE11 rfl rfl (fun w => by kernel_rfl) ?_)
        intro g4 w12 hb12 hE12
        clear hE11
        simp only [Act.put, pA, pB, pC]
        refine wl_step (st_store (i := 0) hE12 rfl rfl rfl rfl rfl (szA (n := 5)) (by first | (simp only [ints_size, digs_length, List.length_replicate, List.length_cons, List.length_nil]; done) | (simp only [ints_size, digs_length, List.length_replicate, List.length_cons, List.length_nil, List.length_set, List.length_append]; omega) | rfl) (by first | exact ints_one _ _ | decide | simp [*]) ?_)
        intro w13 hE13
        clear hE12
        simp only [pB, pC] at hE13
        simp only [Act.put, pA, pB, pC]
        repeat ((fail_if_success with_reducible show wA ..); (fail_if_success with_reducible show wB ..); go_step)
        refine wp_region_env 13 (by kernel_rfl) (by kernel_rfl) (fun _ _ d _ _ h => by cases d <;> exact h) hE13 ?_
        refine hv (fun _ hW => (v_load (i := 0) hW rfl rfl rfl Try.underlying41 rfl (szA (n := 5)))) ?_
        simp only [Act.put, pA, pB, pC]
        refine hv (fun _ hW => (v_load (i := 2) hW rfl rfl rfl Try.underlying41 rfl (szA (n := 5)))) ?_
        simp only [Act.put, pA, pB, pC]
        refine headRun_call (fun w1 => run_call rfl Try.call42) (fun w1 hW => Hu.out _) ?_
        simp only [Act.put, pA, pB, pC]
        refine hv (fun _ hW => (v_load (i := 0) hW rfl rfl rfl Try.underlying41 rfl (szA (n := 5)))) ?_
        simp only [Act.put, pA, pB, pC]
        refine headRun_call (fun w1 => run_call rfl Try.call43) (fun w1 hW => Hd.out _) ?_
        simp only [Act.put, pA, pB, pC]
        refine headRun_call (fun w1 => run_call rfl Try.call30) (fun w1 hW => Hsd.out _) ?_
        simp only [Act.put, pA, pB, pC]
        refine hv (fun _ hW => (v_load (i := 2) hW rfl rfl rfl Try.underlying41 rfl (szA (n := 5)))) ?_
        simp only [Act.put, pA, pB, pC]
        refine headRun_call (fun w1 => run_call rfl Try.call44) (fun w1 hW => Hv.out _) ?_
        simp only [Act.put, pA, pB, pC]
        refine headRun_call (fun w1 => run_call rfl Try.call41) (fun w1 hW => HX1.out _) ?_
        simp only [Act.put, pA, pB, pC]
        refine hv (fun _ hW => (v_moveT (.inl rfl) rfl)) ?_
        simp only [Act.put, pA, pB, pC]
        refine hv (fun _ hW => (v_extract rfl rfl rfl)) ?_
        simp only [Act.put, pA, pB, pC]
        refine hv (fun _ hW => (v_extract rfl rfl rfl)) ?_
        simp only [Act.put, pA, pB, pC]
        refine headRun_alloc (zs := ints .u64 (List.replicate 5 0)) rfl rfl (fun w => by kernel_rfl) ?_
        simp only [Act.put, pA, pB, pC]
        refine headRun_nil (endK1 ?_)
        intro g5 w14 hE14
        clear hE13
        simp only [List.drop_succ_cons, List.drop_zero, Act.put, pA, pB, pC]
        refine wl_step (st_store (i := 0) hE14 rfl rfl rfl rfl rfl (szA (n := 5)) (by first | (simp only [ints_size, digs_length, List.length_replicate, List.length_cons, List.length_nil]; done) | (simp only [ints_size, digs_length, List.length_replicate, List.length_cons, List.length_nil, List.length_set, List.length_append]; omega) | rfl) (by first | exact ints_one _ _ | decide | simp [*]) ?_)
        intro w15 hE15
        clear hE14
        simp only [pB, pC] at hE15
        simp only [Act.put, pA, pB, pC]
        refine wv (v_moveT (.inr rfl) rfl) ?_
        simp only [Act.put, pA, pB, pC]
        repeat ((fail_if_success with_reducible show wA ..); (fail_if_success with_reducible show wB ..); go_step)
        refine wv (v_moveT (.inl rfl) rfl) ?_
        simp only [Act.put, pA, pB, pC]
        refine wv (v_not rfl rfl) ?_
        simp only [Act.put, pA, pB, pC]
        refine wv (v_moveT (.inl rfl) rfl) ?_
        simp only [Act.put, pA, pB, pC]
        refine wl_step (st_skip rfl ?_)
        simp only [Act.put, pA, pB, pC]
        refine wl_step (st_skip rfl ?_)
        simp only [Act.put, pA, pB, pC]
        refine wl_step (st_skip rfl ?_)
        simp only [Act.put, pA, pB, pC]
        refine wl_step (st_skip rfl ?_)
        simp only [Act.put, pA, pB, pC]
        refine wl_step (st_skip rfl ?_)
        simp only [Act.put, pA, pB, pC]
        refine wv (v_orT rfl rfl) ?_
        simp only [Act.put, pA, pB, pC]
        repeat ((fail_if_success with_reducible show wA ..); (fail_if_success with_reducible show wB ..); (fail_if_success (with_reducible show Code.wp _ (Code.cond _ _ _) _ _ _)); go_step)
        refine wp_cond_true (by first | rfl | exact congrArg Value.bool (decide_eq_true (by omega))) ?_
        skip
        repeat ((fail_if_success with_reducible show wA ..); (fail_if_success with_reducible show wB ..); go_step)
        refine wl_step (st_gives hE15 rfl (run_call rfl Try.call26) (PZero_any _) ?_)
        intro w16 hb16 hE16
        clear hE15
        simp only [Act.put, pA, pB, pC]
        refine wl_step (st_store (i := 4) hE16 rfl rfl rfl rfl rfl (szA (n := 20)) (by first | (simp only [ints_size, digs_length, List.length_replicate, List.length_cons, List.length_nil]; done) | (simp only [ints_size, digs_length, List.length_replicate, List.length_cons, List.length_nil, List.length_set, List.length_append]; omega) | rfl) (by first | exact ints_one _ _ | decide | simp [*]) ?_)
        intro w17 hE17
        clear hE16
        simp only [pB, pC] at hE17
        simp only [Act.put, pA, pB, pC]
        refine wv (v_moveC (.inr rfl)) ?_
        simp only [Act.put, pA, pB, pC]
        repeat ((fail_if_success with_reducible show wA ..); (fail_if_success with_reducible show wB ..); go_step)
        refine bodyPost_ret (results_ct rfl _ _ _ _ _ (0, 0) _ rfl (hE17.get (i := 4) rfl) Try.underlying43 rfl (szA (n := 20)) rfl) rfl ⟨rfl, hE17.below⟩
    | true =>
      have hXw := HX.out
      rw [hok] at hXw
      have HX1 := Lib.hid hXw
      clear hXw HX
      by_cases ho1 : o = 1
      · have hxo : xOf Y o = (pN - r.1) % pN := by unfold xOf; rw [if_pos ho1, hR]
        rw [decide_eq_true ho1] at Hod
        by_cases hr0 : r.1 = 0
        · refine ⟨fun P hP => absurd ⟨ho1, hr0⟩ (Hyes.out P hP).1.2.2, fun _ w => ?_⟩
          have hZw := HZ.out
          rw [decide_eq_true hr0] at hZw
          have HZ1 := Lib.hid hZw
          clear hZw HZ Hyes hR hok hY hxo hr0 ho1
          have hE0 := Env.nil w
          go_enter Try.func18, Try.ntmps18
          repeat ((fail_if_success with_reducible show wA ..); (fail_if_success with_reducible show wB ..); go_step)
          refine wl_step (st_boxA hE0 rfl rfl rfl ?_)
          intro g0 w1 hb1 hE1
          clear hE0
          simp only [Act.put, pA, pB, pC]
          refine wl_step (st_alloc (zs := ints .u64 (List.replicate 20 0)) hE1 rfl rfl (fun w => by kernel_rfl) ?_)
          intro g1 w2 hb2 hE2
          clear hE1
          simp only [Act.put, pA, pB, pC]
          refine wv (v_moveC (.inr rfl)) ?_
          simp only [Act.put, pA, pB, pC]
          repeat ((fail_if_success with_reducible show wA ..); (fail_if_success with_reducible show wB ..); go_step)
          refine wv (v_indexA0 (j := 31) rfl rfl rfl Try.underlying22 (by kernel_rfl) (by first | assumption | omega)) ?_
          simp only [Act.put, pA, pB, pC]
          refine wv (v_cell rfl rfl Try.underlying5 rfl (Env.cellv (i := 1) hE2 rfl (ints_get? _ _ _ (by first | assumption | omega | (simp; done) | (simp; omega))))) ?_
          simp only [Act.put, pA, pB, pC]
          rw [Ht.out]
          refine wv (v_shrC (s := 7) (d := 128) rfl rfl rfl (by decide) (by decide)) ?_
          simp only [Act.put, pA, pB, pC]
          refine wv (v_eql (n := 1) rfl rfl rfl) ?_
          simp only [Act.put, pA, pB, pC]
          rw [Hod.out]
          refine wv (v_moveT (.inr rfl) rfl) ?_
          simp only [Act.put, pA, pB, pC]
          repeat ((fail_if_success with_reducible show wA ..); (fail_if_success with_reducible show wB ..); go_step)
          refine wv (v_indexA0 (j := 31) rfl rfl rfl Try.underlying22 (by kernel_rfl) (by first | assumption | omega)) ?_
          simp only [Act.put, pA, pB, pC]
          refine wv (v_cell rfl rfl Try.underlying5 rfl (Env.cellv (i := 1) hE2 rfl (ints_get? _ _ _ (by first | assumption | omega | (simp; done) | (simp; omega))))) ?_
          simp only [Act.put, pA, pB, pC]
          rw [Ht.out]
          refine wv (v_mask (c := 127) (s := 7) (d := 128) rfl rfl rfl (by decide) (by decide) rfl (by simp only [IntKind.bits]; omega) (by decide)) ?_
          simp only [Act.put, pA, pB, pC]
          refine wv (v_indexA0 (j := 31) rfl rfl rfl Try.underlying22 (by kernel_rfl) (by first | assumption | omega)) ?_
          simp only [Act.put, pA, pB, pC]
          refine wl_step (st_putN (i := 1) hE2 rfl rfl rfl rfl rfl (by kernel_rfl) (by first | assumption | omega | (simp only [List.length_set, List.length_replicate]; first | assumption | omega)) ?_)
          intro w3 hE3
          clear hE2
          simp only [pB, pC] at hE3
          simp only [Act.put, pA, pB, pC]
          rw [Hbe.out] at hE3
          repeat ((fail_if_success with_reducible show wA ..); (fail_if_success with_reducible show wB ..); go_step)
          refine wv (v_load (i := 1) hE3 rfl rfl rfl Try.underlying22 rfl (szA (n := 32))) ?_
          simp only [Act.put, pA, pB, pC]
          refine wl_step (st_gives hE3 rfl (run_call rfl Try.call39) (HC1.out _) ?_)
          intro w4 hb4 hE4
          clear hE3
          simp only [Act.put, pA, pB, pC]
          refine wv (v_not rfl rfl) ?_
          simp only [Act.put, pA, pB, pC]
          repeat ((fail_if_success with_reducible show wA ..); (fail_if_success with_reducible show wB ..); (fail_if_success (with_reducible show Code.wp _ (Code.cond _ _ _) _ _ _)); go_step)
          refine wp_cond_false (by first | rfl | exact congrArg Value.bool (decide_eq_false (by omega))) ?_
          skip
          repeat ((fail_if_success with_reducible show wA ..); (fail_if_success with_reducible show wB ..); go_step)
          refine wl_step (st_gives hE4 rfl (run_call rfl Try.call40) (H1.out _) ?_)
          intro w5 hb5 hE5
          clear hE4
          simp only [Act.put, pA, pB, pC]
          refine wl_step (st_alloc (zs := ints .u64 (List.replicate 5 0)) hE5 rfl rfl (fun w => by kernel_rfl) ?_)
          intro g2 w6 hb6 hE6
          clear hE5
          simp only [Act.put, pA, pB, pC]
          refine wl_step (st_store (i := 0) hE6 rfl rfl rfl rfl rfl (szA (n := 5)) (by first | (simp only [ints_size, digs_length, List.length_replicate, List.length_cons, List.length_nil]; done) | (simp only [ints_size, digs_length, List.length_replicate, List.length_cons, List.length_nil, List.length_set, List.length_append]; omega) | rfl) (by first | exact ints_one _ _ | decide | simp [*]) ?_)
          intro w7 hE7
          clear hE6
          simp only [pB, pC] at hE7
          simp only [Act.put, pA, pB, pC]
          repeat ((fail_if_success with_reducible show wA ..); (fail_if_success with_reducible show wB ..); go_step)
          refine wv (v_load (i := 2) hE7 rfl rfl rfl Try.underlying22 rfl (szA (n := 32))) ?_
          simp only [Act.put, pA, pB, pC]
          refine wl_step (st_gives hE7 rfl (run_call rfl Try.call24) (HO.out _) ?_)
          intro w8 hb8 hE8
          clear hE7
          simp only [Act.put, pA, pB, pC]
          refine wl_step (st_alloc (zs := ints .u64 (List.replicate 5 0)) hE8 rfl rfl (fun w => by kernel_rfl) ?_)
          intro g3 w9 hb9 hE9
          clear hE8
          simp only [Act.put, pA, pB, pC]
          refine wl_step (st_store (i := 0) hE9 rfl rfl rfl rfl rfl (szA (n := 5)) (by first | (simp only [ints_size, digs_length, List.length_replicate, List.length_cons, List.length_nil]; done) | (simp only [ints_size, digs_length, List.length_replicate, List.length_cons, List.length_nil, List.length_set, List.length_append]; omega) | rfl) (by first | exact ints_one _ _ | decide | simp [*]) ?_)
          intro w10 hE10
          clear hE9
          simp only [pB, pC] at hE10
          simp only [Act.put, pA, pB, pC]
          repeat ((fail_if_success with_reducible show wA ..); (fail_if_success with_reducible show wB ..); go_step)
          refine wv (v_load (i := 0) hE10 rfl rfl rfl Try.underlying41 rfl (szA (n := 5))) ?_
          simp only [Act.put, pA, pB, pC]
          refine wv (v_load (i := 0) hE10 rfl rfl rfl Try.underlying41 rfl (szA (n := 5))) ?_
          simp only [Act.put, pA, pB, pC]
          refine wl_step (st_gives hE10 rfl (run_call rfl Try.call30) (Hsq.out _) ?_)
          intro w11 hb11 hE11
          clear hE10
          simp only [Act.put, pA, pB, pC]
          refine wl_step (st_alloc (zs := ints .u64 (List.replicate 5 0)) hE11 rfl rfl (fun w => by kernel_rfl) ?_)
          intro g4 w12 hb12 hE12
          clear hE11
          simp only [Act.put, pA, pB, pC]
          refine wl_step (st_store (i := 0) hE12 rfl rfl rfl rfl rfl (szA (n := 5)) (by first | (simp only [ints_size, digs_length, List.length_replicate, List.length_cons, List.length_nil]; done) | (simp only [ints_size, digs_length, List.length_replicate, List.length_cons, List.length_nil, List.length_set, List.length_append]; omega) | rfl) (by first | exact ints_one _ _ | decide | simp [*]) ?_)
          intro w13 hE13
          clear hE12
          simp only [pB, pC] at hE13
          simp only [Act.put, pA, pB, pC]
          repeat ((fail_if_success with_reducible show wA ..); (fail_if_success with_reducible show wB ..); go_step)
          refine wp_region_env 13 (by kernel_rfl) (by kernel_rfl) (fun _ _ d _ _ h => by cases d <;> exact h) hE13 ?_
          refine hv (fun _ hW => (v_load (i := 0) hW rfl rfl rfl Try.underlying41 rfl (szA (n := 5)))) ?_
          simp only [Act.put, pA, pB, pC]
          refine hv (fun _ hW => (v_load (i := 2) hW rfl rfl rfl Try.underlying41 rfl (szA (n := 5)))) ?_
          simp only [Act.put, pA, pB, pC]
          refine headRun_call (fun w1 => run_call rfl Try.call42) (fun w1 hW => Hu.out _) ?_
          simp only [Act.put, pA, pB, pC]
          refine hv (fun _ hW => (v_load (i := 0) hW rfl rfl rfl Try.underlying41 rfl (szA (n := 5)))) ?_
          simp only [Act.put, pA, pB, pC]
          refine headRun_call (fun w1 => run_call rfl Try.call43) (fun w1 hW => Hd.out _) ?_
          simp only [Act.put, pA, pB, pC]
          refine headRun_call (fun w1 => run_call rfl Try.call30) (fun w1 hW => Hsd.out _) ?_
          simp only [Act.put, pA, pB, pC]
          refine hv (fun _ hW => (v_load (i := 2) hW rfl rfl rfl Try.underlying41 rfl (szA (n := 5)))) ?_
          simp only [Act.put, pA, pB, pC]
          refine headRun_call (fun w1 => run_call rfl Try.call44) (fun w1 hW => Hv.out _) ?_
          simp only [Act.put, pA, pB, pC]
          refine headRun_call (fun w1 => run_call rfl Try.call41) (fun w1 hW => HX1.out _) ?_
          simp only [Act.put, pA, pB, pC]
          refine hv (fun _ hW => (v_moveT (.inl rfl) rfl)) ?_
          simp only [Act.put, pA, pB, pC]
          refine hv (fun _ hW => (v_extract rfl rfl rfl)) ?_
          simp only [Act.put, pA, pB, pC]
          refine hv (fun _ hW => (v_extract rfl rfl rfl)) ?_
          simp only [Act.put, pA, pB, pC]
          refine headRun_alloc (zs := ints .u64 (List.replicate 5 0)) rfl rfl (fun w => by kernel_rfl) ?_
          simp only [Act.put, pA, pB, pC]
          refine headRun_nil (endK1 ?_)
          intro g5 w14 hE14
          clear hE13
          simp only [List.drop_succ_cons, List.drop_zero, Act.put, pA, pB, pC]
          refine wl_step (st_store (i := 0) hE14 rfl rfl rfl rfl rfl (szA (n := 5)) (by first | (simp only [ints_size, digs_length, List.length_replicate, List.length_cons, List.length_nil]; done) | (simp only [ints_size, digs_length, List.length_replicate, List.length_cons, List.length_nil, List.length_set, List.length_append]; omega) | rfl) (by first | exact ints_one _ _ | decide | simp [*]) ?_)
          intro w15 hE15
          clear hE14
          simp only [pB, pC] at hE15
          simp only [Act.put, pA, pB, pC]
          refine wv (v_moveT (.inr rfl) rfl) ?_
          simp only [Act.put, pA, pB, pC]
          repeat ((fail_if_success with_reducible show wA ..); (fail_if_success with_reducible show wB ..); go_step)
          refine wv (v_moveT (.inl rfl) rfl) ?_
          simp only [Act.put, pA, pB, pC]
          refine wv (v_not rfl rfl) ?_
          simp only [Act.put, pA, pB, pC]
          refine wv (v_moveT (.inl rfl) rfl) ?_
          simp only [Act.put, pA, pB, pC]
          refine wv (v_moveT (.inl rfl) rfl) ?_
          simp only [Act.put, pA, pB, pC]
          refine wv (v_moveT (.inl rfl) rfl) ?_
          simp only [Act.put, pA, pB, pC]
          refine wv (v_load (i := 0) hE15 rfl rfl rfl Try.underlying41 rfl (szA (n := 5))) ?_
          simp only [Act.put, pA, pB, pC]
          refine wl_step (st_gives hE15 rfl (run_call rfl Try.call45) (HZ1.out _) ?_)
          intro w16 hb16 hE16
          clear hE15
          simp only [Act.put, pA, pB, pC]
          refine wv (v_and rfl rfl (fun _ => rfl)) ?_
          simp only [Act.put, pA, pB, pC]
          refine wv (v_or rfl rfl (fun _ => rfl)) ?_
          simp only [Act.put, pA, pB, pC]
          repeat ((fail_if_success with_reducible show wA ..); (fail_if_success with_reducible show wB ..); (fail_if_success (with_reducible show Code.wp _ (Code.cond _ _ _) _ _ _)); go_step)
          refine wp_cond_true (by first | rfl | exact congrArg Value.bool (decide_eq_true (by omega))) ?_
          skip
          repeat ((fail_if_success with_reducible show wA ..); (fail_if_success with_reducible show wB ..); go_step)
          refine wl_step (st_gives hE16 rfl (run_call rfl Try.call26) (PZero_any _) ?_)
          intro w17 hb17 hE17
          clear hE16
          simp only [Act.put, pA, pB, pC]
          refine wl_step (st_store (i := 4) hE17 rfl rfl rfl rfl rfl (szA (n := 20)) (by first | (simp only [ints_size, digs_length, List.length_replicate, List.length_cons, List.length_nil]; done) | (simp only [ints_size, digs_length, List.length_replicate, List.length_cons, List.length_nil, List.length_set, List.length_append]; omega) | rfl) (by first | exact ints_one _ _ | decide | simp [*]) ?_)
          intro w18 hE18
          clear hE17
          simp only [pB, pC] at hE18
          simp only [Act.put, pA, pB, pC]
          refine wv (v_moveC (.inr rfl)) ?_
          simp only [Act.put, pA, pB, pC]
          repeat ((fail_if_success with_reducible show wA ..); (fail_if_success with_reducible show wB ..); go_step)
          refine bodyPost_ret (results_ct rfl _ _ _ _ _ (0, 0) _ rfl (hE18.get (i := 4) rfl) Try.underlying43 rfl (szA (n := 20)) rfl) rfl ⟨rfl, hE18.below⟩
        · refine ⟨fun P hP => ?_, fun h => absurd ⟨hY, rfl, fun h' => hr0 h'.2⟩ h⟩
          obtain ⟨_, hPy, hPx⟩ := Hyes.out P hP
          obtain ⟨c, hc, Gc⟩ := affine_any (P := P) Fnx.out Fy.out (by
            have hl : r.1 < pN := hR ▸ rootN_lt _ _
            rw [Enx.out, Exk.out, hPx, hxo, kk_mod, kk_neg (Nat.le_of_lt hl)]) (by rw [Ey.out hY, hPy])
          refine ⟨c, hc, fun w => ?_⟩
          have lc := hc.len
          have Hc := Lib.hid Gc
          have hZw := HZ.out
          rw [decide_eq_false hr0] at hZw
          have HZ1 := Lib.hid hZw
          clear hZw HZ Hyes hR hok hY hxo hr0 ho1 Gc hc hPy hPx
          have hE0 := Env.nil w
          go_enter Try.func18, Try.ntmps18
          repeat ((fail_if_success with_reducible show wA ..); (fail_if_success with_reducible show wB ..); go_step)
          refine wl_step (st_boxA hE0 rfl rfl rfl ?_)
          intro g0 w1 hb1 hE1
          clear hE0
          simp only [Act.put, pA, pB, pC]
          refine wl_step (st_alloc (zs := ints .u64 (List.replicate 20 0)) hE1 rfl rfl (fun w => by kernel_rfl) ?_)
          intro g1 w2 hb2 hE2
          clear hE1
          simp only [Act.put, pA, pB, pC]
          refine wv (v_moveC (.inr rfl)) ?_
          simp only [Act.put, pA, pB, pC]
          repeat ((fail_if_success with_reducible show wA ..); (fail_if_success with_reducible show wB ..); go_step)
          refine wv (v_indexA0 (j := 31) rfl rfl rfl Try.underlying22 (by kernel_rfl) (by first | assumption | omega)) ?_
          simp only [Act.put, pA, pB, pC]
          refine wv (v_cell rfl rfl Try.underlying5 rfl (Env.cellv (i := 1) hE2 rfl (ints_get? _ _ _ (by first | assumption | omega | (simp; done) | (simp; omega))))) ?_
          simp only [Act.put, pA, pB, pC]
          rw [Ht.out]
          refine wv (v_shrC (s := 7) (d := 128) rfl rfl rfl (by decide) (by decide)) ?_
          simp only [Act.put, pA, pB, pC]
          refine wv (v_eql (n := 1) rfl rfl rfl) ?_
          simp only [Act.put, pA, pB, pC]
          rw [Hod.out]
          refine wv (v_moveT (.inr rfl) rfl) ?_
          simp only [Act.put, pA, pB, pC]
          repeat ((fail_if_success with_reducible show wA ..); (fail_if_success with_reducible show wB ..); go_step)
          refine wv (v_indexA0 (j := 31) rfl rfl rfl Try.underlying22 (by kernel_rfl) (by first | assumption | omega)) ?_
          simp only [Act.put, pA, pB, pC]
          refine wv (v_cell rfl rfl Try.underlying5 rfl (Env.cellv (i := 1) hE2 rfl (ints_get? _ _ _ (by first | assumption | omega | (simp; done) | (simp; omega))))) ?_
          simp only [Act.put, pA, pB, pC]
          rw [Ht.out]
          refine wv (v_mask (c := 127) (s := 7) (d := 128) rfl rfl rfl (by decide) (by decide) rfl (by simp only [IntKind.bits]; omega) (by decide)) ?_
          simp only [Act.put, pA, pB, pC]
          refine wv (v_indexA0 (j := 31) rfl rfl rfl Try.underlying22 (by kernel_rfl) (by first | assumption | omega)) ?_
          simp only [Act.put, pA, pB, pC]
          refine wl_step (st_putN (i := 1) hE2 rfl rfl rfl rfl rfl (by kernel_rfl) (by first | assumption | omega | (simp only [List.length_set, List.length_replicate]; first | assumption | omega)) ?_)
          intro w3 hE3
          clear hE2
          simp only [pB, pC] at hE3
          simp only [Act.put, pA, pB, pC]
          rw [Hbe.out] at hE3
          repeat ((fail_if_success with_reducible show wA ..); (fail_if_success with_reducible show wB ..); go_step)
          refine wv (v_load (i := 1) hE3 rfl rfl rfl Try.underlying22 rfl (szA (n := 32))) ?_
          simp only [Act.put, pA, pB, pC]
          refine wl_step (st_gives hE3 rfl (run_call rfl Try.call39) (HC1.out _) ?_)
          intro w4 hb4 hE4
          clear hE3
          simp only [Act.put, pA, pB, pC]
          refine wv (v_not rfl rfl) ?_
          simp only [Act.put, pA, pB, pC]
          repeat ((fail_if_success with_reducible show wA ..); (fail_if_success with_reducible show wB ..); (fail_if_success (with_reducible show Code.wp _ (Code.cond _ _ _) _ _ _)); go_step)
          refine wp_cond_false (by first | rfl | exact congrArg Value.bool (decide_eq_false (by omega))) ?_
          skip
          repeat ((fail_if_success with_reducible show wA ..); (fail_if_success with_reducible show wB ..); go_step)
          refine wl_step (st_gives hE4 rfl (run_call rfl Try.call40) (H1.out _) ?_)
          intro w5 hb5 hE5
          clear hE4
          simp only [Act.put, pA, pB, pC]
          refine wl_step (st_alloc (zs := ints .u64 (List.replicate 5 0)) hE5 rfl rfl (fun w => by kernel_rfl) ?_)
          intro g2 w6 hb6 hE6
          clear hE5
          simp only [Act.put, pA, pB, pC]
          refine wl_step (st_store (i := 0) hE6 rfl rfl rfl rfl rfl (szA (n := 5)) (by first | (simp only [ints_size, digs_length, List.length_replicate, List.length_cons, List.length_nil]; done) | (simp only [ints_size, digs_length, List.length_replicate, List.length_cons, List.length_nil, List.length_set, List.length_append]; omega) | rfl) (by first | exact ints_one _ _ | decide | simp [*]) ?_)
          intro w7 hE7
          clear hE6
          simp only [pB, pC] at hE7
          simp only [Act.put, pA, pB, pC]
          repeat ((fail_if_success with_reducible show wA ..); (fail_if_success with_reducible show wB ..); go_step)
          refine wv (v_load (i := 2) hE7 rfl rfl rfl Try.underlying22 rfl (szA (n := 32))) ?_
          simp only [Act.put, pA, pB, pC]
          refine wl_step (st_gives hE7 rfl (run_call rfl Try.call24) (HO.out _) ?_)
          intro w8 hb8 hE8
          clear hE7
          simp only [Act.put, pA, pB, pC]
          refine wl_step (st_alloc (zs := ints .u64 (List.replicate 5 0)) hE8 rfl rfl (fun w => by kernel_rfl) ?_)
          intro g3 w9 hb9 hE9
          clear hE8
          simp only [Act.put, pA, pB, pC]
          refine wl_step (st_store (i := 0) hE9 rfl rfl rfl rfl rfl (szA (n := 5)) (by first | (simp only [ints_size, digs_length, List.length_replicate, List.length_cons, List.length_nil]; done) | (simp only [ints_size, digs_length, List.length_replicate, List.length_cons, List.length_nil, List.length_set, List.length_append]; omega) | rfl) (by first | exact ints_one _ _ | decide | simp [*]) ?_)
          intro w10 hE10
          clear hE9
          simp only [pB, pC] at hE10
          simp only [Act.put, pA, pB, pC]
          repeat ((fail_if_success with_reducible show wA ..); (fail_if_success with_reducible show wB ..); go_step)
          refine wv (v_load (i := 0) hE10 rfl rfl rfl Try.underlying41 rfl (szA (n := 5))) ?_
          simp only [Act.put, pA, pB, pC]
          refine wv (v_load (i := 0) hE10 rfl rfl rfl Try.underlying41 rfl (szA (n := 5))) ?_
          simp only [Act.put, pA, pB, pC]
          refine wl_step (st_gives hE10 rfl (run_call rfl Try.call30) (Hsq.out _) ?_)
          intro w11 hb11 hE11
          clear hE10
          simp only [Act.put, pA, pB, pC]
          refine wl_step (st_alloc (zs := ints .u64 (List.replicate 5 0)) hE11 rfl rfl (fun w => by kernel_rfl) ?_)
          intro g4 w12 hb12 hE12
          clear hE11
          simp only [Act.put, pA, pB, pC]
          refine wl_step (st_store (i := 0) hE12 rfl rfl rfl rfl rfl (szA (n := 5)) (by first | (simp only [ints_size, digs_length, List.length_replicate, List.length_cons, List.length_nil]; done) | (simp only [ints_size, digs_length, List.length_replicate, List.length_cons, List.length_nil, List.length_set, List.length_append]; omega) | rfl) (by first | exact ints_one _ _ | decide | simp [*]) ?_)
          intro w13 hE13
          clear hE12
          simp only [pB, pC] at hE13
          simp only [Act.put, pA, pB, pC]
          repeat ((fail_if_success with_reducible show wA ..); (fail_if_success with_reducible show wB ..); go_step)
          refine wp_region_env 13 (by kernel_rfl) (by kernel_rfl) (fun _ _ d _ _ h => by cases d <;> exact h) hE13 ?_
          refine hv (fun _ hW => (v_load (i := 0) hW rfl rfl rfl Try.underlying41 rfl (szA (n := 5)))) ?_
          simp only [Act.put, pA, pB, pC]
          refine hv (fun _ hW => (v_load (i := 2) hW rfl rfl rfl Try.underlying41 rfl (szA (n := 5)))) ?_
          simp only [Act.put, pA, pB, pC]
          refine headRun_call (fun w1 => run_call rfl Try.call42) (fun w1 hW => Hu.out _) ?_
          simp only [Act.put, pA, pB, pC]
          refine hv (fun _ hW => (v_load (i := 0) hW rfl rfl rfl Try.underlying41 rfl (szA (n := 5)))) ?_
          simp only [Act.put, pA, pB, pC]
          refine headRun_call (fun w1 => run_call rfl Try.call43) (fun w1 hW => Hd.out _) ?_
          simp only [Act.put, pA, pB, pC]
          refine headRun_call (fun w1 => run_call rfl Try.call30) (fun w1 hW => Hsd.out _) ?_
          simp only [Act.put, pA, pB, pC]
          refine hv (fun _ hW => (v_load (i := 2) hW rfl rfl rfl Try.underlying41 rfl (szA (n := 5)))) ?_
          simp only [Act.put, pA, pB, pC]
          refine headRun_call (fun w1 => run_call rfl Try.call44) (fun w1 hW => Hv.out _) ?_
          simp only [Act.put, pA, pB, pC]
          refine headRun_call (fun w1 => run_call rfl Try.call41) (fun w1 hW => HX1.out _) ?_
          simp only [Act.put, pA, pB, pC]
          refine hv (fun _ hW => (v_moveT (.inl rfl) rfl)) ?_
          simp only [Act.put, pA, pB, pC]
          refine hv (fun _ hW => (v_extract rfl rfl rfl)) ?_
          simp only [Act.put, pA, pB, pC]
          refine hv (fun _ hW => (v_extract rfl rfl rfl)) ?_
          simp only [Act.put, pA, pB, pC]
          refine headRun_alloc (zs := ints .u64 (List.replicate 5 0)) rfl rfl (fun w => by kernel_rfl) ?_
          simp only [Act.put, pA, pB, pC]
          refine headRun_nil (endK1 ?_)
          intro g5 w14 hE14
          clear hE13
          simp only [List.drop_succ_cons, List.drop_zero, Act.put, pA, pB, pC]
          refine wl_step (st_store (i := 0) hE14 rfl rfl rfl rfl rfl (szA (n := 5)) (by first | (simp only [ints_size, digs_length, List.length_replicate, List.length_cons, List.length_nil]; done) | (simp only [ints_size, digs_length, List.length_replicate, List.length_cons, List.length_nil, List.length_set, List.length_append]; omega) | rfl) (by first | exact ints_one _ _ | decide | simp [*]) ?_)
          intro w15 hE15
          clear hE14
          simp only [pB, pC] at hE15
          simp only [Act.put, pA, pB, pC]
          refine wv (v_moveT (.inr rfl) rfl) ?_
          simp only [Act.put, pA, pB, pC]
          repeat ((fail_if_success with_reducible show wA ..); (fail_if_success with_reducible show wB ..); go_step)
          refine wv (v_moveT (.inl rfl) rfl) ?_
          simp only [Act.put, pA, pB, pC]
          refine wv (v_not rfl rfl) ?_
          simp only [Act.put, pA, pB, pC]
          refine wv (v_moveT (.inl rfl) rfl) ?_
          simp only [Act.put, pA, pB, pC]
          refine wv (v_moveT (.inl rfl) rfl) ?_
          simp only [Act.put, pA, pB, pC]
          refine wv (v_moveT (.inl rfl) rfl) ?_
          simp only [Act.put, pA, pB, pC]
          refine wv (v_load (i := 0) hE15 rfl rfl rfl Try.underlying41 rfl (szA (n := 5))) ?_
          simp only [Act.put, pA, pB, pC]
          refine wl_step (st_gives hE15 rfl (run_call rfl Try.call45) (HZ1.out _) ?_)
          intro w16 hb16 hE16
          clear hE15
          simp only [Act.put, pA, pB, pC]
          refine wv (v_and rfl rfl (fun _ => rfl)) ?_
          simp only [Act.put, pA, pB, pC]
          refine wv (v_or rfl rfl (fun _ => rfl)) ?_
          simp only [Act.put, pA, pB, pC]
          repeat ((fail_if_success with_reducible show wA ..); (fail_if_success with_reducible show wB ..); (fail_if_success (with_reducible show Code.wp _ (Code.cond _ _ _) _ _ _)); go_step)
          refine wp_cond_false (by first | rfl | exact congrArg Value.bool (decide_eq_false (by omega))) ?_
          skip
          repeat ((fail_if_success with_reducible show wA ..); (fail_if_success with_reducible show wB ..); go_step)
          refine wv (v_moveT (.inl rfl) rfl) ?_
          simp only [Act.put, pA, pB, pC]
          repeat ((fail_if_success with_reducible show wA ..); (fail_if_success with_reducible show wB ..); (fail_if_success (with_reducible show Code.wp _ (Code.cond _ _ _) _ _ _)); go_step)
          refine wp_cond_true (by first | rfl | exact congrArg Value.bool (decide_eq_true (by omega))) ?_
          skip
          repeat ((fail_if_success with_reducible show wA ..); (fail_if_success with_reducible show wB ..); go_step)
          refine wv (v_load (i := 0) hE16 rfl rfl rfl Try.underlying41 rfl (szA (n := 5))) ?_
          simp only [Act.put, pA, pB, pC]
          refine wl_step (st_gives hE16 rfl (run_call rfl Try.call46) (Hnx.out _) ?_)
          intro w17 hb17 hE17
          clear hE16
          simp only [Act.put, pA, pB, pC]
          refine wl_step (st_store (i := 0) hE17 rfl rfl rfl rfl rfl (szA (n := 5)) (by first | (simp only [ints_size, digs_length, List.length_replicate, List.length_cons, List.length_nil]; done) | (simp only [ints_size, digs_length, List.length_replicate, List.length_cons, List.length_nil, List.length_set, List.length_append]; omega) | rfl) (by first | exact ints_one _ _ | decide | simp [*]) ?_)
          intro w18 hE18
          clear hE17
          simp only [pB, pC] at hE18
          simp only [Act.put, pA, pB, pC]
          repeat ((fail_if_success with_reducible show wA ..); (fail_if_success with_reducible show wB ..); go_step)
          refine wv (v_load (i := 0) hE18 rfl rfl rfl Try.underlying41 rfl (szA (n := 5))) ?_
          simp only [Act.put, pA, pB, pC]
          refine wv (v_load (i := 2) hE18 rfl rfl rfl Try.underlying41 rfl (szA (n := 5))) ?_
          simp only [Act.put, pA, pB, pC]
          refine wl_step (st_gives hE18 rfl (run_call rfl Try.call23) (Hc.out _) ?_)
          intro w19 hb19 hE19
          clear hE18
          simp only [Act.put, pA, pB, pC]
          refine wl_step (st_store (i := 4) hE19 rfl rfl rfl rfl rfl (szA (n := 20)) (by first | (simp only [ints_size, digs_length, List.length_replicate, List.length_cons, List.length_nil]; done) | (simp only [ints_size, digs_length, List.length_replicate, List.length_cons, List.length_nil, List.length_set, List.length_append]; omega) | rfl) (by first | exact ints_one _ _ | decide | simp [*]) ?_)
          intro w20 hE20
          clear hE19
          simp only [pB, pC] at hE20
          simp only [Act.put, pA, pB, pC]
          refine wv (v_moveC (.inr rfl)) ?_
          simp only [Act.put, pA, pB, pC]
          repeat ((fail_if_success with_reducible show wA ..); (fail_if_success with_reducible show wB ..); go_step)
          refine bodyPost_ret (results_ct rfl _ _ _ _ _ (0, 0) _ rfl (hE20.get (i := 4) rfl) Try.underlying43 rfl (szA (n := 20)) rfl) rfl ⟨rfl, hE20.below⟩
      · have hxo : xOf Y o = r.1 := by unfold xOf; rw [if_neg ho1, hR]
        rw [decide_eq_false ho1] at Hod
        refine ⟨fun P hP => ?_, fun h => absurd ⟨hY, rfl, fun h' => ho1 h'.1⟩ h⟩
        obtain ⟨_, hPy, hPx⟩ := Hyes.out P hP
        obtain ⟨c, hc, Gc⟩ := affine_any (P := P) Fx.out Fy.out (by rw [Exk.out, hPx, hxo]) (by rw [Ey.out hY, hPy])
        refine ⟨c, hc, fun w => ?_⟩
        have lc := hc.len
        have Hc := Lib.hid Gc
        clear HZ Hyes hR hok hY hxo ho1 Gc hc hPy hPx
        have hE0 := Env.nil w
        go_enter Try.func18, Try.ntmps18
        repeat ((fail_if_success with_reducible show wA ..); (fail_if_success with_reducible show wB ..); go_step)
        refine wl_step (st_boxA hE0 rfl rfl rfl ?_)
        intro g0 w1 hb1 hE1
        clear hE0
        simp only [Act.put, pA, pB, pC]
        refine wl_step (st_alloc (zs := ints .u64 (List.replicate 20 0)) hE1 rfl rfl (fun w => by kernel_rfl) ?_)
        intro g1 w2 hb2 hE2
        clear hE1
        simp only [Act.put, pA, pB, pC]
        refine wv (v_moveC (.inr rfl)) ?_
        simp only [Act.put, pA, pB, pC]
        repeat ((fail_if_success with_reducible show wA ..); (fail_if_success with_reducible show wB ..); go_step)
        refine wv (v_indexA0 (j := 31) rfl rfl rfl Try.underlying22 (by kernel_rfl) (by first | assumption | omega)) ?_
        simp only [Act.put, pA, pB, pC]
        refine wv (v_cell rfl rfl Try.underlying5 rfl (Env.cellv (i := 1) hE2 rfl (ints_get? _ _ _ (by first | assumption | omega | (simp; done) | (simp; omega))))) ?_
        simp only [Act.put, pA, pB, pC]
        rw [Ht.out]
        refine wv (v_shrC (s := 7) (d := 128) rfl rfl rfl (by decide) (by decide)) ?_
        simp only [Act.put, pA, pB, pC]
        refine wv (v_eql (n := 1) rfl rfl rfl) ?_
        simp only [Act.put, pA, pB, pC]
        rw [Hod.out]
        refine wv (v_moveT (.inr rfl) rfl) ?_
        simp only [Act.put, pA, pB, pC]
        repeat ((fail_if_success with_reducible show wA ..); (fail_if_success with_reducible show wB ..); go_step)
        refine wv (v_indexA0 (j := 31) rfl rfl rfl Try.underlying22 (by kernel_rfl) (by first | assumption | omega)) ?_
        simp only [Act.put, pA, pB, pC]
        refine wv (v_cell rfl rfl Try.underlying5 rfl (Env.cellv (i := 1) hE2 rfl (ints_get? _ _ _ (by first | assumption | omega | (simp; done) | (simp; omega))))) ?_
        simp only [Act.put, pA, pB, pC]
        rw [Ht.out]
        refine wv (v_mask (c := 127) (s := 7) (d := 128) rfl rfl rfl (by decide) (by decide) rfl (by simp only [IntKind.bits]; omega) (by decide)) ?_
        simp only [Act.put, pA, pB, pC]
        refine wv (v_indexA0 (j := 31) rfl rfl rfl Try.underlying22 (by kernel_rfl) (by first | assumption | omega)) ?_
        simp only [Act.put, pA, pB, pC]
        refine wl_step (st_putN (i := 1) hE2 rfl rfl rfl rfl rfl (by kernel_rfl) (by first | assumption | omega | (simp only [List.length_set, List.length_replicate]; first | assumption | omega)) ?_)
        intro w3 hE3
        clear hE2
        simp only [pB, pC] at hE3
        simp only [Act.put, pA, pB, pC]
        rw [Hbe.out] at hE3
        repeat ((fail_if_success with_reducible show wA ..); (fail_if_success with_reducible show wB ..); go_step)
        refine wv (v_load (i := 1) hE3 rfl rfl rfl Try.underlying22 rfl (szA (n := 32))) ?_
        simp only [Act.put, pA, pB, pC]
        refine wl_step (st_gives hE3 rfl (run_call rfl Try.call39) (HC1.out _) ?_)
        intro w4 hb4 hE4
        clear hE3
        simp only [Act.put, pA, pB, pC]
        refine wv (v_not rfl rfl) ?_
        simp only [Act.put, pA, pB, pC]
        repeat ((fail_if_success with_reducible show wA ..); (fail_if_success with_reducible show wB ..); (fail_if_success (with_reducible show Code.wp _ (Code.cond _ _ _) _ _ _)); go_step)
        refine wp_cond_false (by first | rfl | exact congrArg Value.bool (decide_eq_false (by omega))) ?_
        skip
        repeat ((fail_if_success with_reducible show wA ..); (fail_if_success with_reducible show wB ..); go_step)
        refine wl_step (st_gives hE4 rfl (run_call rfl Try.call40) (H1.out _) ?_)
        intro w5 hb5 hE5
        clear hE4
        simp only [Act.put, pA, pB, pC]
        refine wl_step (st_alloc (zs := ints .u64 (List.replicate 5 0)) hE5 rfl rfl (fun w => by kernel_rfl) ?_)
        intro g2 w6 hb6 hE6
        clear hE5
        simp only [Act.put, pA, pB, pC]
        refine wl_step (st_store (i := 0) hE6 rfl rfl rfl rfl rfl (szA (n := 5)) (by first | (simp only [ints_size, digs_length, List.length_replicate, List.length_cons, List.length_nil]; done) | (simp only [ints_size, digs_length, List.length_replicate, List.length_cons, List.length_nil, List.length_set, List.length_append]; omega) | rfl) (by first | exact ints_one _ _ | decide | simp [*]) ?_)
        intro w7 hE7
        clear hE6
        simp only [pB, pC] at hE7
        simp only [Act.put, pA, pB, pC]
        repeat ((fail_if_success with_reducible show wA ..); (fail_if_success with_reducible show wB ..); go_step)
        refine wv (v_load (i := 2) hE7 rfl rfl rfl Try.underlying22 rfl (szA (n := 32))) ?_
        simp only [Act.put, pA, pB, pC]
        refine wl_step (st_gives hE7 rfl (run_call rfl Try.call24) (HO.out _) ?_)
        intro w8 hb8 hE8
        clear hE7
        simp only [Act.put, pA, pB, pC]
        refine wl_step (st_alloc (zs := ints .u64 (List.replicate 5 0)) hE8 rfl rfl (fun w => by kernel_rfl) ?_)
        intro g3 w9 hb9 hE9
        clear hE8
        simp only [Act.put, pA, pB, pC]
        refine wl_step (st_store (i := 0) hE9 rfl rfl rfl rfl rfl (szA (n := 5)) (by first | (simp only [ints_size, digs_length, List.length_replicate, List.length_cons, List.length_nil]; done) | (simp only [ints_size, digs_length, List.length_replicate, List.length_cons, List.length_nil, List.length_set, List.length_append]; omega) | rfl) (by first | exact ints_one _ _ | decide | simp [*]) ?_)
        intro w10 hE10
        clear hE9
        simp only [pB, pC] at hE10
        simp only [Act.put, pA, pB, pC]
        repeat ((fail_if_success with_reducible show wA ..); (fail_if_success with_reducible show wB ..); go_step)
        refine wv (v_load (i := 0) hE10 rfl rfl rfl Try.underlying41 rfl (szA (n := 5))) ?_
        simp only [Act.put, pA, pB, pC]
        refine wv (v_load (i := 0) hE10 rfl rfl rfl Try.underlying41 rfl (szA (n := 5))) ?_
        simp only [Act.put, pA, pB, pC]
        refine wl_step (st_gives hE10 rfl (run_call rfl Try.call30) (Hsq.out _) ?_)
        intro w11 hb11 hE11
        clear hE10
        simp only [Act.put, pA, pB, pC]
        refine wl_step (st_alloc (zs := ints .u64 (List.replicate 5 0)) hE11 rfl rfl (fun w => by kernel_rfl) ?_)
        intro g4 w12 hb12 hE12
        clear hE11
        simp only [Act.put, pA, pB, pC]
        refine wl_step (st_store (i := 0) hE12 rfl rfl rfl rfl rfl (szA (n := 5)) (by first | (simp only [ints_size, digs_length, List.length_replicate, List.length_cons, List.length_nil]; done) | (simp only [ints_size, digs_length, List.length_replicate, List.length_cons, List.length_nil, List.length_set, List.length_append]; omega) | rfl) (by first | exact ints_one _ _ | decide | simp [*]) ?_)
        intro w13 hE13
        clear hE12
        simp only [pB, pC] at hE13
        simp only [Act.put, pA, pB, pC]
        repeat ((fail_if_success with_reducible show wA ..); (fail_if_success with_reducible show wB ..); go_step)
        refine wp_region_env 13 (by kernel_rfl) (by kernel_rfl) (fun _ _ d _ _ h => by cases d <;> exact h) hE13 ?_
        refine hv (fun _ hW => (v_load (i := 0) hW rfl rfl rfl Try.underlying41 rfl (szA (n := 5)))) ?_
        simp only [Act.put, pA, pB, pC]
        refine hv (fun _ hW => (v_load (i := 2) hW rfl rfl rfl Try.underlying41 rfl (szA (n := 5)))) ?_
        simp only [Act.put, pA, pB, pC]
        refine headRun_call (fun w1 => run_call rfl Try.call42) (fun w1 hW => Hu.out _) ?_
        simp only [Act.put, pA, pB, pC]
        refine hv (fun _ hW => (v_load (i := 0) hW rfl rfl rfl Try.underlying41 rfl (szA (n := 5)))) ?_
        simp only [Act.put, pA, pB, pC]
        refine headRun_call (fun w1 => run_call rfl Try.call43) (fun w1 hW => Hd.out _) ?_
        simp only [Act.put, pA, pB, pC]
        refine headRun_call (fun w1 => run_call rfl Try.call30) (fun w1 hW => Hsd.out _) ?_
        simp only [Act.put, pA, pB, pC]
        refine hv (fun _ hW => (v_load (i := 2) hW rfl rfl rfl Try.underlying41 rfl (szA (n := 5)))) ?_
        simp only [Act.put, pA, pB, pC]
        refine headRun_call (fun w1 => run_call rfl Try.call44) (fun w1 hW => Hv.out _) ?_
        simp only [Act.put, pA, pB, pC]
        refine headRun_call (fun w1 => run_call rfl Try.call41) (fun w1 hW => HX1.out _) ?_
        simp only [Act.put, pA, pB, pC]
        refine hv (fun _ hW => (v_moveT (.inl rfl) rfl)) ?_
        simp only [Act.put, pA, pB, pC]
        refine hv (fun _ hW => (v_extract rfl rfl rfl)) ?_
        simp only [Act.put, pA, pB, pC]
        refine hv (fun _ hW => (v_extract rfl rfl rfl)) ?_
        simp only [Act.put, pA, pB, pC]
        refine headRun_alloc (zs := ints .u64 (List.replicate 5 0)) rfl rfl (fun w => by kernel_rfl) ?_
        simp only [Act.put, pA, pB, pC]
        refine headRun_nil (endK1 ?_)
        intro g5 w14 hE14
        clear hE13
        simp only [List.drop_succ_cons, List.drop_zero, Act.put, pA, pB, pC]
        refine wl_step (st_store (i := 0) hE14 rfl rfl rfl rfl rfl (szA (n := 5)) (by first | (simp only [ints_size, digs_length, List.length_replicate, List.length_cons, List.length_nil]; done) | (simp only [ints_size, digs_length, List.length_replicate, List.length_cons, List.length_nil, List.length_set, List.length_append]; omega) | rfl) (by first | exact ints_one _ _ | decide | simp [*]) ?_)
        intro w15 hE15
        clear hE14
        simp only [pB, pC] at hE15
        simp only [Act.put, pA, pB, pC]
        refine wv (v_moveT (.inr rfl) rfl) ?_
        simp only [Act.put, pA, pB, pC]
        repeat ((fail_if_success with_reducible show wA ..); (fail_if_success with_reducible show wB ..); go_step)
        refine wv (v_moveT (.inl rfl) rfl) ?_
        simp only [Act.put, pA, pB, pC]
        refine wv (v_not rfl rfl) ?_
        simp only [Act.put, pA, pB, pC]
        refine wv (v_moveT (.inl rfl) rfl) ?_
        simp only [Act.put, pA, pB, pC]
        refine wv (v_moveT (.inl rfl) rfl) ?_
        simp only [Act.put, pA, pB, pC]
        refine wv (v_moveT (.inl rfl) rfl) ?_
        simp only [Act.put, pA, pB, pC]
        refine wl_step (st_skip rfl ?_)
        simp only [Act.put, pA, pB, pC]
        refine wl_step (st_skip rfl ?_)
        simp only [Act.put, pA, pB, pC]
        refine wv (v_andF rfl rfl) ?_
        simp only [Act.put, pA, pB, pC]
        refine wv (v_or rfl rfl (fun _ => rfl)) ?_
        simp only [Act.put, pA, pB, pC]
        repeat ((fail_if_success with_reducible show wA ..); (fail_if_success with_reducible show wB ..); (fail_if_success (with_reducible show Code.wp _ (Code.cond _ _ _) _ _ _)); go_step)
        refine wp_cond_false (by first | rfl | exact congrArg Value.bool (decide_eq_false (by omega))) ?_
        skip
        repeat ((fail_if_success with_reducible show wA ..); (fail_if_success with_reducible show wB ..); go_step)
        refine wv (v_moveT (.inl rfl) rfl) ?_
        simp only [Act.put, pA, pB, pC]
        repeat ((fail_if_success with_reducible show wA ..); (fail_if_success with_reducible show wB ..); (fail_if_success (with_reducible show Code.wp _ (Code.cond _ _ _) _ _ _)); go_step)
        refine wp_cond_false (by first | rfl | exact congrArg Value.bool (decide_eq_false (by omega))) ?_
        skip
        repeat ((fail_if_success with_reducible show wA ..); (fail_if_success with_reducible show wB ..); go_step)
        refine wv (v_load (i := 0) hE15 rfl rfl rfl Try.underlying41 rfl (szA (n := 5))) ?_
        simp only [Act.put, pA, pB, pC]
        refine wv (v_load (i := 2) hE15 rfl rfl rfl Try.underlying41 rfl (szA (n := 5))) ?_
        simp only [Act.put, pA, pB, pC]
        refine wl_step (st_gives hE15 rfl (run_call rfl Try.call23) (Hc.out _) ?_)
        intro w16 hb16 hE16
        clear hE15
        simp only [Act.put, pA, pB, pC]
        refine wl_step (st_store (i := 4) hE16 rfl rfl rfl rfl rfl (szA (n := 20)) (by first | (simp only [ints_size, digs_length, List.length_replicate, List.length_cons, List.length_nil]; done) | (simp only [ints_size, digs_length, List.length_replicate, List.length_cons, List.length_nil, List.length_set, List.length_append]; omega) | rfl) (by first | exact ints_one _ _ | decide | simp [*]) ?_)
        intro w17 hE17
        clear hE16
        simp only [pB, pC] at hE17
        simp only [Act.put, pA, pB, pC]
        refine wv (v_moveC (.inr rfl)) ?_
        simp only [Act.put, pA, pB, pC]
        repeat ((fail_if_success with_reducible show wA ..); (fail_if_success with_reducible show wB ..); go_step)
        refine bodyPost_ret (results_ct rfl _ _ _ _ _ (0, 0) _ rfl (hE17.get (i := 4) rfl) Try.underlying43 rfl (szA (n := 20)) rfl) rfl ⟨rfl, hE17.below⟩
  · refine ⟨fun P hP => absurd (Hyes.out P hP).1.1 hY, fun _ w => ?_⟩
    have hCw := HC.out
    rw [decide_eq_false hY] at hCw
    have HC1 := Lib.hid hCw
    clear hCw HC Hyes hY
    have hE0 := Env.nil w
    go_enter Try.func18, Try.ntmps18
    repeat ((fail_if_success with_reducible show wA ..); (fail_if_success with_reducible show wB ..); go_step)
    refine wl_step (st_boxA hE0 rfl rfl rfl ?_)
    intro g0 w1 hb1 hE1
    clear hE0
    simp only [Act.put, pA, pB, pC]
    refine wl_step (st_alloc (zs := ints .u64 (List.replicate 20 0)) hE1 rfl rfl (fun w => by kernel_rfl) ?_)
    intro g1 w2 hb2 hE2
    clear hE1
    simp only [Act.put, pA, pB, pC]
    refine wv (v_moveC (.inr rfl)) ?_
    simp only [Act.put, pA, pB, pC]
    repeat ((fail_if_success with_reducible show wA ..); (fail_if_success with_reducible show wB ..); go_step)
    refine wv (v_indexA0 (j := 31) rfl rfl rfl Try.underlying22 (by kernel_rfl) (by first | assumption | omega)) ?_
    simp only [Act.put, pA, pB, pC]
    refine wv (v_cell rfl rfl Try.underlying5 rfl (Env.cellv (i := 1) hE2 rfl (ints_get? _ _ _ (by first | assumption | omega | (simp; done) | (simp; omega))))) ?_
    simp only [Act.put, pA, pB, pC]
    rw [Ht.out]
    refine wv (v_shrC (s := 7) (d := 128) rfl rfl rfl (by decide) (by decide)) ?_
    simp only [Act.put, pA, pB, pC]
    refine wv (v_eql (n := 1) rfl rfl rfl) ?_
    simp only [Act.put, pA, pB, pC]
    rw [Hod.out]
    refine wv (v_moveT (.inr rfl) rfl) ?_
    simp only [Act.put, pA, pB, pC]
    repeat ((fail_if_success with_reducible show wA ..); (fail_if_success with_reducible show wB ..); go_step)
    refine wv (v_indexA0 (j := 31) rfl rfl rfl Try.underlying22 (by kernel_rfl) (by first | assumption | omega)) ?_
    simp only [Act.put, pA, pB, pC]
    refine wv (v_cell rfl rfl Try.underlying5 rfl (Env.cellv (i := 1) hE2 rfl (ints_get? _ _ _ (by first | assumption | omega | (simp; done) | (simp; omega))))) ?_
    simp only [Act.put, pA, pB, pC]
    rw [Ht.out]
    refine wv (v_mask (c := 127) (s := 7) (d := 128) rfl rfl rfl (by decide) (by decide) rfl (by simp only [IntKind.bits]; omega) (by decide)) ?_
    simp only [Act.put, pA, pB, pC]
    refine wv (v_indexA0 (j := 31) rfl rfl rfl Try.underlying22 (by kernel_rfl) (by first | assumption | omega)) ?_
    simp only [Act.put, pA, pB, pC]
    refine wl_step (st_putN (i := 1) hE2 rfl rfl rfl rfl rfl (by kernel_rfl) (by first | assumption | omega | (simp only [List.length_set, List.length_replicate]; first | assumption | omega)) ?_)
    intro w3 hE3
    clear hE2
    simp only [pB, pC] at hE3
    simp only [Act.put, pA, pB, pC]
    rw [Hbe.out] at hE3
    repeat ((fail_if_success with_reducible show wA ..); (fail_if_success with_reducible show wB ..); go_step)
    refine wv (v_load (i := 1) hE3 rfl rfl rfl Try.underlying22 rfl (szA (n := 32))) ?_
    simp only [Act.put, pA, pB, pC]
    refine wl_step (st_gives hE3 rfl (run_call rfl Try.call39) (HC1.out _) ?_)
    intro w4 hb4 hE4
    clear hE3
    simp only [Act.put, pA, pB, pC]
    refine wv (v_not rfl rfl) ?_
    simp only [Act.put, pA, pB, pC]
    repeat ((fail_if_success with_reducible show wA ..); (fail_if_success with_reducible show wB ..); (fail_if_success (with_reducible show Code.wp _ (Code.cond _ _ _) _ _ _)); go_step)
    refine wp_cond_true (by first | rfl | exact congrArg Value.bool (decide_eq_true (by omega))) ?_
    skip
    repeat ((fail_if_success with_reducible show wA ..); (fail_if_success with_reducible show wB ..); go_step)
    refine wl_step (st_gives hE4 rfl (run_call rfl Try.call26) (PZero_any _) ?_)
    intro w5 hb5 hE5
    clear hE4
    simp only [Act.put, pA, pB, pC]
    refine wl_step (st_store (i := 0) hE5 rfl rfl rfl rfl rfl (szA (n := 20)) (by first | (simp only [ints_size, digs_length, List.length_replicate, List.length_cons, List.length_nil]; done) | (simp only [ints_size, digs_length, List.length_replicate, List.length_cons, List.length_nil, List.length_set, List.length_append]; omega) | rfl) (by first | exact ints_one _ _ | decide | simp [*]) ?_)
    intro w6 hE6
    clear hE5
    simp only [pB, pC] at hE6
    simp only [Act.put, pA, pB, pC]
    refine wv (v_moveC (.inr rfl)) ?_
    simp only [Act.put, pA, pB, pC]
    repeat ((fail_if_success with_reducible show wA ..); (fail_if_success with_reducible show wB ..); go_step)
    refine bodyPost_ret (results_ct rfl _ _ _ _ _ (0, 0) _ rfl (hE6.get (i := 0) rfl) Try.underlying43 rfl (szA (n := 20)) rfl) rfl ⟨rfl, hE6.below⟩
theorem PDecode_yes {b : List Nat} {P : Pt} (hb : b.length = 32) (db : Digs 256 b) (hP : encN P = val 256 b) : ∃ c, PRep c P ∧ ∀ w, Gives 18 #[.agg (ints .u8 b)] w (.tuple #[pt c, .bool true]) := (PDecode_walk hb db _ rfl).1 P hP
theorem PDecode_no {b : List Nat} (hb : b.length = 32) (db : Digs 256 b) (h : ¬ isPt (val 256 b)) (w : World) : Gives 18 #[.agg (ints .u8 b)] w (.tuple #[pt zeroL, .bool false]) := (PDecode_walk hb db _ rfl).2 h w
end Go.Proofs.Ythddoelflmoedaa
