/-
  Layer 7: the halves of 64 bytes; a seed's number and salt; the number of bytes in parts.
  Layer 7: a seed's key, its signature; whether a signature is right.
  Layer 7: whether a signature is right; whether a key is a point's.
  Layer 7: the document's example.
  Layer 7: whether a message is longer than is asked of; signatures compared; slices of two slices.
-/
import Derived.Test.YthddoelflmoedaaGreatJ19
import Derived.Test.YthddoelflmoedaaGreatJ26
import Derived.Test.YthddoelflmoedaaGreatJ27
import Derived.Test.YthddoelflmoedaaGreatJ29
import Derived.Test.YthddoelflmoedaaGreatJ30
import Derived.Test.YthddoelflmoedaaGreatJ33
import Derived.Test.YthddoelflmoedaaGreatJ36
import Derived.Test.YthddoelflmoedaaGreatJ37
set_option linter.unusedVariables false
set_option linter.unusedSimpArgs false
namespace Go.Proofs.YthddoelflmoedaaGreat
open Go.RowKit
set_option maxRecDepth 100000

theorem one_sum512 {l : List Nat} {v : Value} {w : World} (hv : RdSs .u8 [l] v w) (dl : Digs 256 l) (hl : l.length < 549755813888) : Gives 47 #[v] w (.agg (ints .u8 (sum512 l))) := by
 have e : ([l] : List (List Nat)).flatten = l := by simp
 have h := Sum512_any hv (fun r hr => by rw [List.mem_singleton.1 hr]; exact dl) (by rw [e]; exact hl) (show 1 < 9223372036854775808 by decide)
 rwa [e] at h
section
variable {P : Program} {a : Act} {w : World} {o : Oper}
theorem v_andNot7 {t t' : TypeId} {x y : Operand} {m : Nat} (ho : o.op = .binOp .andNot t x y t') (hx : a.eval x = .int .u8 (m : Int)) (hy : a.eval y = .int .u8 7) (hm : m < 256) : Val P o a (.int .u8 ((m / 8 * 8 : Nat) : Int)) w :=
 v_bin ho hx hy fun w => by
  have h : ∀ m : Fin 256, (binOp .andNot t (.int .u8 ((m.val : Nat) : Int)) (.int .u8 7)).run P w = .ok (.int .u8 ((m.val / 8 * 8 : Nat) : Int)) w := by
   intro m
   have h2 : ∀ m : Fin 256, IntKind.u8.wrap (((BitVec.ofInt 8 ((m.val : Nat) : Int) &&& ~~~ (BitVec.ofInt 8 7)).toNat : Nat) : Int) = ((m.val / 8 * 8 : Nat) : Int) := by decide +kernel
   have h3 := h2 m
   simp only [binOp, ne_eq, not_true_eq_false, if_false, Op.intBits, IntKind.bits, Sem.run_pure]
   exact congrArg (fun z => Result.ok (Value.int IntKind.u8 z) w) h3
  exact h ⟨m, hm⟩
end
theorem or64 {x : Nat} (h : x < 256) : x % 128 ||| 64 = x % 64 + 64 := by
 have : ∀ x : Fin 256, x.val % 128 ||| 64 = x.val % 64 + 64 := by decide +kernel
 exact this ⟨x, h⟩

set_option maxHeartbeats 2000000 in
theorem half_lo {l : List Nat} (hl : l.length = 64) (w : World) : Gives 27 #[.agg (ints .u8 l), .bool false] w (.agg (ints .u8 (l.take 32))) := by
 have h32 : (l.take 32).length = 32 := by rw [List.length_take]; omega
 have HP : Hid (∀ (g : Nat) (T : TypeId) (w : World), w.heap[g]? = some (.cells (ints .u8 l) T (0, 0)) → RdS .u8 (l.take 32) (.slice (some ⟨g, 0, none⟩) 32 64) w) := Lib.hid (fun g T w h => by
  have := RdS.part (lo := 0) (n := 32) (c := 64) h (by omega) (by decide)
  rwa [List.drop_zero] at this)
 have hE0 := Env.nil w
 go_enter Tryz.func27, Tryz.ntmps27
 repeat ((fail_if_success refine sqx ?_); go_step)
 refine wl_step (st_boxA hE0 rfl rfl rfl ?_)
 intro g0 w1 hb1 hE1
 clear hE0
 simp only [qZ]
 refine wl_step (sqA (ints .u8 (List.replicate 32 0)) hE1 ?_)
 intro g1 w2 hb2 hE2
 clear hE1
 simp only [qZ]
 repeat ((fail_if_success refine sqx ?_); go_step)
 refine wl_step (sqA (ints .u8 (List.replicate 32 0)) hE2 ?_)
 intro g2 w3 hb3 hE3
 clear hE2
 simp only [qZ]
 repeat ((fail_if_success refine sqx ?_); go_step)
 refine mqA ?_
 repeat ((fail_if_success refine sqy ?_); go_step)
 refine cqF ?_
 skip
 repeat ((fail_if_success refine sqx ?_); go_step)
 refine wp_region_B (n := 3) 2 (by kernel_rfl) rfl hE3 ?_
 intro w4 hb4 hE4
 clear hE3
 refine tqB 0 rfl (v_sliceAll rfl rfl Tryz.underlying22 (by kernel_rfl)) ?_
 refine tqB 1 rfl (v_sliceArrH rfl rfl rfl Tryz.underlying30 (by kernel_rfl) (by decide) (by decide)) ?_
 refine sqB 2 rfl (st_copyAll (i := 0) (m := l.take 32) hE4 rfl rfl rfl rfl (HP.out _ _ _ (hE4.get (i := 2) rfl)) h32 (by decide) Tryz.underlying24 (by kernel_rfl) rfl (by rw [ints_size]; rfl) ?_)
 intro w5 hE5
 clear hE4
 simp only [List.set_cons_zero] at hE5
 refine nqB ?_
 simp only [qZ]
 refine wpB_done (by kernel_rfl) ?_ _
 repeat ((fail_if_success refine sqx ?_); go_step)
 refine wqv (vqL 0 32 hE5 Tryz.underlying22) ?_
 refine wl_step (sqS 1 32 hE5 ?_)
 intro w6 hE6
 clear hE5
 simp only [qpB, qpC] at hE6
 simp only [qZ]
 repeat ((fail_if_success refine sqx ?_); go_step)
 refine bodyPost_ret (results_cell_row rfl _ _ _ _ _ (0, 0) _ rfl (hE6.get (i := 1) rfl) Tryz.underlying22 rfl (szqA (n := 32))) rfl ⟨rfl, hE6.below⟩
set_option maxHeartbeats 2000000 in
theorem half_hi {l : List Nat} (hl : l.length = 64) (w : World) : Gives 27 #[.agg (ints .u8 l), .bool true] w (.agg (ints .u8 (l.drop 32))) := by
 have h32 : (l.drop 32).length = 32 := by rw [List.length_drop]; omega
 have HP : Hid (∀ (g : Nat) (T : TypeId) (w : World), w.heap[g]? = some (.cells (ints .u8 l) T (0, 0)) → RdS .u8 (l.drop 32) (.slice (some ⟨g, 32, none⟩) 32 32) w) := Lib.hid (fun g T w h => by
  have := RdS.part (lo := 32) (n := 32) (c := 32) h (by omega) (by decide)
  rwa [List.take_of_length_le (by omega)] at this)
 have hE0 := Env.nil w
 go_enter Tryz.func27, Tryz.ntmps27
 repeat ((fail_if_success refine sqx ?_); go_step)
 refine wl_step (st_boxA hE0 rfl rfl rfl ?_)
 intro g0 w1 hb1 hE1
 clear hE0
 simp only [qZ]
 refine wl_step (sqA (ints .u8 (List.replicate 32 0)) hE1 ?_)
 intro g1 w2 hb2 hE2
 clear hE1
 simp only [qZ]
 repeat ((fail_if_success refine sqx ?_); go_step)
 refine wl_step (sqA (ints .u8 (List.replicate 32 0)) hE2 ?_)
 intro g2 w3 hb3 hE3
 clear hE2
 simp only [qZ]
 repeat ((fail_if_success refine sqx ?_); go_step)
 refine mqA ?_
 repeat ((fail_if_success refine sqy ?_); go_step)
 refine cqT ?_
 skip
 repeat ((fail_if_success refine sqx ?_); go_step)
 refine wp_region_B (n := 3) 2 (by kernel_rfl) rfl hE3 ?_
 intro w4 hb4 hE4
 clear hE3
 refine tqB 0 rfl (v_sliceAll rfl rfl Tryz.underlying22 (by kernel_rfl)) ?_
 refine tqB 1 rfl (v_sliceArrL rfl rfl rfl Tryz.underlying30 (by kernel_rfl) (by decide)) ?_
 refine sqB 2 rfl (st_copyAll (i := 0) (m := l.drop 32) hE4 rfl rfl rfl rfl (HP.out _ _ _ (hE4.get (i := 2) rfl)) h32 (by decide) Tryz.underlying24 (by kernel_rfl) rfl (by rw [ints_size]; rfl) ?_)
 intro w5 hE5
 clear hE4
 simp only [List.set_cons_zero] at hE5
 refine nqB ?_
 simp only [qZ]
 refine wpB_done (by kernel_rfl) ?_ _
 repeat ((fail_if_success refine sqx ?_); go_step)
 refine wqv (vqL 0 32 hE5 Tryz.underlying22) ?_
 refine wl_step (sqS 1 32 hE5 ?_)
 intro w6 hE6
 clear hE5
 simp only [qpB, qpC] at hE6
 simp only [qZ]
 repeat ((fail_if_success refine sqx ?_); go_step)
 refine bodyPost_ret (results_cell_row rfl _ _ _ _ _ (0, 0) _ rfl (hE6.get (i := 1) rfl) Tryz.underlying22 rfl (szqA (n := 32))) rfl ⟨rfl, hE6.below⟩

set_option maxHeartbeats 8000000 in
theorem split_any {s : List Nat} (hs : s.length = 32) (ds : Digs 256 s) (w : World) : Gives 16 #[.agg (ints .u8 s)] w (.tuple #[.agg (ints .u8 (numL s)), .agg (ints .u8 (saltL s))]) := by
 have HS : Hid (∀ (w : World) (v : Value), RdSs .u8 [s] v w → Gives 47 #[v] w (.agg (ints .u8 (sum512 s)))) := Lib.hid (fun w v hv => one_sum512 hv ds (by omega))
 have e1 : numL s = clampL (sum512 s) := rfl
 have e2 : saltL s = (sum512 s).drop 32 := rfl
 have h64 := sum512_len s
 have dH := sum512_Digs s
 rw [e1, e2]
 obtain ⟨H, hH⟩ : ∃ H, sum512 s = H := ⟨_, rfl⟩
 rw [hH] at HS h64 dH ⊢
 have hd0 := dH.getD (by decide) 0
 have hd31 := dH.getD (by decide) 31
 have hLl : (H.take 32).length = 32 := by rw [List.length_take]; omega
 have hg0 : (H.take 32).getD 0 0 = H.getD 0 0 := by rw [List.getD_eq_getElem?_getD, List.getElem?_take, if_pos (by decide), ← List.getD_eq_getElem?_getD]
 have hg31 : ((H.take 32).set 0 (H.getD 0 0 / 8 * 8)).getD 31 0 = H.getD 31 0 := by
  rw [List.getD_eq_getElem?_getD, List.getElem?_set_ne (by decide), List.getElem?_take, if_pos (by decide), ← List.getD_eq_getElem?_getD]
 have hcl : ((H.take 32).set 0 (H.getD 0 0 / 8 * 8)).set 31 (H.getD 31 0 % 64 + 64) = clampL H := rfl
 have h32 := clampL_len h64
 have hdl : (H.drop 32).length = 32 := by rw [List.length_drop]; omega
 have HL := Lib.hid (fun w => half_lo h64 w)
 have HH := Lib.hid (fun w => half_hi h64 w)
 obtain ⟨x0, hx0⟩ : ∃ x, H.getD 0 0 = x := ⟨_, rfl⟩
 obtain ⟨x1, hx1⟩ : ∃ x, H.getD 31 0 = x := ⟨_, rfl⟩
 obtain ⟨L, hL⟩ : ∃ L, H.take 32 = L := ⟨_, rfl⟩
 obtain ⟨S, hS⟩ : ∃ S, H.drop 32 = S := ⟨_, rfl⟩
 obtain ⟨C, hC⟩ : ∃ C, clampL H = C := ⟨_, rfl⟩
 rw [hx0] at hd0 hg0 hg31 hcl
 rw [hx1] at hd31 hg31 hcl
 rw [hL] at hLl hg0 hg31 hcl HL
 rw [hS] at hdl HH
 rw [hC] at hcl h32
 rw [hS, hC]
 have b1 : x1 % 128 < 2 ^ IntKind.u8.bits := by show _ < 256; omega
 have b2 : 64 < 2 ^ IntKind.u8.bits := by decide
 have hLs : (L.set 0 (x0 / 8 * 8)).length = 32 := by rw [List.length_set]; exact hLl
 have G0 := Lib.hid hg0
 have G1 := Lib.hid hg31
 have E1 := Lib.hid (or64 hd31)
 have HC := Lib.hid hcl
 clear e1 e2 dH hH hg0 hg31 hcl hx0 hx1 hL hS hC ds
 have hE0 := Env.nil w
 go_enter Tryz.func16, Tryz.ntmps16
 repeat ((fail_if_success refine sqx ?_); go_step)
 refine wl_step (st_boxA hE0 rfl rfl rfl ?_)
 intro g0 w1 hb1 hE1
 clear hE0
 simp only [qZ]
 refine wl_step (sqA (ints .u8 (List.replicate 32 0)) hE1 ?_)
 intro g1 w2 hb2 hE2
 clear hE1
 simp only [qZ]
 refine wl_step (sqA (ints .u8 (List.replicate 32 0)) hE2 ?_)
 intro g2 w3 hb3 hE3
 clear hE2
 simp only [qZ]
 repeat ((fail_if_success refine sqx ?_); go_step)
 refine wqv (v_sliceAll rfl rfl Tryz.underlying23 (by kernel_rfl)) ?_
 refine wl_step (st_buildVs [Value.slice (some ⟨g0, 0, none⟩) 32 32] (one_slice) hE3 rfl rfl (by first | rfl | (simp only [List.map_cons, List.map_nil, List.zipIdx_cons, List.zipIdx_nil]; rfl)) rfl (by decide) (by decide) Tryz.underlying64 (by kernel_rfl) Tryz.zeroValue24 ?_)
 intro g3 w4 hb4 hE4
 clear hE3
 simp only [qZ]
 refine wl_step (st_gives hE4 rfl (run_call rfl Tryz.call47) (HS.out _ _ (RdSs.one (hE4.get (i := 0) rfl) (RdS.whole (hE4.get (i := 3) rfl) hs))) ?_)
 intro w5 hb5 hE5
 clear hE4
 simp only [qZ]
 refine wl_step (sqA (ints .u8 (List.replicate 64 0)) hE5 ?_)
 intro g4 w6 hb6 hE6
 clear hE5
 simp only [qZ]
 refine wl_step (sqS 0 64 hE6 ?_)
 intro w7 hE7
 clear hE6
 simp only [qpB, qpC] at hE7
 simp only [qZ]
 repeat ((fail_if_success refine sqx ?_); go_step)
 refine wqv (vqL 0 64 hE7 Tryz.underlying30) ?_
 refine wl_step (st_gives hE7 rfl (run_call rfl Tryz.call27) (HL.out _) ?_)
 intro w8 hb8 hE8
 clear hE7
 simp only [qZ]
 refine wl_step (sqA (ints .u8 (List.replicate 32 0)) hE8 ?_)
 intro g5 w9 hb9 hE9
 clear hE8
 simp only [qZ]
 refine wl_step (sqS 0 32 hE9 ?_)
 intro w10 hE10
 clear hE9
 simp only [qpB, qpC] at hE10
 simp only [qZ]
 repeat ((fail_if_success refine sqx ?_); go_step)
 refine wqv (vqI (j := 0) Tryz.underlying22) ?_
 refine wqv (vqC 0 hE10 Tryz.underlying5) ?_
 rw [G0.out]
 refine wqv (v_andNot7 rfl rfl rfl hd0) ?_
 refine wqv (vqI (j := 0) Tryz.underlying22) ?_
 refine wl_step (st_putN (i := 0) hE10 rfl rfl rfl rfl rfl (by kernel_rfl) (by first | assumption | omega | (simp only [List.length_set, List.length_replicate]; first | assumption | omega)) ?_)
 intro w11 hE11
 clear hE10
 simp only [qpB, qpC] at hE11
 simp only [qZ]
 repeat ((fail_if_success refine sqx ?_); go_step)
 refine wqv (vqI (j := 31) Tryz.underlying22) ?_
 refine wqv (vqC 0 hE11 Tryz.underlying5) ?_
 rw [G1.out]
 refine wqv (v_mask (c := 127) (s := 7) (d := 128) rfl rfl rfl (by decide) (by decide) rfl (by simp only [IntKind.bits]; omega) (by decide)) ?_
 refine wqv (v_bor rfl rfl rfl b1 b2 (w_or rfl b1 b2)) ?_
 rw [E1.out]
 refine wqv (vqI (j := 31) Tryz.underlying22) ?_
 refine wl_step (st_putN (i := 0) hE11 rfl rfl rfl rfl rfl (by kernel_rfl) (by first | assumption | omega | (simp only [List.length_set, List.length_replicate]; first | assumption | omega)) ?_)
 intro w12 hE12
 clear hE11
 simp only [qpB, qpC] at hE12
 simp only [qZ]
 rw [HC.out] at hE12
 repeat ((fail_if_success refine sqx ?_); go_step)
 refine wp_region_B (n := 5) 3 (by kernel_rfl) rfl hE12 ?_
 intro w13 hb13 hE13
 clear hE12
 refine tqB 0 rfl (vqL 0 32 hE13 Tryz.underlying22) ?_
 refine tqB 1 rfl (vqL 1 64 hE13 Tryz.underlying30) ?_
 refine sqB 2 rfl (st_gives hE13 rfl (run_call rfl Tryz.call27) (HH.out _) ?_)
 intro w14 hb14 hE14
 clear hE13
 refine ⟨fun _ => hb14, ?_⟩
 simp only [qZ]
 refine sqB 3 rfl (sqS 4 32 hE14 ?_)
 intro w15 hE15
 clear hE14
 simp only [qpB, qpC] at hE15
 refine nqB ?_
 simp only [qZ]
 refine sqB 4 rfl (sqS 3 32 hE15 ?_)
 intro w16 hE16
 clear hE15
 simp only [qpB, qpC] at hE16
 refine nqB ?_
 simp only [qZ]
 refine wpB_done (by kernel_rfl) ?_ _
 repeat ((fail_if_success refine sqx ?_); go_step)
 refine bodyPost_ret (results_cc rfl _ _ _ _ _ _ _ _ (0, 0) (0, 0) _ _ rfl (hE16.get (i := 4) rfl) Tryz.underlying22 rfl (szqA (n := 32)) rfl (hE16.get (i := 3) rfl) Tryz.underlying22 rfl (szqA (n := 32))) rfl ⟨rfl, hE16.below⟩

set_option maxHeartbeats 4000000 in
theorem hash_any {x y : List Nat} {rows : List (List Nat)} {v u r : Value} {w : World} (hx : RdS .u8 x v w) (hy : RdS .u8 y u w) (hr : RdSs .u8 rows r w) (dx : Digs 256 x) (dy : Digs 256 y) (dr : ∀ l ∈ rows, Digs 256 l) (hl : x.length + y.length + rows.flatten.length < 549755813888) (hn : rows.length < 1099511627776) :
  Gives 24 #[v, u, r] w (.agg (ints .u8 (hashL (x ++ y ++ rows.flatten)))) := by
 obtain ⟨i1, hi1, hz1, hs1, hby1⟩ : ∃ i, Tryz.prog.info? 24 = some i ∧ i.zero = some (.slice none 0 0) ∧ i.size = 1 ∧ i.bytes = 24 := by
  have h : (Tryz.prog.info? 24).map (fun i => (i.zero, i.size, i.bytes)) = some (some (.slice none 0 0), 1, 24) := by kernel_rfl
  exact info_parts h
 have Hi := Lib.hid hi1
 have Hz := Lib.hid hz1
 have Hs := Lib.hid hs1
 have Hby := Lib.hid hby1
 have hfl : ([x, y] ++ rows).flatten = x ++ y ++ rows.flatten := by simp
 have hlen : ([x, y] ++ rows).flatten.length < 549755813888 := by rw [hfl, List.length_append, List.length_append]; exact hl
 have hcnt : ([x, y] ++ rows).length < 9223372036854775808 := by rw [List.length_append]; simp only [List.length_cons, List.length_nil]; omega
 have hdd : ∀ l ∈ [x, y] ++ rows, Digs 256 l := fun l h => by
  rcases List.mem_append.1 h with h | h
  ·simp only [List.mem_cons, List.not_mem_nil, or_false] at h
   rcases h with rfl | rfl <;> assumption
  ·exact dr l h
 have HS : Hid (∀ (w : World) (v : Value), RdSs .u8 ([x, y] ++ rows) v w → Gives 47 #[v] w (.agg (ints .u8 (sum512 (x ++ y ++ rows.flatten))))) := Lib.hid (fun w v hv => by
  have h := Sum512_any hv hdd hlen hcnt
  rwa [hfl] at h)
 have hvs : ∀ j (hj : j < [x, y].length), ∃ z, [v, u][j]? = some z ∧ RdS .u8 [x, y][j] z w := fun j hj => by
  match j, hj with
  | 0, _ => exact ⟨v, rfl, hx⟩
  | 1, _ => exact ⟨u, rfl, hy⟩
 have hone : ∀ z ∈ [v, u], z.cells = #[z] := fun z hz => by
  simp only [List.mem_cons, List.not_mem_nil, or_false] at hz
  obtain ⟨p1, c1, rfl, -⟩ := hx
  obtain ⟨p2, c2, rfl, -⟩ := hy
  rcases hz with rfl | rfl <;> rfl
 have h63 : ([v, u] : List Value).length + rows.length ≤ maxLen := by simp only [List.length_cons, List.length_nil, maxLen]; omega
 have hft : (([v, u] : List Value).length + rows.length) * 24 ≤ 140737488355328 := by simp only [List.length_cons, List.length_nil]; omega
 have Hvs := Lib.hid hvs
 have Hone := Lib.hid hone
 have Hr := Lib.hid hr
 have h64 := sum512_len (x ++ y ++ rows.flatten)
 have HR := Lib.hid (fun w => Reduce_any _ h64 (sum512_Digs (x ++ y ++ rows.flatten)) w)
 have h32 := hashL_len (x ++ y ++ rows.flatten)
 have eh : digs 256 32 (val 256 (sum512 (x ++ y ++ rows.flatten)) % q) = hashL (x ++ y ++ rows.flatten) := rfl
 rw [eh] at HR
 obtain ⟨M, hM⟩ : ∃ M, x ++ y ++ rows.flatten = M := ⟨_, rfl⟩
 rw [hM] at HS h64 HR h32 ⊢
 clear hi1 hz1 hs1 hby1 hfl hlen hcnt hdd hvs hone hr hx hy dx dy dr eh hM hl
 have hE0 := Env.nil w
 go_enter Tryz.func24, Tryz.ntmps24
 repeat ((fail_if_success refine sqx ?_); go_step)
 refine wl_step (sqA (ints .u8 (List.replicate 32 0)) hE0 ?_)
 intro g0 w1 hb1 hE1
 clear hE0
 simp only [qZ]
 repeat ((fail_if_success refine sqx ?_); go_step)
 refine mqA ?_
 refine mqA ?_
 refine wl_step (st_buildVs [v, u] (Hone.out) hE1 rfl rfl (by first | rfl | (simp only [List.map_cons, List.map_nil, List.zipIdx_cons, List.zipIdx_nil]; rfl)) rfl (by decide) (by decide) Tryz.underlying64 (by kernel_rfl) Tryz.zeroValue24 ?_)
 intro g1 w2 hb2 hE2
 clear hE1
 simp only [qZ]
 refine mqA ?_
 refine wl_step (st_appendSs (r0 := [x, y]) (rows := rows) hE2 rfl rfl Tryz.underlying64 Hi.out Hz.out Hs.out rfl Hby.out rfl rfl rfl Hvs.out Hr.out h63 hft ?_)
 intro v3 w3 hE3 hrs
 clear hE2
 simp only [qZ]
 refine wl_step (st_gives hE3 rfl (run_call rfl Tryz.call47) (HS.out _ _ hrs) ?_)
 intro w4 hb4 hE4
 clear hE3
 simp only [qZ]
 refine wl_step (st_gives hE4 rfl (run_call rfl Tryz.call62) (HR.out _) ?_)
 intro w5 hb5 hE5
 clear hE4
 simp only [qZ]
 refine wl_step (sqS 0 32 hE5 ?_)
 intro w6 hE6
 clear hE5
 simp only [qpB, qpC] at hE6
 simp only [qZ]
 repeat ((fail_if_success refine sqx ?_); go_step)
 refine bodyPost_ret (results_cell_row rfl _ _ _ _ _ (0, 0) _ rfl (hE6.get (i := 0) rfl) Tryz.underlying22 rfl (szqA (n := 32))) rfl ⟨rfl, hE6.below⟩
end Go.Proofs.YthddoelflmoedaaGreat
namespace Go.Proofs.YthddoelflmoedaaGreat
open Go.RowKit
set_option maxRecDepth 100000

set_option maxHeartbeats 4000000 in
theorem Public_any {s : List Nat} (hs : s.length = 32) (ds : Digs 256 s) (w : World) : Gives 8 #[.agg (ints .u8 s)] w (.agg (ints .u8 (pubL s))) := by
 obtain ⟨g, hg, Gg⟩ := PBase_any
 obtain ⟨z, hz, Gz⟩ := PMul_any hg (numL_len s) (numL_Digs s)
 have HB := Lib.hid (fun w => PBytes_any hz w)
 have HG := Lib.hid Gg
 have HZ := Lib.hid Gz
 have HS := Lib.hid (fun w => split_any hs ds w)
 have lg := hg.len
 have lz := hz.len
 have l1 := numL_len s
 have l2 := saltL_len s
 have l3 := pubL_len s
 have e : encB (smul (val 256 (numL s)) baseP) = pubL s := rfl
 rw [e] at HB
 clear hg hz Gg Gz e ds
 have hE0 := Env.nil w
 go_enter Tryz.func8, Tryz.ntmps8
 repeat ((fail_if_success refine sqx ?_); go_step)
 refine wl_step (st_boxA hE0 rfl rfl rfl ?_)
 intro g0 w1 hb1 hE1
 clear hE0
 simp only [qZ]
 refine wl_step (sqA (ints .u8 (List.replicate 32 0)) hE1 ?_)
 intro g1 w2 hb2 hE2
 clear hE1
 simp only [qZ]
 repeat ((fail_if_success refine sqx ?_); go_step)
 refine wqv (vqL 1 32 hE2 Tryz.underlying23) ?_
 refine wl_step (st_gives hE2 rfl (run_call rfl Tryz.call16) (HS.out _) ?_)
 intro w3 hb3 hE3
 clear hE2
 simp only [qZ]
 refine mqA ?_
 refine wqv (v_extract rfl rfl rfl) ?_
 refine wqv (v_extract rfl rfl rfl) ?_
 refine wl_step (sqA (ints .u8 (List.replicate 32 0)) hE3 ?_)
 intro g2 w4 hb4 hE4
 clear hE3
 simp only [qZ]
 refine wl_step (sqA (ints .u8 (List.replicate 32 0)) hE4 ?_)
 intro g3 w5 hb5 hE5
 clear hE4
 simp only [qZ]
 refine wl_step (sqS 1 32 hE5 ?_)
 intro w6 hE6
 clear hE5
 simp only [qpB, qpC] at hE6
 simp only [qZ]
 refine wl_step (sqS 0 32 hE6 ?_)
 intro w7 hE7
 clear hE6
 simp only [qpB, qpC] at hE7
 simp only [qZ]
 repeat ((fail_if_success refine sqx ?_); go_step)
 refine wp_region_B (n := 5) 4 (by kernel_rfl) rfl hE7 ?_
 intro w8 hb8 hE8
 clear hE7
 refine tqB 1 rfl (vqL 1 32 hE8 Tryz.underlying22) ?_
 refine sqB 0 rfl (st_gives hE8 rfl (run_call rfl Tryz.call17) (HG.out _) ?_)
 intro w9 hb9 hE9
 clear hE8
 refine ⟨fun _ => hb9, ?_⟩
 simp only [qZ]
 refine sqB 2 rfl (st_gives hE9 rfl (run_call rfl Tryz.call18) (HZ.out _) ?_)
 intro w10 hb10 hE10
 clear hE9
 refine ⟨fun _ => hb10, ?_⟩
 simp only [qZ]
 refine sqB 3 rfl (st_gives hE10 rfl (run_call rfl Tryz.call19) (HB.out _) ?_)
 intro w11 hb11 hE11
 clear hE10
 refine ⟨fun _ => hb11, ?_⟩
 simp only [qZ]
 refine sqB 4 rfl (sqS 2 32 hE11 ?_)
 intro w12 hE12
 clear hE11
 simp only [qpB, qpC] at hE12
 refine nqB ?_
 simp only [qZ]
 refine wpB_done (by kernel_rfl) ?_ _
 repeat ((fail_if_success refine sqx ?_); go_step)
 refine bodyPost_ret (results_cell_row rfl _ _ _ _ _ (0, 0) _ rfl (hE12.get (i := 2) rfl) Tryz.underlying27 rfl (szqA (n := 32))) rfl ⟨rfl, hE12.below⟩

set_option maxHeartbeats 8000000 in
theorem Sign_any {s : List Nat} {rows : List (List Nat)} {r : Value} {w : World} (hs : s.length = 32) (ds : Digs 256 s) (hr : RdSs .u8 rows r w) (dr : ∀ l ∈ rows, Digs 256 l) (hl : rows.flatten.length < 274877906944) (hn : rows.length < 1099511627776) :
  Gives 10 #[.agg (ints .u8 s), r] w (.agg (ints .u8 (sigL s rows.flatten))) := by
 have l1 := numL_len s
 have l2 := saltL_len s
 have l3 := pubL_len s
 have HS := Lib.hid (fun w => split_any hs ds w)
 have HP := Lib.hid (fun w => Public_any hs ds w)
 have Hr := Lib.hid hr
 obtain ⟨M, hM⟩ : ∃ M, rows.flatten = M := ⟨_, rfl⟩
 have H1 : Hid (∀ (w1 : World) (g : Nat), Below w.heap.size w w1 → (∃ T, w1.heap[g]? = some (.cells (ints .u8 (saltL s)) T (0, 0))) → Gives 24 #[.slice (some ⟨g, 0, none⟩) 32 32, .slice none 0 0, r] w1 (.agg (ints .u8 (rL s M)))) := Lib.hid (fun w1 g hb ⟨T, hg⟩ => by
  have h := hash_any (RdS.whole hg l2) (RdS.nil .u8 w1) (hr.below hb) (saltL_Digs s) Digs.nil dr (by rw [l2]; simp only [List.length_nil]; omega) hn
  rw [List.append_nil, hM] at h
  exact h)
 have H2 : Hid (∀ (w1 : World) (g g' : Nat), Below w.heap.size w w1 → (∃ T, w1.heap[g]? = some (.cells (ints .u8 (firstL s M)) T (0, 0))) → (∃ T, w1.heap[g']? = some (.cells (ints .u8 (pubL s)) T (0, 0))) → Gives 24 #[.slice (some ⟨g, 0, none⟩) 32 32, .slice (some ⟨g', 0, none⟩) 32 32, r] w1 (.agg (ints .u8 (kL s M)))) := Lib.hid (fun w1 g g' hb ⟨T, hg⟩ ⟨T', hg'⟩ => by
  have h := hash_any (RdS.whole hg (firstL_len s M)) (RdS.whole hg' l3) (hr.below hb) (firstL_Digs s M) (pubL_Digs s) dr (by rw [l3, firstL_len]; omega) hn
  rw [hM] at h
  exact h)
 obtain ⟨g, hg, Gg⟩ := PBase_any
 obtain ⟨z, hz, Gz⟩ := PMul_any hg (hashL_len (saltL s ++ M)) (hashL_Digs (saltL s ++ M))
 have HB := Lib.hid (fun w => PBytes_any hz w)
 have HG := Lib.hid Gg
 have HZ := Lib.hid Gz
 have lg := hg.len
 have lz := hz.len
 have e1 : encB (smul (val 256 (hashL (saltL s ++ M))) baseP) = firstL s M := rfl
 have e2 : hashL (saltL s ++ M) = rL s M := rfl
 have HM := Lib.hid (fun w => MulAdd_any (kL s M) (numL s) (rL s M) (hashL_len _) l1 (hashL_len _) (hashL_Digs _) (numL_Digs s) (hashL_Digs _) w)
 have e3 : digs 256 32 ((val 256 (kL s M) * val 256 (numL s) + val 256 (rL s M)) % q) = lastL s M := rfl
 rw [e1] at HB
 rw [e2] at HZ
 rw [e3] at HM
 have l4 : (rL s M).length = 32 := hashL_len _
 have l5 := firstL_len s M
 have l6 := lastL_len s M
 have hz1 : (List.replicate 64 0).take 0 ++ firstL s M ++ (List.replicate 64 0).drop (0 + 32) = firstL s M ++ List.replicate 32 0 := by simp
 have hz2 : (firstL s M ++ List.replicate 32 0).take 32 ++ lastL s M ++ (firstL s M ++ List.replicate 32 0).drop (32 + 32) = sigL s M := by
  rw [List.take_left' l5, List.drop_of_length_le (by rw [List.length_append, List.length_replicate]; omega), List.append_nil]
  rfl
 have l7 : (firstL s M ++ List.replicate 32 0).length = 64 := by rw [List.length_append, List.length_replicate]; omega
 have l8 := sigL_len s M
 have Z1 := Lib.hid hz1
 have Z2 := Lib.hid hz2
 rw [hM]
 clear hg hz Gg Gz e1 e2 e3 ds hr dr hz1 hz2 hM hl
 have hE0 := Env.nil w
 go_enter Tryz.func10, Tryz.ntmps10
 repeat ((fail_if_success refine sqx ?_); go_step)
 refine wl_step (st_boxA hE0 rfl rfl rfl ?_)
 intro g0 w1 hb1 hE1
 clear hE0
 simp only [qZ]
 refine wl_step (sqA (ints .u8 (List.replicate 64 0)) hE1 ?_)
 intro g1 w2 hb2 hE2
 clear hE1
 simp only [qZ]
 repeat ((fail_if_success refine sqx ?_); go_step)
 refine wqv (vqL 1 32 hE2 Tryz.underlying23) ?_
 refine wl_step (st_gives hE2 rfl (run_call rfl Tryz.call16) (HS.out _) ?_)
 intro w3 hb3 hE3
 clear hE2
 simp only [qZ]
 refine mqA ?_
 refine wqv (v_extract rfl rfl rfl) ?_
 refine wqv (v_extract rfl rfl rfl) ?_
 refine wl_step (sqA (ints .u8 (List.replicate 32 0)) hE3 ?_)
 intro g2 w4 hb4 hE4
 clear hE3
 simp only [qZ]
 refine wl_step (sqA (ints .u8 (List.replicate 32 0)) hE4 ?_)
 intro g3 w5 hb5 hE5
 clear hE4
 simp only [qZ]
 refine wl_step (sqS 1 32 hE5 ?_)
 intro w6 hE6
 clear hE5
 simp only [qpB, qpC] at hE6
 simp only [qZ]
 refine wl_step (sqS 0 32 hE6 ?_)
 intro w7 hE7
 clear hE6
 simp only [qpB, qpC] at hE7
 simp only [qZ]
 repeat ((fail_if_success refine sqx ?_); go_step)
 refine wqv (vqL 3 32 hE7 Tryz.underlying23) ?_
 refine wl_step (st_gives hE7 rfl (run_call rfl Tryz.call8) (HP.out _) ?_)
 intro w8 hb8 hE8
 clear hE7
 simp only [qZ]
 refine wl_step (sqA (ints .u8 (List.replicate 32 0)) hE8 ?_)
 intro g4 w9 hb9 hE9
 clear hE8
 simp only [qZ]
 refine wl_step (sqS 0 32 hE9 ?_)
 intro w10 hE10
 clear hE9
 simp only [qpB, qpC] at hE10
 simp only [qZ]
 repeat ((fail_if_success refine sqx ?_); go_step)
 refine wqv (v_sliceAll rfl rfl Tryz.underlying22 (by kernel_rfl)) ?_
 refine mqA ?_
 refine wl_step (st_gives hE10 rfl (run_call rfl Tryz.call24) (H1.out _ _ hE10.below ⟨_, hE10.get (i := 1) rfl⟩) ?_)
 intro w11 hb11 hE11
 clear hE10
 simp only [qZ]
 refine wl_step (sqA (ints .u8 (List.replicate 32 0)) hE11 ?_)
 intro g5 w12 hb12 hE12
 clear hE11
 simp only [qZ]
 refine wl_step (sqS 0 32 hE12 ?_)
 intro w13 hE13
 clear hE12
 simp only [qpB, qpC] at hE13
 simp only [qZ]
 repeat ((fail_if_success refine sqx ?_); go_step)
 refine wp_region_env 5 (by kernel_rfl) (by kernel_rfl) (fun _ _ d _ _ h => by cases d <;> exact h) hE13 ?_
 refine headRun_call (fun w1 => run_call rfl Tryz.call17) (fun w1 hW => HG.out _) ?_
 simp only [qZ]
 refine hqv (fun _ hW => (vqL 0 32 hW Tryz.underlying22)) ?_
 refine headRun_call (fun w1 => run_call rfl Tryz.call18) (fun w1 hW => HZ.out _) ?_
 simp only [qZ]
 refine headRun_call (fun w1 => run_call rfl Tryz.call19) (fun w1 hW => HB.out _) ?_
 simp only [qZ]
 refine headRun_alloc (zs := ints .u8 (List.replicate 32 0)) rfl rfl (fun w => by kernel_rfl) ?_
 simp only [qZ]
 refine headRun_nil (endK1 ?_)
 intro g6 w14 hE14
 clear hE13
 simp only [List.drop_succ_cons, List.drop_zero, Act.put, qpA, qpB, qpC]
 refine wl_step (sqS 0 32 hE14 ?_)
 intro w15 hE15
 clear hE14
 simp only [qpB, qpC] at hE15
 simp only [qZ]
 repeat ((fail_if_success refine sqx ?_); go_step)
 refine wp_region_env 8 (by kernel_rfl) (by kernel_rfl) (fun _ _ d _ _ h => by cases d <;> exact h) hE15 ?_
 refine hqv (fun _ hW => (v_sliceAll rfl rfl Tryz.underlying22 (by kernel_rfl))) ?_
 refine hqv (fun _ hW => (v_sliceAll rfl rfl Tryz.underlying27 (by kernel_rfl))) ?_
 refine hqv (fun _ hW => (v_moveT (.inl rfl) rfl)) ?_
 refine headRun_call (fun w1 => run_call rfl Tryz.call24) (fun w1 hW => H2.out _ _ _ hW.below ⟨_, hW.get (i := 0) rfl⟩ ⟨_, hW.get (i := 2) rfl⟩) ?_
 simp only [qZ]
 refine hqv (fun _ hW => (vqL 4 32 hW Tryz.underlying22)) ?_
 refine hqv (fun _ hW => (vqL 1 32 hW Tryz.underlying22)) ?_
 refine headRun_call (fun w1 => run_call rfl Tryz.call25) (fun w1 hW => HM.out _) ?_
 simp only [qZ]
 refine headRun_alloc (zs := ints .u8 (List.replicate 32 0)) rfl rfl (fun w => by kernel_rfl) ?_
 simp only [qZ]
 refine headRun_nil (endK1 ?_)
 intro g7 w16 hE16
 clear hE15
 simp only [List.drop_succ_cons, List.drop_zero, Act.put, qpA, qpB, qpC]
 refine wl_step (sqS 0 32 hE16 ?_)
 intro w17 hE17
 clear hE16
 simp only [qpB, qpC] at hE17
 simp only [qZ]
 repeat ((fail_if_success refine sqx ?_); go_step)
 refine wl_step (sqA (ints .u8 (List.replicate 64 0)) hE17 ?_)
 intro g8 w18 hb18 hE18
 clear hE17
 simp only [qZ]
 repeat ((fail_if_success refine sqx ?_); go_step)
 refine wp_region_B (n := 3) 2 (by kernel_rfl) rfl hE18 ?_
 intro w19 hb19 hE19
 clear hE18
 refine tqB 0 rfl (v_sliceArrH rfl rfl rfl Tryz.underlying31 (by kernel_rfl) (by decide) (by decide)) ?_
 refine tqB 1 rfl (v_sliceAll rfl rfl Tryz.underlying22 (by kernel_rfl)) ?_
 refine sqB 2 rfl (st_copyInto (i := 0) Z1.out hE19 rfl rfl rfl rfl (RdS.whole (hE19.get (i := 2) rfl) l5) l5 (by decide) Tryz.underlying24 (by kernel_rfl) rfl (by rw [List.length_replicate]; decide) ?_)
 intro w20 hE20
 clear hE19
 simp only [qpB, qpC] at hE20
 refine nqB ?_
 simp only [qZ]
 refine wpB_done (by kernel_rfl) ?_ _
 repeat ((fail_if_success refine sqx ?_); go_step)
 refine wp_region_B (n := 3) 2 (by kernel_rfl) rfl hE20 ?_
 intro w21 hb21 hE21
 clear hE20
 refine tqB 0 rfl (v_sliceArrL rfl rfl rfl Tryz.underlying31 (by kernel_rfl) (by decide)) ?_
 refine tqB 1 rfl (v_sliceAll rfl rfl Tryz.underlying22 (by kernel_rfl)) ?_
 refine sqB 2 rfl (st_copyInto (i := 0) Z2.out hE21 rfl rfl rfl rfl (RdS.whole (hE21.get (i := 1) rfl) l6) l6 (by decide) Tryz.underlying24 (by kernel_rfl) rfl (by rw [l7]; decide) ?_)
 intro w22 hE22
 clear hE21
 simp only [qpB, qpC] at hE22
 refine nqB ?_
 simp only [qZ]
 refine wpB_done (by kernel_rfl) ?_ _
 repeat ((fail_if_success refine sqx ?_); go_step)
 refine wqv (vqL 0 64 hE22 Tryz.underlying31) ?_
 refine wl_step (sqS 7 64 hE22 ?_)
 intro w23 hE23
 clear hE22
 simp only [qpB, qpC] at hE23
 simp only [qZ]
 repeat ((fail_if_success refine sqx ?_); go_step)
 refine bodyPost_ret (results_cell_row rfl _ _ _ _ _ (0, 0) _ rfl (hE23.get (i := 7) rfl) Tryz.underlying31 rfl (szqA (n := 64))) rfl ⟨rfl, hE23.below⟩
end Go.Proofs.YthddoelflmoedaaGreat
namespace Go.Proofs.YthddoelflmoedaaGreat
open Go.RowKit
set_option maxRecDepth 100000

section
variable {a : Act} {w : World} {o : Oper}
theorem v_eqS32b {t' : TypeId} {x y : Operand} {l m : List Nat} (ho : o.op = .binOp .eql 22 x y t') (hx : a.eval x = .agg (ints .u8 l)) (hy : a.eval y = .agg (ints .u8 m)) (hl : l.length = 32) (hm : m.length = 32) : Val Tryz.prog o a (.bool (decide (l = m))) w :=
 v_eqInts ho hx hy (by kernel_rfl) Tryz.underlying22 Tryz.underlying5 (size_run (by kernel_rfl)) hl hm
end
set_option maxHeartbeats 8000000 in
theorem Verify_yes {key G : List Nat} {P : Pt} {rows : List (List Nat)} {r : Value} {w : World} (hk : key.length = 32) (dk : Digs 256 key) (hg : G.length = 64) (dg : Digs 256 G) (hr : RdSs .u8 rows r w) (dr : ∀ l ∈ rows, Digs 256 l) (hl : rows.flatten.length < 274877906944) (hn : rows.length < 1099511627776)
  (hP : encN P = val 256 key) (hS : val 256 (G.drop 32) < q) :
  Gives 12 #[.agg (ints .u8 key), .agg (ints .u8 G), r] w (.bool (decide (encB (verP key (G.take 32) (G.drop 32) rows.flatten P) = G.take 32))) := by
 have HL := Lib.hid (fun w => half_lo hg w)
 have HH := Lib.hid (fun w => half_hi hg w)
 have lf : (G.take 32).length = 32 := by rw [List.length_take]; omega
 have ls : (G.drop 32).length = 32 := by rw [List.length_drop]; omega
 have df := dg.take 32
 have dS := dg.drop 32
 obtain ⟨F, hF⟩ : ∃ F, G.take 32 = F := ⟨_, rfl⟩
 obtain ⟨S, hSS⟩ : ∃ S, G.drop 32 = S := ⟨_, rfl⟩
 rw [hF] at HL lf df ⊢
 rw [hSS] at HH ls dS hS ⊢
 have HBl := Lib.hid (fun w => Below_any S ls dS w)
 rw [decide_eq_true hS] at HBl
 obtain ⟨M, hM⟩ : ∃ M, rows.flatten = M := ⟨_, rfl⟩
 have H1 : Hid (∀ (w1 : World) (g g' : Nat), Below w.heap.size w w1 → (∃ T, w1.heap[g]? = some (.cells (ints .u8 F) T (0, 0))) → (∃ T, w1.heap[g']? = some (.cells (ints .u8 key) T (0, 0))) → Gives 24 #[.slice (some ⟨g, 0, none⟩) 32 32, .slice (some ⟨g', 0, none⟩) 32 32, r] w1 (.agg (ints .u8 (hashL (F ++ key ++ M))))) := Lib.hid (fun w1 g g' hb ⟨T, hg⟩ ⟨T', hg'⟩ => by
  have h := hash_any (RdS.whole hg lf) (RdS.whole hg' hk) (hr.below hb) df dk dr (by rw [lf, hk]; omega) hn
  rw [hM] at h
  exact h)
 rw [hM]
 obtain ⟨c, hc, Gc⟩ := PDecode_yes hk dk hP
 obtain ⟨n, hn', Gn⟩ := PNeg_any hc
 obtain ⟨b, hb, Gb⟩ := PBoth_any hn' (hashL_len (F ++ key ++ M)) (hashL_Digs (F ++ key ++ M)) ls dS
 have HD := Lib.hid Gc
 have HN := Lib.hid Gn
 have HB := Lib.hid Gb
 have HY := Lib.hid (fun w => PBytes_any hb w)
 have lc := hc.len
 have ln := hn'.len
 have lb := hb.len
 have e : padd (smul (val 256 (hashL (F ++ key ++ M))) (pneg P)) (smul (val 256 S) baseP) = verP key F S M P := rfl
 rw [e] at HY
 have l1 := hashL_len (F ++ key ++ M)
 have l2 := encB_len (verP key F S M P)
 obtain ⟨Y, hY⟩ : ∃ Y, encB (verP key F S M P) = Y := ⟨_, rfl⟩
 obtain ⟨X, hX⟩ : ∃ X, hashL (F ++ key ++ M) = X := ⟨_, rfl⟩
 rw [hY] at HY l2 ⊢
 rw [hX] at H1 HB l1
 clear e hY hX hb hn' hc Gc Gn Gb hM hF hSS dk dg df dS hr dr hl hP hS
 have hE0 := Env.nil w
 go_enter Tryz.func12, Tryz.ntmps12
 repeat ((fail_if_success refine sqx ?_); go_step)
 refine wl_step (st_boxA hE0 rfl rfl rfl ?_)
 intro g0 w1 hb1 hE1
 clear hE0
 simp only [qZ]
 refine wl_step (st_boxA hE1 rfl rfl rfl ?_)
 intro g1 w2 hb2 hE2
 clear hE1
 simp only [qZ]
 refine mqC ?_
 repeat ((fail_if_success refine sqx ?_); go_step)
 refine wp_region_env 6 (by kernel_rfl) (by kernel_rfl) (fun _ _ d _ _ h => by cases d <;> exact h) hE2 ?_
 refine hqv (fun _ hW => (vqL 0 64 hW Tryz.underlying31)) ?_
 refine headRun_call (fun w1 => run_call rfl Tryz.call27) (fun w1 hW => HL.out _) ?_
 simp only [qZ]
 refine hqv (fun _ hW => (vqL 0 64 hW Tryz.underlying31)) ?_
 refine headRun_call (fun w1 => run_call rfl Tryz.call27) (fun w1 hW => HH.out _) ?_
 simp only [qZ]
 refine headRun_alloc (zs := ints .u8 (List.replicate 32 0)) rfl rfl (fun w => by kernel_rfl) ?_
 simp only [qZ]
 refine headRun_alloc (zs := ints .u8 (List.replicate 32 0)) rfl rfl (fun w => by kernel_rfl) ?_
 simp only [qZ]
 refine headRun_nil (endK2 ?_)
 intro g2 g3 w3 hE3
 clear hE2
 simp only [List.drop_succ_cons, List.drop_zero, Act.put, qpA, qpB, qpC]
 refine wl_step (sqS 0 32 hE3 ?_)
 intro w4 hE4
 clear hE3
 simp only [qpB, qpC] at hE4
 simp only [qZ]
 refine wl_step (sqS 1 32 hE4 ?_)
 intro w5 hE5
 clear hE4
 simp only [qpB, qpC] at hE5
 simp only [qZ]
 repeat ((fail_if_success refine sqx ?_); go_step)
 refine wqv (vqL 3 32 hE5 Tryz.underlying27) ?_
 refine wl_step (st_gives hE5 rfl (run_call rfl Tryz.call28) (HD.out _) ?_)
 intro w6 hb6 hE6
 clear hE5
 simp only [qZ]
 refine mqA ?_
 refine wqv (v_extract rfl rfl rfl) ?_
 refine wqv (v_extract rfl rfl rfl) ?_
 refine wl_step (sqA (ints .u64 (List.replicate 20 0)) hE6 ?_)
 intro g4 w7 hb7 hE7
 clear hE6
 simp only [qZ]
 refine wl_step (sqS 0 20 hE7 ?_)
 intro w8 hE8
 clear hE7
 simp only [qpB, qpC] at hE8
 simp only [qZ]
 refine mqB ?_
 repeat ((fail_if_success refine sqx ?_); go_step)
 refine mqA ?_
 refine wqv (v_not rfl rfl) ?_
 refine mqA ?_
 refine wqv (vqL 2 32 hE8 Tryz.underlying22) ?_
 refine wl_step (st_gives hE8 rfl (run_call rfl Tryz.call29) (HBl.out _) ?_)
 intro w9 hb9 hE9
 clear hE8
 simp only [qZ]
 refine wqv (v_not rfl rfl) ?_
 refine wqv (v_or rfl rfl (fun _ => rfl)) ?_
 repeat ((fail_if_success refine sqy ?_); go_step)
 refine cqF ?_
 skip
 repeat ((fail_if_success refine sqx ?_); go_step)
 refine wp_region_env 5 (by kernel_rfl) (by kernel_rfl) (fun _ _ d _ _ h => by cases d <;> exact h) hE9 ?_
 refine hqv (fun _ hW => (v_sliceAll rfl rfl Tryz.underlying22 (by kernel_rfl))) ?_
 refine hqv (fun _ hW => (v_sliceAll rfl rfl Tryz.underlying27 (by kernel_rfl))) ?_
 refine hqv (fun _ hW => (v_moveT (.inl rfl) rfl)) ?_
 refine headRun_call (fun w1 => run_call rfl Tryz.call24) (fun w1 hW => H1.out _ _ _ hW.below ⟨_, hW.get (i := 1) rfl⟩ ⟨_, hW.get (i := 4) rfl⟩) ?_
 simp only [qZ]
 refine headRun_alloc (zs := ints .u8 (List.replicate 32 0)) rfl rfl (fun w => by kernel_rfl) ?_
 simp only [qZ]
 refine headRun_nil (endK1 ?_)
 intro g5 w10 hE10
 clear hE9
 simp only [List.drop_succ_cons, List.drop_zero, Act.put, qpA, qpB, qpC]
 refine wl_step (sqS 0 32 hE10 ?_)
 intro w11 hE11
 clear hE10
 simp only [qpB, qpC] at hE11
 simp only [qZ]
 repeat ((fail_if_success refine sqx ?_); go_step)
 refine wp_region_B (n := 9) 8 (by kernel_rfl) rfl hE11 ?_
 intro w12 hb12 hE12
 clear hE11
 refine tqB 0 rfl (vqL 0 32 hE12 Tryz.underlying22) ?_
 refine tqB 1 rfl (vqL 1 20 hE12 Tryz.underlying55) ?_
 refine tqB 3 rfl (vqL 3 32 hE12 Tryz.underlying22) ?_
 refine tqB 6 rfl (vqL 2 32 hE12 Tryz.underlying22) ?_
 refine sqB 2 rfl (st_gives hE12 rfl (run_call rfl Tryz.call31) (HN.out _) ?_)
 intro w13 hb13 hE13
 clear hE12
 refine ⟨fun _ => hb13, ?_⟩
 simp only [qZ]
 refine sqB 4 rfl (st_gives hE13 rfl (run_call rfl Tryz.call30) (HB.out _) ?_)
 intro w14 hb14 hE14
 clear hE13
 refine ⟨fun _ => hb14, ?_⟩
 simp only [qZ]
 refine sqB 5 rfl (st_gives hE14 rfl (run_call rfl Tryz.call19) (HY.out _) ?_)
 intro w15 hb15 hE15
 clear hE14
 refine ⟨fun _ => hb15, ?_⟩
 simp only [qZ]
 refine tqB 7 rfl (v_eqS32b rfl rfl rfl l2 lf) ?_
 refine sqB 8 rfl (st_val rfl (v_moveT (.inr rfl) rfl) ?_)
 refine ⟨fun _ => Below.refl _ _, ?_⟩
 simp only [qZ]
 refine wpB_done (by kernel_rfl) ?_ _
 repeat ((fail_if_success refine sqx ?_); go_step)
 go_returns
 exact ⟨rfl, hE15.below⟩
set_option maxHeartbeats 4000000 in
theorem Verify_noS {key G : List Nat} {P : Pt} {r : Value} {w : World} (hk : key.length = 32) (dk : Digs 256 key) (hg : G.length = 64) (dg : Digs 256 G) (hP : encN P = val 256 key) (hS : ¬ val 256 (G.drop 32) < q) :
  Gives 12 #[.agg (ints .u8 key), .agg (ints .u8 G), r] w (.bool false) := by
 have HL := Lib.hid (fun w => half_lo hg w)
 have HH := Lib.hid (fun w => half_hi hg w)
 have lf : (G.take 32).length = 32 := by rw [List.length_take]; omega
 have ls : (G.drop 32).length = 32 := by rw [List.length_drop]; omega
 have dS := dg.drop 32
 have HBl := Lib.hid (fun w => Below_any (G.drop 32) ls dS w)
 rw [decide_eq_false hS] at HBl
 obtain ⟨F, hF⟩ : ∃ F, G.take 32 = F := ⟨_, rfl⟩
 obtain ⟨S, hSS⟩ : ∃ S, G.drop 32 = S := ⟨_, rfl⟩
 rw [hF] at HL lf
 rw [hSS] at HH ls HBl
 obtain ⟨c, hc, Gc⟩ := PDecode_yes hk dk hP
 have HD := Lib.hid Gc
 have lc := hc.len
 clear hc Gc hF hSS dk dg dS hP hS
 have hE0 := Env.nil w
 go_enter Tryz.func12, Tryz.ntmps12
 repeat ((fail_if_success refine sqx ?_); go_step)
 refine wl_step (st_boxA hE0 rfl rfl rfl ?_)
 intro g0 w1 hb1 hE1
 clear hE0
 simp only [qZ]
 refine wl_step (st_boxA hE1 rfl rfl rfl ?_)
 intro g1 w2 hb2 hE2
 clear hE1
 simp only [qZ]
 refine mqC ?_
 repeat ((fail_if_success refine sqx ?_); go_step)
 refine wp_region_env 6 (by kernel_rfl) (by kernel_rfl) (fun _ _ d _ _ h => by cases d <;> exact h) hE2 ?_
 refine hqv (fun _ hW => (vqL 0 64 hW Tryz.underlying31)) ?_
 refine headRun_call (fun w1 => run_call rfl Tryz.call27) (fun w1 hW => HL.out _) ?_
 simp only [qZ]
 refine hqv (fun _ hW => (vqL 0 64 hW Tryz.underlying31)) ?_
 refine headRun_call (fun w1 => run_call rfl Tryz.call27) (fun w1 hW => HH.out _) ?_
 simp only [qZ]
 refine headRun_alloc (zs := ints .u8 (List.replicate 32 0)) rfl rfl (fun w => by kernel_rfl) ?_
 simp only [qZ]
 refine headRun_alloc (zs := ints .u8 (List.replicate 32 0)) rfl rfl (fun w => by kernel_rfl) ?_
 simp only [qZ]
 refine headRun_nil (endK2 ?_)
 intro g2 g3 w3 hE3
 clear hE2
 simp only [List.drop_succ_cons, List.drop_zero, Act.put, qpA, qpB, qpC]
 refine wl_step (sqS 0 32 hE3 ?_)
 intro w4 hE4
 clear hE3
 simp only [qpB, qpC] at hE4
 simp only [qZ]
 refine wl_step (sqS 1 32 hE4 ?_)
 intro w5 hE5
 clear hE4
 simp only [qpB, qpC] at hE5
 simp only [qZ]
 repeat ((fail_if_success refine sqx ?_); go_step)
 refine wqv (vqL 3 32 hE5 Tryz.underlying27) ?_
 refine wl_step (st_gives hE5 rfl (run_call rfl Tryz.call28) (HD.out _) ?_)
 intro w6 hb6 hE6
 clear hE5
 simp only [qZ]
 refine mqA ?_
 refine wqv (v_extract rfl rfl rfl) ?_
 refine wqv (v_extract rfl rfl rfl) ?_
 refine wl_step (sqA (ints .u64 (List.replicate 20 0)) hE6 ?_)
 intro g4 w7 hb7 hE7
 clear hE6
 simp only [qZ]
 refine wl_step (sqS 0 20 hE7 ?_)
 intro w8 hE8
 clear hE7
 simp only [qpB, qpC] at hE8
 simp only [qZ]
 refine mqB ?_
 repeat ((fail_if_success refine sqx ?_); go_step)
 refine mqA ?_
 refine wqv (v_not rfl rfl) ?_
 refine mqA ?_
 refine wqv (vqL 2 32 hE8 Tryz.underlying22) ?_
 refine wl_step (st_gives hE8 rfl (run_call rfl Tryz.call29) (HBl.out _) ?_)
 intro w9 hb9 hE9
 clear hE8
 simp only [qZ]
 refine wqv (v_not rfl rfl) ?_
 refine wqv (v_or rfl rfl (fun _ => rfl)) ?_
 repeat ((fail_if_success refine sqy ?_); go_step)
 refine cqT ?_
 skip
 repeat ((fail_if_success refine sqx ?_); go_step)
 refine mqC ?_
 repeat ((fail_if_success refine sqx ?_); go_step)
 go_returns
 exact ⟨rfl, hE9.below⟩
set_option maxHeartbeats 4000000 in
theorem Verify_noP {key G : List Nat} {r : Value} {w : World} (hk : key.length = 32) (dk : Digs 256 key) (hg : G.length = 64) (hP : ¬ isPt (val 256 key)) :
  Gives 12 #[.agg (ints .u8 key), .agg (ints .u8 G), r] w (.bool false) := by
 have HL := Lib.hid (fun w => half_lo hg w)
 have HH := Lib.hid (fun w => half_hi hg w)
 have lf : (G.take 32).length = 32 := by rw [List.length_take]; omega
 have ls : (G.drop 32).length = 32 := by rw [List.length_drop]; omega
 obtain ⟨F, hF⟩ : ∃ F, G.take 32 = F := ⟨_, rfl⟩
 obtain ⟨S, hSS⟩ : ∃ S, G.drop 32 = S := ⟨_, rfl⟩
 rw [hF] at HL lf
 rw [hSS] at HH ls
 have HD := Lib.hid (fun w => PDecode_no hk dk hP w)
 have lz : zeroL.length = 20 := rfl
 clear hF hSS dk hP
 have hE0 := Env.nil w
 go_enter Tryz.func12, Tryz.ntmps12
 repeat ((fail_if_success refine sqx ?_); go_step)
 refine wl_step (st_boxA hE0 rfl rfl rfl ?_)
 intro g0 w1 hb1 hE1
 clear hE0
 simp only [qZ]
 refine wl_step (st_boxA hE1 rfl rfl rfl ?_)
 intro g1 w2 hb2 hE2
 clear hE1
 simp only [qZ]
 refine mqC ?_
 repeat ((fail_if_success refine sqx ?_); go_step)
 refine wp_region_env 6 (by kernel_rfl) (by kernel_rfl) (fun _ _ d _ _ h => by cases d <;> exact h) hE2 ?_
 refine hqv (fun _ hW => (vqL 0 64 hW Tryz.underlying31)) ?_
 refine headRun_call (fun w1 => run_call rfl Tryz.call27) (fun w1 hW => HL.out _) ?_
 simp only [qZ]
 refine hqv (fun _ hW => (vqL 0 64 hW Tryz.underlying31)) ?_
 refine headRun_call (fun w1 => run_call rfl Tryz.call27) (fun w1 hW => HH.out _) ?_
 simp only [qZ]
 refine headRun_alloc (zs := ints .u8 (List.replicate 32 0)) rfl rfl (fun w => by kernel_rfl) ?_
 simp only [qZ]
 refine headRun_alloc (zs := ints .u8 (List.replicate 32 0)) rfl rfl (fun w => by kernel_rfl) ?_
 simp only [qZ]
 refine headRun_nil (endK2 ?_)
 intro g2 g3 w3 hE3
 clear hE2
 simp only [List.drop_succ_cons, List.drop_zero, Act.put, qpA, qpB, qpC]
 refine wl_step (sqS 0 32 hE3 ?_)
 intro w4 hE4
 clear hE3
 simp only [qpB, qpC] at hE4
 simp only [qZ]
 refine wl_step (sqS 1 32 hE4 ?_)
 intro w5 hE5
 clear hE4
 simp only [qpB, qpC] at hE5
 simp only [qZ]
 repeat ((fail_if_success refine sqx ?_); go_step)
 refine wqv (vqL 3 32 hE5 Tryz.underlying27) ?_
 refine wl_step (st_gives hE5 rfl (run_call rfl Tryz.call28) (HD.out _) ?_)
 intro w6 hb6 hE6
 clear hE5
 simp only [qZ]
 refine mqA ?_
 refine wqv (v_extract rfl rfl rfl) ?_
 refine wqv (v_extract rfl rfl rfl) ?_
 refine wl_step (sqA (ints .u64 (List.replicate 20 0)) hE6 ?_)
 intro g4 w7 hb7 hE7
 clear hE6
 simp only [qZ]
 refine wl_step (sqS 0 20 hE7 ?_)
 intro w8 hE8
 clear hE7
 simp only [qpB, qpC] at hE8
 simp only [qZ]
 refine mqB ?_
 repeat ((fail_if_success refine sqx ?_); go_step)
 refine mqA ?_
 refine wqv (v_not rfl rfl) ?_
 refine mqA ?_
 refine wl_step (st_skip rfl ?_)
 simp only [qZ]
 refine wl_step (st_skip rfl ?_)
 simp only [qZ]
 refine wl_step (st_skip rfl ?_)
 simp only [qZ]
 refine wqv (v_orT rfl rfl) ?_
 repeat ((fail_if_success refine sqy ?_); go_step)
 refine cqT ?_
 skip
 repeat ((fail_if_success refine sqx ?_); go_step)
 refine mqC ?_
 repeat ((fail_if_success refine sqx ?_); go_step)
 go_returns
 exact ⟨rfl, hE8.below⟩
set_option maxHeartbeats 4000000 in
theorem Known_yes {key : List Nat} {P : Pt} {w : World} (hk : key.length = 32) (dk : Digs 256 key) (hP : encN P = val 256 key) : Gives 15 #[.agg (ints .u8 key)] w (.bool true) := by
 obtain ⟨c, hc, Gc⟩ := PDecode_yes hk dk hP
 have HD := Lib.hid Gc
 have lc := hc.len
 clear hc Gc hP dk
 have hE0 := Env.nil w
 go_enter Tryz.func15, Tryz.ntmps15
 repeat ((fail_if_success refine sqx ?_); go_step)
 refine wl_step (st_boxA hE0 rfl rfl rfl ?_)
 intro g0 w1 hb1 hE1
 clear hE0
 simp only [qZ]
 refine mqC ?_
 repeat ((fail_if_success refine sqx ?_); go_step)
 refine wqv (vqL 0 32 hE1 Tryz.underlying27) ?_
 refine wl_step (st_gives hE1 rfl (run_call rfl Tryz.call28) (HD.out _) ?_)
 intro w2 hb2 hE2
 clear hE1
 simp only [qZ]
 refine mqA ?_
 refine wqv (v_extract rfl rfl rfl) ?_
 refine wqv (v_extract rfl rfl rfl) ?_
 refine wl_step (sqA (ints .u64 (List.replicate 20 0)) hE2 ?_)
 intro g1 w3 hb3 hE3
 clear hE2
 simp only [qZ]
 refine wl_step (sqS 0 20 hE3 ?_)
 intro w4 hE4
 clear hE3
 simp only [qpB, qpC] at hE4
 simp only [qZ]
 refine mqB ?_
 repeat ((fail_if_success refine sqx ?_); go_step)
 refine mqA ?_
 refine mqB ?_
 repeat ((fail_if_success refine sqx ?_); go_step)
 go_returns
 exact ⟨rfl, hE4.below⟩
set_option maxHeartbeats 4000000 in
theorem Known_no {key : List Nat} {w : World} (hk : key.length = 32) (dk : Digs 256 key) (hP : ¬ isPt (val 256 key)) : Gives 15 #[.agg (ints .u8 key)] w (.bool false) := by
 have HD := Lib.hid (fun w => PDecode_no hk dk hP w)
 have lz : zeroL.length = 20 := rfl
 clear hP dk
 have hE0 := Env.nil w
 go_enter Tryz.func15, Tryz.ntmps15
 repeat ((fail_if_success refine sqx ?_); go_step)
 refine wl_step (st_boxA hE0 rfl rfl rfl ?_)
 intro g0 w1 hb1 hE1
 clear hE0
 simp only [qZ]
 refine mqC ?_
 repeat ((fail_if_success refine sqx ?_); go_step)
 refine wqv (vqL 0 32 hE1 Tryz.underlying27) ?_
 refine wl_step (st_gives hE1 rfl (run_call rfl Tryz.call28) (HD.out _) ?_)
 intro w2 hb2 hE2
 clear hE1
 simp only [qZ]
 refine mqA ?_
 refine wqv (v_extract rfl rfl rfl) ?_
 refine wqv (v_extract rfl rfl rfl) ?_
 refine wl_step (sqA (ints .u64 (List.replicate 20 0)) hE2 ?_)
 intro g1 w3 hb3 hE3
 clear hE2
 simp only [qZ]
 refine wl_step (sqS 0 20 hE3 ?_)
 intro w4 hE4
 clear hE3
 simp only [qpB, qpC] at hE4
 simp only [qZ]
 refine mqB ?_
 repeat ((fail_if_success refine sqx ?_); go_step)
 refine mqA ?_
 refine mqB ?_
 repeat ((fail_if_success refine sqx ?_); go_step)
 go_returns
 exact ⟨rfl, hE4.below⟩
end Go.Proofs.YthddoelflmoedaaGreat
namespace Go.Proofs.YthddoelflmoedaaGreat
open Go.RowKit
set_option maxRecDepth 100000

theorem enc_of {X Y Z x y : Nat} {P : Pt} (h : RRep X Y Z P) (hx : x < pN) (hy : y < pN) (ex : x * Z % pN = X) (ey : y * Z % pN = Y) : encN P = y + 57896044618658097711785492504343953926634992332820282019728792003956564819968 * (x % 2) := by
 have e1 : kk pN x * kk pN Z = kk pN X := by rw [← kk_mul, ← ex, kk_mod]
 have e2 : kk pN y * kk pN Z = kk pN Y := by rw [← kk_mul, ← ey, kk_mod]
 have e3 : P.x = kk pN x := K_cancel h.nz (by rw [e1]; exact h.ex.symm)
 have e4 : P.y = kk pN y := K_cancel h.nz (by rw [e2]; exact h.ey.symm)
 unfold encN
 rw [e3, e4, kk_val hx, kk_val hy]
theorem enc_mul {n x y : Nat} {R : Nat × Nat × Nat} (hn : n < 2 ^ 255) (hR : rmul 255 n (bX, bY, 1) (0, 1, 1) = R) (hx : x < pN) (hy : y < pN) (ex : x * R.2.2 % pN = R.1) (ey : y * R.2.2 % pN = R.2.1) : encB (smul n baseP) = digs 256 32 (y + 57896044618658097711785492504343953926634992332820282019728792003956564819968 * (x % 2)) := by
 have h := rmul_ok 255 n (bX, bY, 1) (0, 1, 1) baseP pzero RRep_base RRep_zero hn
 rw [hR, zero_padd] at h
 unfold encB
 rw [enc_of h hx hy ex ey]

def seedL : List Nat := [157, 97, 177, 157, 239, 253, 90, 96, 186, 132, 74, 244, 146, 236, 44, 196, 68, 73, 197, 105, 123, 50, 105, 25, 112, 59, 172, 3, 28, 174, 127, 96]
theorem seed_num : numL seedL = [48, 124, 131, 134, 79, 40, 51, 203, 66, 122, 46, 241, 192, 10, 1, 60, 253, 255, 39, 104, 217, 128, 192, 163, 165, 32, 240, 6, 144, 77, 233, 79] := by decide +kernel
theorem seed_salt : saltL seedL = [155, 79, 10, 254, 40, 11, 116, 106, 119, 134, 132, 231, 84, 66, 80, 32, 87, 183, 71, 58, 3, 240, 143, 150, 245, 163, 142, 146, 135, 224, 31, 143] := by decide +kernel
theorem pub_run : rmul 255 36144925721603087658594284515452164870581325872720374094707712194495455132720 (bX, bY, 1) (0, 1, 1) = (42891156092953856219646196757070173914902329729247536150428531394153857737231, 40238852720997894038004792342339562169204889775869941600357476817758197526328, 30896317279961210703682561268244905341867035628552923123243923239452675929088) := by kernel_rfl
theorem seed_pub : pubL seedL = [215, 90, 152, 1, 130, 177, 10, 183, 213, 75, 254, 211, 201, 100, 7, 58, 14, 225, 114, 243, 218, 166, 35, 37, 175, 2, 26, 104, 247, 7, 81, 26] := by
 unfold pubL pubP
 rw [seed_num, show val 256 [48, 124, 131, 134, 79, 40, 51, 203, 66, 122, 46, 241, 192, 10, 1, 60, 253, 255, 39, 104, 217, 128, 192, 163, 165, 32, 240, 6, 144, 77, 233, 79] = 36144925721603087658594284515452164870581325872720374094707712194495455132720 by decide +kernel]
 rw [enc_mul (x := 38815646466658113194383306759739515082307681141926459231621296960732224964046) (y := 11903303657706407974989296177215005343713679411332034699907763981919547054807) (of_decide_eq_true (by kernel_rfl)) pub_run (of_decide_eq_true (by kernel_rfl)) (of_decide_eq_true (by kernel_rfl)) (by decide +kernel) (by decide +kernel)]
 decide +kernel
theorem seed_r : rL seedL [] = [243, 137, 7, 48, 140, 137, 61, 234, 242, 68, 120, 125, 180, 175, 83, 104, 34, 73, 16, 116, 24, 175, 194, 237, 197, 143, 117, 172, 88, 160, 116, 4] := by
 unfold rL
 rw [seed_salt]
 decide +kernel
theorem first_run : rmul 255 2015312323900227545039973048451112962192803170366412514267238242679089760755 (bX, bY, 1) (0, 1, 1) = (38796367227511123172783054858201293447766361162010913397680575526531899278910, 46757433471161889126743442822391694683622587082568434156850148422903761175614, 22525812474880766621810341968258277452668459365176220740209740040508546449400) := by kernel_rfl
theorem seed_first : firstL seedL [] = [229, 86, 67, 0, 195, 96, 172, 114, 144, 134, 226, 204, 128, 110, 130, 138, 132, 135, 127, 30, 184, 229, 217, 116, 216, 115, 224, 101, 34, 73, 1, 85] := by
 unfold firstL
 rw [seed_r, show val 256 [243, 137, 7, 48, 140, 137, 61, 234, 242, 68, 120, 125, 180, 175, 83, 104, 34, 73, 16, 116, 24, 175, 194, 237, 197, 143, 117, 172, 88, 160, 116, 4] = 2015312323900227545039973048451112962192803170366412514267238242679089760755 by decide +kernel]
 rw [enc_mul (x := 44370630452101398467924320556439323233869374150616132215183787387252341590058) (y := 38448863731492799660668882834560725606410712239157980760146247592118262650597) (of_decide_eq_true (by kernel_rfl)) first_run (of_decide_eq_true (by kernel_rfl)) (of_decide_eq_true (by kernel_rfl)) (by decide +kernel) (by decide +kernel)]
 decide +kernel
theorem seed_k : kL seedL [] = [134, 234, 188, 142, 76, 150, 25, 61, 41, 5, 4, 231, 198, 0, 223, 108, 248, 216, 37, 97, 49, 236, 44, 19, 138, 62, 126, 22, 46, 82, 84, 4] := by
 unfold kL
 rw [seed_first, seed_pub]
 decide +kernel
theorem seed_last : lastL seedL [] = [95, 184, 130, 21, 144, 163, 59, 172, 198, 30, 57, 112, 28, 249, 180, 107, 210, 91, 245, 240, 89, 91, 190, 36, 101, 81, 65, 67, 142, 122, 16, 11] := by
 unfold lastL
 rw [seed_k, seed_num, seed_r]
 decide +kernel
theorem seed_len : seedL.length = 32 := rfl
theorem seed_Digs : Digs 256 seedL := by unfold Digs seedL; decide
theorem Verify_sig {s : List Nat} {rows : List (List Nat)} {r : Value} {w : World} (hr : RdSs .u8 rows r w) (dr : ∀ l ∈ rows, Digs 256 l) (hl : rows.flatten.length < 274877906944) (hn : rows.length < 1099511627776) :
  Gives 12 #[.agg (ints .u8 (pubL s)), .agg (ints .u8 (sigL s rows.flatten)), r] w (.bool true) := by
 have h := Verify_yes (P := pubP s) (pubL_len s) (pubL_Digs s) (sigL_len s rows.flatten) (sigL_Digs s rows.flatten) hr dr hl hn (encN_pub s) (by rw [sigL_drop]; exact lastL_lt _ _)
 rw [sigL_take, sigL_drop, sig_right, show encB (smul (val 256 (rL s rows.flatten)) baseP) = firstL s rows.flatten from rfl, decide_eq_true rfl] at h
 exact h

set_option maxHeartbeats 4000000 in
theorem awake_any (w : World) : Gives 7 #[] w (.bool true) := by
 have HP := Lib.hid (fun w => Public_any seed_len seed_Digs w)
 have HS : Hid (∀ w, Gives 10 #[.agg (ints .u8 seedL), .slice none 0 0] w (.agg (ints .u8 (sigL seedL [])))) := Lib.hid (fun w => Sign_any (rows := []) seed_len seed_Digs (RdSs.nil _ _) (fun l h => by cases h) (by decide) (by decide))
 have HV : Hid (∀ w, Gives 12 #[.agg (ints .u8 (pubL seedL)), .agg (ints .u8 (sigL seedL [])), .slice none 0 0] w (.bool true)) := Lib.hid (fun w => Verify_sig (rows := []) (RdSs.nil _ _) (fun l h => by cases h) (by decide) (by decide))
 have l1 := pubL_len seedL
 have l2 := sigL_len seedL []
 have ls := seed_len
 have p0 : (pubL seedL).getD 0 0 = 215 := by rw [seed_pub]; rfl
 have p1 : (pubL seedL).getD 31 0 = 26 := by rw [seed_pub]; rfl
 have s0 : (sigL seedL []).getD 0 0 = 229 := by unfold sigL; rw [seed_first]; rfl
 have s1 : (sigL seedL []).getD 63 0 = 11 := by unfold sigL; rw [seed_first, seed_last]; rfl
 obtain ⟨P, hP⟩ : ∃ P, pubL seedL = P := ⟨_, rfl⟩
 obtain ⟨S, hS⟩ : ∃ S, sigL seedL [] = S := ⟨_, rfl⟩
 rw [hP] at HP HV l1 p0 p1
 rw [hS] at HS HV l2 s0 s1
 have P0 := Lib.hid p0
 have P1 := Lib.hid p1
 have S0 := Lib.hid s0
 have S1 := Lib.hid s1
 clear hP hS p0 p1 s0 s1
 have hE0 := Env.nil w
 go_enter Tryz.func7, Tryz.ntmps7
 repeat ((fail_if_success refine sqx ?_); go_step)
 refine mqC ?_
 repeat ((fail_if_success refine sqx ?_); go_step)
 refine wqv (v_built (k := .u8) (l := seedL) rfl (fun w => by kernel_rfl)) ?_
 refine wl_step (sqA (ints .u8 (List.replicate 32 0)) hE0 ?_)
 intro g0 w1 hb1 hE1
 clear hE0
 simp only [qZ]
 refine wl_step (sqS 0 32 hE1 ?_)
 intro w2 hE2
 clear hE1
 simp only [qpB, qpC] at hE2
 simp only [qZ]
 repeat ((fail_if_success refine sqx ?_); go_step)
 refine wqv (vqL 0 32 hE2 Tryz.underlying23) ?_
 refine wl_step (st_gives hE2 rfl (run_call rfl Tryz.call8) (HP.out _) ?_)
 intro w3 hb3 hE3
 clear hE2
 simp only [qZ]
 refine wl_step (sqA (ints .u8 (List.replicate 32 0)) hE3 ?_)
 intro g1 w4 hb4 hE4
 clear hE3
 simp only [qZ]
 refine wl_step (sqS 0 32 hE4 ?_)
 intro w5 hE5
 clear hE4
 simp only [qpB, qpC] at hE5
 simp only [qZ]
 repeat ((fail_if_success refine sqx ?_); go_step)
 refine wqv (vqL 1 32 hE5 Tryz.underlying23) ?_
 refine wl_step (st_gives hE5 rfl (run_call rfl Tryz.call10) (HS.out _) ?_)
 intro w6 hb6 hE6
 clear hE5
 simp only [qZ]
 refine wl_step (sqA (ints .u8 (List.replicate 64 0)) hE6 ?_)
 intro g2 w7 hb7 hE7
 clear hE6
 simp only [qZ]
 refine wl_step (sqS 0 64 hE7 ?_)
 intro w8 hE8
 clear hE7
 simp only [qpB, qpC] at hE8
 simp only [qZ]
 repeat ((fail_if_success refine sqx ?_); go_step)
 refine wqv (vqI (j := 0) Tryz.underlying27) ?_
 refine wqv (vqC 1 hE8 Tryz.underlying5) ?_
 rw [P0.out]
 refine wqv (v_eql (n := 215) rfl rfl rfl) ?_
 refine mqA ?_
 refine wqv (vqI (j := 31) Tryz.underlying27) ?_
 refine wqv (vqC 1 hE8 Tryz.underlying5) ?_
 rw [P1.out]
 refine wqv (v_eql (n := 26) rfl rfl rfl) ?_
 refine wqv (v_and rfl rfl (fun _ => rfl)) ?_
 refine mqA ?_
 refine wqv (vqI (j := 0) Tryz.underlying31) ?_
 refine wqv (vqC 0 hE8 Tryz.underlying5) ?_
 rw [S0.out]
 refine wqv (v_eql (n := 229) rfl rfl rfl) ?_
 refine wqv (v_and rfl rfl (fun _ => rfl)) ?_
 refine mqA ?_
 refine wqv (vqI (j := 63) Tryz.underlying31) ?_
 refine wqv (vqC 0 hE8 Tryz.underlying5) ?_
 rw [S1.out]
 refine wqv (v_eql (n := 11) rfl rfl rfl) ?_
 refine wqv (v_and rfl rfl (fun _ => rfl)) ?_
 refine mqA ?_
 refine wqv (vqL 1 32 hE8 Tryz.underlying27) ?_
 refine wqv (vqL 0 64 hE8 Tryz.underlying31) ?_
 refine wl_step (st_gives hE8 rfl (run_call rfl Tryz.call12) (HV.out _) ?_)
 intro w9 hb9 hE9
 clear hE8
 simp only [qZ]
 refine wqv (v_and rfl rfl (fun _ => rfl)) ?_
 refine mqB ?_
 repeat ((fail_if_success refine sqx ?_); go_step)
 go_returns
 exact ⟨rfl, hE9.below⟩
end Go.Proofs.YthddoelflmoedaaGreat
namespace Go.Proofs.YthddoelflmoedaaGreat
open Go.ChangeShapes Go.WideShapes Go.ChangeAt Go.RowKit
set_option maxRecDepth 100000

set_option maxHeartbeats 2000000 in
theorem great_any {l : List Nat} {v : Value} {w : World} (hv : RdS .u8 l v w) (hl : l.length ≤ maxLen) : Gives 6 #[v] w (.bool (decide (300 < l.length))) := by
 unfold maxLen at hl
 obtain ⟨p, c, rfl, hc, -⟩ := id hv
 have hl63 : l.length < 9223372036854775808 := by omega
 clear hv
 have hE0 := Env.nil w
 go_enter Tryz.func6, Tryz.ntmps6
 repeat ((fail_if_success refine sqx ?_); go_step)
 refine mqC ?_
 repeat ((fail_if_success refine sqx ?_); go_step)
 refine mqA ?_
 refine wqv (v_len rfl rfl Tryz.underlying24 hl63) ?_
 refine wqv (v_gtr (n := 300) rfl rfl rfl) ?_
 refine mqB ?_
 repeat ((fail_if_success refine sqx ?_); go_step)
 go_returns
 exact ⟨rfl, hE0.below⟩
section
variable {a : Act} {w : World} {o : Oper}
theorem v_eqSig {t' : TypeId} {x y : Operand} {l : List Nat} (ho : o.op = .binOp .eql 31 x y t') (hx : a.eval x = .agg (ints .u8 l)) (hy : a.eval y = .agg (ints .u8 l)) (hl : l.length = 64) : Val Tryz.prog o a (.bool true) w :=
 v_eqIntsS ho hx hy (by kernel_rfl) Tryz.underlying31 Tryz.underlying5 (size_run (by kernel_rfl)) hl
end
theorem Ow.seesW {w0 : World} {e : TypeId} {k : IntKind} {ns : List Nat} {v : Value} {bs : List Blk} (h : Ow e (nats k ns) v bs) : ∀ w', Env w0 bs w' → RdS k ns v w' := fun w' hE => (h.sl (l := []) (by rw [List.append_nil]; exact hE)).rdS
theorem st_build0' {P : Program} {ops : Array Oper} {Q : Exit → Act → World → Prop} {a : Act} {w w0 : World} {l : List Blk} {o : Oper} {K : Act → World → Prop} {t e : TypeId} (hE : Env w0 l w) (hw : Region.wanted o (yielded ops a.tmps) = true) (ho : o.op = .buildSlice t 0 #[]) (ht : P.underlying t = some (.slice e)) (hs : (P.info? e).map (·.size) = some 1)
  (kk : ∀ g w1, Below w.heap.size w w1 → Env w0 (⟨g, e, #[]⟩ :: l) w1 → K (a.put o.dst (.slice (some ⟨g, 0, none⟩) 0 0)) w1) : Step P ops Q o K a w := by
 refine st_run (w1 := w.alloc (.cells #[] e)) (v := .slice (some ⟨w.heap.size, 0, none⟩) 0 0) hw ?_ (kk _ _ ((Below.refl _ _).alloc (Nat.le_refl _) _) (hE.alloc e _))
 unfold execOp
 simp [ho, Instr.buildSlice, Sem.run_bind, run_underlying ht, size_run hs, Sem.run_pure, Instr.fill, newRow, newObj, Sem.run]
 congr 2
 apply Array.toList_inj.1
 simp
end Go.Proofs.YthddoelflmoedaaGreat
