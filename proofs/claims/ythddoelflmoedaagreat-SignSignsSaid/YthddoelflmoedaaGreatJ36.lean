/-
  Layer 5, the document's answer: what it tells: product and sum, a number modulo the order, whether one is below it.
  A region that draws its order, with several operations that may come up: each of three, four or five; all ways end at one place. No condition on the program.
  Layer 7, the document's: a seed's number and salt; the number of bytes; the key; a signature.
  Layer 3: words of 64 bits turned.
  Layer 3: a block mixed into a state (SHA-512), the walk.
  Layer 3: the greater sum of bytes that come in parts.
-/
import Derived.Test.YthddoelflmoedaaGreatJ03
import Derived.Test.YthddoelflmoedaaGreatJ07
import Derived.Test.YthddoelflmoedaaGreatJ12
import Derived.Test.YthddoelflmoedaaGreatJ13
import Derived.Test.YthddoelflmoedaaGreatJ18
import Derived.Test.YthddoelflmoedaaGreatJ26
import Derived.Test.YthddoelflmoedaaGreatJ27
import Derived.Test.YthddoelflmoedaaGreatJ28
import Derived.Test.YthddoelflmoedaaGreatJ30
import Derived.Test.YthddoelflmoedaaGreatJ33
import Derived.Test.YthddoelflmoedaaGreatJ35
set_option linter.unusedVariables false
set_option linter.unusedSimpArgs false
namespace Go.Proofs.YthddoelflmoedaaGreat
open Go.RowKit
set_option maxRecDepth 100000

theorem mul_rd {w0 w : World} {g n : Nat} {l : List Nat} {T : TypeId} {r : List Blk} (hE : Env w0 (⟨g, T, ints .i64 l⟩ :: r) w) (hl : l.length = n) : Rd l (.slice (some ⟨g, 0, none⟩) n n) w := by
 subst hl
 exact .inr ⟨g, _, ints .i64 l, T, rfl, hE.get (i := 0) rfl, List.take_of_length_le (by simp [ints])⟩

theorem dig_any {a : List Nat} {n g : Nat} {T : TypeId} {w : World} (ha : a.length = n) (da : Digs 256 a) (hg : w.heap[g]? = some (.cells (ints .u8 a) T (0, 0))) (hn : n ≤ 65536 := by decide) :
  Calls Tryz.prog 78 #[.slice (some ⟨g, 0, none⟩) n n] w fun e w' => ∃ v l, e = .returned v ∧ Sl w [] 3 (nums l) v w' ∧ l = a :=
 (Digits_any g a T n ha hn da w hg).mono fun e w' ⟨v, h1, h2⟩ => ⟨v, a, h1, h2, rfl⟩
theorem bytes_of {l : List Nat} {p : Option Addr} {n m cap : Nat} {w : World} (h : Rd l (.slice p n cap) w) (dl : Digs 256 l) (hm : m ≤ 65536) (hn : l.length = m) : Gives 105 #[.slice p n cap] w (.agg (ints .u8 (digs 256 32 (val 256 l)))) :=
 qBytes_any h dl (by omega)

set_option maxHeartbeats 1000000 in
theorem rMulAdd_any (a b c : List Nat) (ha : a.length = 32) (hb : b.length = 32) (hc : c.length = 32) (da : Digs 256 a) (db : Digs 256 b) (dc : Digs 256 c) (w : World) :
  Gives 68 #[.agg (ints .u8 a), .agg (ints .u8 b), .agg (ints .u8 c)] w (.agg (ints .u8 (digs 256 32 ((val 256 a * val 256 b + val 256 c) % q)))) := by
 have hE0 := Env.nil w
 go_enter Tryz.func68, Tryz.ntmps68
 repeat ((fail_if_success refine sqx ?_); go_step)
 refine wl_step (st_boxA hE0 rfl rfl rfl ?_)
 intro g0 w1 hb1 hE1
 clear hE0
 simp only [qZ]
 refine wl_step (st_boxA hE1 rfl rfl rfl ?_)
 intro g1 w2 hb2 hE2
 clear hE1
 simp only [qZ]
 refine wl_step (st_boxA hE2 rfl rfl rfl ?_)
 intro g2 w3 hb3 hE3
 clear hE2
 simp only [qZ]
 refine wl_step (sqA (ints .u8 (List.replicate 32 0)) hE3 ?_)
 intro g3 w4 hb4 hE4
 clear hE3
 simp only [qZ]
 repeat ((fail_if_success refine sqx ?_); go_step)
 refine wp_region_B (n := 11) 10 (by kernel_rfl) rfl hE4 ?_
 intro w5 hb5 hE5
 clear hE4
 refine tqB 0 rfl (v_sliceAll rfl rfl Tryz.underlying22 (by kernel_rfl)) ?_
 refine tqB 2 rfl (v_sliceAll rfl rfl Tryz.underlying22 (by kernel_rfl)) ?_
 refine tqB 5 rfl (v_sliceAll rfl rfl Tryz.underlying22 (by kernel_rfl)) ?_
 refine sqB 1 rfl (st_calls rfl (run_call rfl Tryz.call78) (dig_any ha da (hE5.get (i := 3) rfl)) ?_)
 rintro _ w6 ⟨va, la, rfl, hSa, ela⟩
 have hb6 := hSa.env.below
 have hE6 := hE5.call hb6
 have ra := hSa.rd
 subst ela
 refine ⟨_, rfl, ?_⟩
 clear hE5
 refine ⟨fun _ => hb6, ?_⟩
 simp only [qZ]
 refine sqB 3 rfl (st_calls rfl (run_call rfl Tryz.call78) (dig_any hb db (hE6.get (i := 2) rfl)) ?_)
 rintro _ w7 ⟨vb, lb, rfl, hSb, elb⟩
 have hb7 := hSb.env.below
 have hE7 := hE6.call hb7
 have rb := hSb.rd
 replace ra := ra.below hb7
 subst elb
 refine ⟨_, rfl, ?_⟩
 clear hE6
 refine ⟨fun _ => hb7, ?_⟩
 simp only [qZ]
 refine sqB 4 rfl (st_calls rfl (run_call rfl Tryz.call108) (qMul_any ra rb da db (by omega) (by omega)) ?_)
 rintro _ w8 ⟨gm, lm, rfl, hEm, hlm, dm, vm⟩
 have hb8 := hEm.below
 have hE8 := hE7.call hb8
 have rm := mul_rd hEm hlm
 refine ⟨_, rfl, ?_⟩
 clear hE7
 refine ⟨fun _ => hb8, ?_⟩
 simp only [qZ]
 refine sqB 6 rfl (st_calls rfl (run_call rfl Tryz.call78) (dig_any hc dc (hE8.get (i := 1) rfl)) ?_)
 rintro _ w9 ⟨vc, lc, rfl, hSc, elc⟩
 have hb9 := hSc.env.below
 have hE9 := hE8.call hb9
 have rc := hSc.rd
 replace rm := rm.below hb9
 subst elc
 refine ⟨_, rfl, ?_⟩
 clear hE8
 refine ⟨fun _ => hb9, ?_⟩
 simp only [qZ]
 refine sqB 7 rfl (st_calls rfl (run_call rfl Tryz.call107) (qAdd_any rm rc dm dc (by omega) (by omega)) ?_)
 rintro _ w10 ⟨vs, ls, rfl, hSs, ds, vsum, hls, hls'⟩
 have hb10 := hSs.env.below
 have hE10 := hE9.call hb10
 have rs := hSs.rd
 refine ⟨_, rfl, ?_⟩
 clear hE9
 refine ⟨fun _ => hb10, ?_⟩
 simp only [qZ]
 have hls2 : ls.length ≤ 65000 := by omega
 have hls3 : 0 < ls.length := by omega
 have hcall := Rest_any rs ds hls3 hls2
 refine sqB 8 rfl (st_calls rfl (run_call rfl Tryz.call106) (hcall) ?_)
 rintro _ w11 ⟨gr, cap, cs, lr, rfl, hEr, htk, hlr, dr, vr⟩
 have hb11 := hEr.below
 have hE11 := hE10.call hb11
 have rr := env_rd (cap := cap) hEr htk hlr
 refine ⟨_, rfl, ?_⟩
 clear hE10
 refine ⟨fun _ => hb11, ?_⟩
 simp only [qZ]
 refine sqB 9 rfl (st_gives hE11 rfl (run_call rfl Tryz.call105) (bytes_of rr dr (by omega) hlr) ?_)
 intro w12 hb12 hE12
 clear hE11
 refine ⟨fun _ => hb12, ?_⟩
 simp only [qZ]
 refine sqB 10 rfl (sqS 0 32 hE12 ?_)
 intro w13 hE13
 clear hE12
 simp only [qpB, qpC] at hE13
 refine nqB ?_
 simp only [qZ]
 refine wpB_done (by kernel_rfl) ?_ _
 repeat ((fail_if_success refine sqx ?_); go_step)
 refine bodyPost_ret (results_cell_row rfl _ _ _ _ _ (0, 0) _ rfl (hE13.get (i := 0) rfl) Tryz.underlying22 rfl (szqA (n := 32))) rfl ⟨by rw [vr, vsum, vm], hE13.below⟩

set_option maxHeartbeats 1000000 in
theorem rReduce_any (a : List Nat) (ha : a.length = 64) (da : Digs 256 a) (w : World) :
  Gives 80 #[.agg (ints .u8 a)] w (.agg (ints .u8 (digs 256 32 (val 256 a % q)))) := by
 have hE0 := Env.nil w
 go_enter Tryz.func80, Tryz.ntmps80
 repeat ((fail_if_success refine sqx ?_); go_step)
 refine wl_step (st_boxA hE0 rfl rfl rfl ?_)
 intro g0 w1 hb1 hE1
 clear hE0
 simp only [qZ]
 refine wl_step (sqA (ints .u8 (List.replicate 32 0)) hE1 ?_)
 intro g1 w2 hb2 hE2
 clear hE1
 simp only [qZ]
 repeat ((fail_if_success refine sqx ?_); go_step)
 refine wqv (v_sliceAll rfl rfl Tryz.underlying30 (by kernel_rfl)) ?_
 refine wl_step (st_calls rfl (run_call rfl Tryz.call78) (dig_any ha da (hE2.get (i := 1) rfl)) ?_)
 rintro _ w3 ⟨va, la, rfl, hSa, ela⟩
 have hb3 := hSa.env.below
 have hE3 := hE2.call hb3
 have ra := hSa.rd
 subst ela
 refine ⟨_, rfl, ?_⟩
 clear hE2
 simp only [qZ]
 refine wl_step (st_calls rfl (run_call rfl Tryz.call106) (Rest_any ra da (by omega) (by omega)) ?_)
 rintro _ w4 ⟨gr, cap, cs, lr, rfl, hEr, htk, hlr, dr, vr⟩
 have hb4 := hEr.below
 have hE4 := hE3.call hb4
 have rr := env_rd (cap := cap) hEr htk hlr
 refine ⟨_, rfl, ?_⟩
 clear hE3
 simp only [qZ]
 refine wl_step (st_gives hE4 rfl (run_call rfl Tryz.call105) (bytes_of rr dr (by omega) hlr) ?_)
 intro w5 hb5 hE5
 clear hE4
 simp only [qZ]
 refine wl_step (sqS 0 32 hE5 ?_)
 intro w6 hE6
 clear hE5
 simp only [qpB, qpC] at hE6
 simp only [qZ]
 repeat ((fail_if_success refine sqx ?_); go_step)
 refine bodyPost_ret (results_cell_row rfl _ _ _ _ _ (0, 0) _ rfl (hE6.get (i := 0) rfl) Tryz.underlying22 rfl (szqA (n := 32))) rfl ⟨by rw [vr], hE6.below⟩

set_option maxHeartbeats 1000000 in
theorem rBelow_any (a : List Nat) (ha : a.length = 32) (da : Digs 256 a) (w : World) :
  Gives 32 #[.agg (ints .u8 a)] w (.bool (decide (val 256 a < q))) := by
 have hE0 := Env.nil w
 go_enter Tryz.func32, Tryz.ntmps32
 repeat ((fail_if_success refine sqx ?_); go_step)
 refine wl_step (st_boxA hE0 rfl rfl rfl ?_)
 intro g0 w1 hb1 hE1
 clear hE0
 simp only [qZ]
 refine mqC ?_
 repeat ((fail_if_success refine sqx ?_); go_step)
 refine wqv (v_sliceAll rfl rfl Tryz.underlying22 (by kernel_rfl)) ?_
 refine wl_step (st_calls rfl (run_call rfl Tryz.call78) (dig_any ha da (hE1.get (i := 0) rfl)) ?_)
 rintro _ w2 ⟨va, la, rfl, hSa, ela⟩
 have hb2 := hSa.env.below
 have hE2 := hE1.call hb2
 have ra := hSa.rd
 subst ela
 refine ⟨_, rfl, ?_⟩
 clear hE1
 simp only [qZ]
 refine wl_step (st_new hE2 rfl (run_call rfl Tryz.call79) (Q_any _) ?_)
 intro g1 w3 hb3 hE3
 clear hE2
 simp only [qZ]
 replace ra := ra.below hb3
 refine wl_step (st_gives hE3 rfl (run_call rfl Tryz.call77) (less_any ra (q_rd hE3) da qd_Digs 0 (by omega) (by decide) (by decide)) ?_)
 intro w4 hb4 hE4
 clear hE3
 simp only [qZ]
 refine mqB ?_
 repeat ((fail_if_success refine sqx ?_); go_step)
 go_returns
 exact ⟨by rw [Nat.pow_zero, Nat.one_mul, val_qd]; rfl, hE4.below⟩
end Go.Proofs.YthddoelflmoedaaGreat
namespace Go.Proofs.YthddoelflmoedaaGreat
open Go.RowKit
set_option maxRecDepth 100000
section
variable {P : Program} {ops : Array Oper} {Q : Exit → Act → World → Prop} {m : Nat}
theorem wpB_step3 {i j k n : Nat} {o1 o2 o3 : Oper} {L : Array Bool} {a : Act} {w : World} {t1 t2 t3 : List Oper} (hr : Region.ready .any ops L = [i, j, k]) (h1 : ops.toList.drop i = o1 :: t1) (h2 : ops.toList.drop j = o2 :: t2) (h3 : ops.toList.drop k = o3 :: t3)
  (k1 : Step P ops Q o1 (fun a' w' => (i < m → Below w.heap.size w w') ∧ wpB P ops Q m n (L.setIfInBounds i true) a' w') a w)
  (k2 : Step P ops Q o2 (fun a' w' => (j < m → Below w.heap.size w w') ∧ wpB P ops Q m n (L.setIfInBounds j true) a' w') a w)
  (k3 : Step P ops Q o3 (fun a' w' => (k < m → Below w.heap.size w w') ∧ wpB P ops Q m n (L.setIfInBounds k true) a' w') a w) : wpB P ops Q m (n + 1) L a w :=
 ⟨fun h0 => (by rw [h0] at hr; cases hr), fun x hx => by
  rw [hr] at hx
  simp only [List.mem_cons, List.not_mem_nil, or_false] at hx
  rcases hx with rfl | rfl | rfl
  ·exact wpB_of_step (drop_get h1) k1
  ·exact wpB_of_step (drop_get h2) k2
  ·exact wpB_of_step (drop_get h3) k3⟩
theorem wpB_step4 {i j k l n : Nat} {o1 o2 o3 o4 : Oper} {L : Array Bool} {a : Act} {w : World} {t1 t2 t3 t4 : List Oper} (hr : Region.ready .any ops L = [i, j, k, l]) (h1 : ops.toList.drop i = o1 :: t1) (h2 : ops.toList.drop j = o2 :: t2) (h3 : ops.toList.drop k = o3 :: t3) (h4 : ops.toList.drop l = o4 :: t4)
  (k1 : Step P ops Q o1 (fun a' w' => (i < m → Below w.heap.size w w') ∧ wpB P ops Q m n (L.setIfInBounds i true) a' w') a w)
  (k2 : Step P ops Q o2 (fun a' w' => (j < m → Below w.heap.size w w') ∧ wpB P ops Q m n (L.setIfInBounds j true) a' w') a w)
  (k3 : Step P ops Q o3 (fun a' w' => (k < m → Below w.heap.size w w') ∧ wpB P ops Q m n (L.setIfInBounds k true) a' w') a w)
  (k4 : Step P ops Q o4 (fun a' w' => (l < m → Below w.heap.size w w') ∧ wpB P ops Q m n (L.setIfInBounds l true) a' w') a w) : wpB P ops Q m (n + 1) L a w :=
 ⟨fun h0 => (by rw [h0] at hr; cases hr), fun x hx => by
  rw [hr] at hx
  simp only [List.mem_cons, List.not_mem_nil, or_false] at hx
  rcases hx with rfl | rfl | rfl | rfl
  ·exact wpB_of_step (drop_get h1) k1
  ·exact wpB_of_step (drop_get h2) k2
  ·exact wpB_of_step (drop_get h3) k3
  ·exact wpB_of_step (drop_get h4) k4⟩
theorem wpB_firstU {i : Nat} {oi : Oper} {v : Value} (hi : ops[i]? = some oi) (hsl : Region.noSelect ops = true)
  (hQ : ∀ c a w, Q (.panic c) (a.put oi.dst v) w → Q (.panic c) a w) :
  ∀ (n : Nat) (L : Array Bool) (a : Act) (w : World), L.size = ops.size → Closed ops (fun i => L.getD i false) →
   (∀ j oj, ops[j]? = some oj → j ≠ i → L.getD j true = false → (∀ e ∈ oj.after, Region.binds .any e = true → e.on ≠ i) → oi.apart ops oj = true) →
   i ∈ Region.ready .any ops L → YieldsIf P ops (fun _ => True) oi v a →
   wpB P ops Q m n (L.setIfInBounds i true) (a.put oi.dst v) w → wpB P ops Q m (n + 1) L a w := by
 have hsel := Region.noSelect_spec hsl
 have now : ∀ (n : Nat) (L : Array Bool) (a : Act) (w : World), YieldsIf P ops (fun _ => True) oi v a → wpB P ops Q m n (L.setIfInBounds i true) (a.put oi.dst v) w →
   wpOp P ops Q i (fun a' w' => (i < m → Below w.heap.size w w') ∧ wpB P ops Q m n (L.setIfInBounds i true) a' w') a w := fun n L a w hy H =>
  hy.wpOp hi trivial ⟨fun _ => Below.refl _ _, H⟩
 intro n
 induction n with
 | zero =>
  intro L a w _ _ _ hr hy H
  refine ⟨fun h => (by rw [h] at hr; cases hr), fun j hj => ?_⟩
  by_cases hji : j = i
  ·subst hji; exact now _ _ _ _ hy H
  ·have := ready_mono hj hji
   rw [H.1] at this
   cases this
 | succ n ih =>
  intro L a w hs hcl hfree hr hy H
  refine ⟨fun h => (by rw [h] at hr; cases hr), fun j hj => ?_⟩
  by_cases hji : j = i
  ·subst hji; exact now _ _ _ _ hy H
  ·obtain ⟨hj1, hj2, oj, hoj, hjall⟩ := ready_spec hj hs
   obtain ⟨hi1, hi2, oi', hoi', hiall⟩ := ready_spec hr hs
   have h1 := H.2 j (ready_mono hj hji)
   obtain ⟨hjun, _⟩ := mem_ready.1 hj
   have hnot : ∀ e ∈ oj.after, Region.binds .any e = true → e.on ≠ i := fun e he hb heq => by
    have h1 := hjall e he hb
    rw [heq, hi2] at h1
    cases h1
   have h2 := wpOp_putIf hoj (hfree j oj hoj hji hjun hnot) (fun cs b => hsel i oi cs b hi) (fun cs b => hsel j oj cs b hoj) hQ hy h1
   have hfree' : ∀ k ok, ops[k]? = some ok → k ≠ i → (L.setIfInBounds j true).getD k true = false →
     (∀ e ∈ ok.after, Region.binds .any e = true → e.on ≠ i) → oi.apart ops ok = true := fun k ok hk hki hun hno => by
    refine hfree k ok hk hki ?_ hno
    by_cases hjk : j = k
    ·subst hjk; exact hjun
    ·rw [getD_set_ne true hjk] at hun; exact hun
   refine wpOp_mono (fun a' w' h3 => ?_) h2
   refine ⟨h3.2.1, ih (L.setIfInBounds j true) a' w' (by simp [hs]) (Inv.closed' hs hcl hj1 hoj hjall) hfree' (ready_mono hr (Ne.symm hji)) h3.1 ?_⟩
   rw [Array.setIfInBounds_comm _ _ hji]
   exact h3.2.2
def takeOkU (ops : Array Oper) (L : Array Bool) (i : Nat) : Bool :=
 Region.noSelect ops && closedB ops L && Region.free .any ops L i && (Region.ready .any ops L).contains i
theorem wpB_takeU {i n : Nat} {oi : Oper} {v : Value} {L : Array Bool} {a : Act} {w : World} {tl : List Oper} (hi' : ops.toList.drop i = oi :: tl) (hok : takeOkU ops L i = true)
  (hQ : ∀ c a w, Q (.panic c) (a.put oi.dst v) w → Q (.panic c) a w) (hw : Region.wanted oi (yielded ops a.tmps) = true) (h : ∀ w1, Val P oi a v w1)
  (k : wpB P ops Q m n (L.setIfInBounds i true) (a.put oi.dst v) w) : wpB P ops Q m (n + 1) L a w := by
 have hi := drop_get hi'
 unfold takeOkU at hok
 simp only [Bool.and_eq_true] at hok
 obtain ⟨⟨⟨h1, h2⟩, h3⟩, h4⟩ := hok
 obtain ⟨h5, h6⟩ := closedB_spec h2
 exact wpB_firstU hi h1 hQ n L a w h5 h6 (Region.free_spec hi h3) (by simpa using h4) (.inl ⟨hw, fun w1 _ => h w1 w1 (Below.refl _ _)⟩) k
theorem wp_region_D {id n : Nat} {a : Act} {w w0 : World} {l : List Blk} {A : Nat → Nat → Nat → Value → Value → Value → Act} (EE : Nat → Nat → Nat → List Blk) (m : Nat) (hf : P.follows .mixedOrders = true) (hn : ops.size = n) (hE : Env w0 l w)
  (h : (∀ g1 g2 g3 v1 v2 v3 w', Env w0 (EE g1 g2 g3) w' → Q .normal (A g1 g2 g3 v1 v2 v3) w') → ∀ w1, Below w.heap.size w w1 → Env w0 l w1 → wpB P ops Q m n (Array.replicate n false) a w1)
  (hc : ∀ g1 g2 g3 v1 v2 v3 w', Env w0 (EE g1 g2 g3) w' → Q .normal (A g1 g2 g3 v1 v2 v3) w') : (Code.region id ops true).wp P Q a w :=
 wp_region_B m hf hn hE (h hc)
end
end Go.Proofs.YthddoelflmoedaaGreat
namespace Go.Proofs.YthddoelflmoedaaGreat
open Go.RowKit
set_option maxRecDepth 100000

def firstAt (H : List Nat) (j : Nat) : List Nat := H.take j ++ List.replicate (32 - j) 0
theorem firstAt_len {H : List Nat} (hH : 32 ≤ H.length) {j : Nat} (hj : j ≤ 32) : (firstAt H j).length = 32 := by
 unfold firstAt
 rw [List.length_append, List.length_take, List.length_replicate]
 omega
theorem firstAt_set {H : List Nat} (hH : 32 ≤ H.length) {j : Nat} (hj : j < 32) : (firstAt H j).set j (H.getD j 0) = firstAt H (j + 1) := by
 unfold firstAt
 have h1 : (H.take j).length = j := by rw [List.length_take]; omega
 rw [List.set_append_right _ _ (by omega), h1, Nat.sub_self, show 32 - j = (32 - (j + 1)) + 1 by omega, List.replicate_succ, List.set_cons_zero, List.take_succ_eq_append_getElem (by omega), List.append_assoc, List.getD_eq_getElem?_getD, List.getElem?_eq_getElem (by omega)]
 rfl
theorem firstAt_full {H : List Nat} : firstAt H 32 = H.take 32 := by unfold firstAt; simp
theorem firstAt_zero {H : List Nat} : firstAt H 0 = List.replicate 32 0 := by unfold firstAt; simp

set_option maxHeartbeats 4000000 in
theorem rHash_any {m : List Nat} {v : Value} {w : World} (hm : RdS .u8 m v w) (dm : Digs 256 m) (hl : m.length < 549755813888) : Gives 33 #[v] w (.agg (ints .u8 (hashL m))) := by
 have Hm := Lib.hid hm
 have Hd := Lib.hid dm
 have h64 := sum512_len m
 have HR := Lib.hid (fun w => rReduce_any _ h64 (sum512_Digs m) w)
 have h32 := hashL_len m
 have eh : digs 256 32 (val 256 (sum512 m) % q) = hashL m := rfl
 rw [eh] at HR
 clear hm dm eh
 have hE0 := Env.nil w
 go_enter Tryz.func33, Tryz.ntmps33
 repeat ((fail_if_success refine sqx ?_); go_step)
 refine wl_step (sqA (ints .u8 (List.replicate 32 0)) hE0 ?_)
 intro g0 w1 hb1 hE1
 clear hE0
 simp only [qZ]
 repeat ((fail_if_success refine sqx ?_); go_step)
 refine mqA ?_
 refine wl_step (st_gives hE1 rfl (run_call rfl Tryz.call58) (rSum64_any (Hm.out.below hE1.below) Hd.out hl) ?_)
 intro w2 hb2 hE2
 clear hE1
 simp only [qZ]
 refine wl_step (st_gives hE2 rfl (run_call rfl Tryz.call80) (HR.out _) ?_)
 intro w3 hb3 hE3
 clear hE2
 simp only [qZ]
 refine wl_step (sqS 0 32 hE3 ?_)
 intro w4 hE4
 clear hE3
 simp only [qpB, qpC] at hE4
 simp only [qZ]
 repeat ((fail_if_success refine sqx ?_); go_step)
 refine bodyPost_ret (results_cell_row rfl _ _ _ _ _ (0, 0) _ rfl (hE4.get (i := 0) rfl) Tryz.underlying22 rfl (szqA (n := 32))) rfl ⟨rfl, hE4.below⟩

set_option maxHeartbeats 8000000 in
theorem rSplit_any {s : List Nat} (hs : s.length = 32) (ds : Digs 256 s) (w : World) : Calls Tryz.prog 20 #[.agg (ints .u8 s)] w fun e w' => ∃ g, e = .returned (.tuple #[.agg (ints .u8 (numL s)), .slice (some ⟨g, 32, none⟩) 32 32]) ∧ Below w.heap.size w w' ∧ w.heap.size ≤ g ∧ w'.heap[g]? = some (.cells (ints .u8 (sum512 s)) 30 (0, 0)) := by
 have e1 : numL s = clampL (sum512 s) := rfl
 have h64 := sum512_len s
 have dH := sum512_Digs s
 have HS : Hid (∀ (w : World) (v : Value), RdS .u8 s v w → Gives 58 #[v] w (.agg (ints .u8 (sum512 s)))) := Lib.hid (fun w v hv => rSum64_any hv ds (by omega))
 rw [e1]
 obtain ⟨H, hH⟩ : ∃ H, sum512 s = H := ⟨_, rfl⟩
 rw [hH] at HS h64 dH ⊢
 have hd0 := dH.getD (by decide) 0
 have hd31 := dH.getD (by decide) 31
 have hH32 : 32 ≤ H.length := by omega
 have HB := Lib.hid (fun j => dH.getD (by decide) j)
 have Hset := Lib.hid (fun j (hj : j < 32) => firstAt_set hH32 hj)
 have Hlen := Lib.hid (fun j (hj : j ≤ 32) => firstAt_len hH32 hj)
 have hLl : (H.take 32).length = 32 := by rw [List.length_take]; omega
 have hg0 : (H.take 32).getD 0 0 = H.getD 0 0 := by rw [List.getD_eq_getElem?_getD, List.getElem?_take, if_pos (by decide), ← List.getD_eq_getElem?_getD]
 have hg31 : ((H.take 32).set 0 (H.getD 0 0 / 8 * 8)).getD 31 0 = H.getD 31 0 := by
  rw [List.getD_eq_getElem?_getD, List.getElem?_set_ne (by decide), List.getElem?_take, if_pos (by decide), ← List.getD_eq_getElem?_getD]
 have hcl : ((H.take 32).set 0 (H.getD 0 0 / 8 * 8)).set 31 (H.getD 31 0 % 64 + 64) = clampL H := rfl
 have h32 := clampL_len h64
 obtain ⟨x0, hx0⟩ : ∃ x, H.getD 0 0 = x := ⟨_, rfl⟩
 obtain ⟨x1, hx1⟩ : ∃ x, H.getD 31 0 = x := ⟨_, rfl⟩
 rw [hx0] at hd0 hg0 hg31 hcl
 rw [hx1] at hd31 hg31 hcl
 obtain ⟨L, hL⟩ : ∃ L, H.take 32 = L := ⟨_, rfl⟩
 have hfu : firstAt H 32 = L := by rw [firstAt_full, hL]
 rw [hL] at hLl hg0 hg31 hcl
 have hLs : (L.set 0 (x0 / 8 * 8)).length = 32 := by rw [List.length_set]; exact hLl
 have Hfu := Lib.hid hfu
 have G0 := Lib.hid hg0
 have G1 := Lib.hid hg31
 have HC := Lib.hid hcl
 clear e1 dH hH hg0 hg31 hcl hx0 hx1 hL hfu ds
 have hE0 := Env.nil w
 go_enter Tryz.func20, Tryz.ntmps20
 repeat ((fail_if_success refine sqx ?_); go_step)
 refine wl_step (st_boxA hE0 rfl rfl rfl ?_)
 intro g0 w1 hb1 hE1
 clear hE0
 simp only [qZ]
 refine wl_step (sqA (ints .u8 (List.replicate 32 0)) hE1 ?_)
 intro g1 w2 hb2 hE2
 clear hE1
 simp only [qZ]
 refine mqC ?_
 repeat ((fail_if_success refine sqx ?_); go_step)
 refine wqv (v_sliceAll rfl rfl Tryz.underlying22 (by kernel_rfl)) ?_
 refine wl_step (st_gives hE2 rfl (run_call rfl Tryz.call58) (HS.out _ _ (RdS.whole (hE2.get (i := 1) rfl) hs)) ?_)
 intro w3 hb3 hE3
 clear hE2
 simp only [qZ]
 refine wl_step (sqA (ints .u8 (List.replicate 64 0)) hE3 ?_)
 intro g2 w4 hb4 hE4
 clear hE3
 simp only [qZ]
 refine wl_step (sqS 0 64 hE4 ?_)
 intro w5 hE5
 clear hE4
 simp only [qpB, qpC] at hE5
 simp only [qZ]
 repeat ((fail_if_success refine sqx ?_); go_step)
 refine wl_step (sqA (ints .u8 (List.replicate 32 0)) hE5 ?_)
 intro g3 w6 hb6 hE6
 clear hE5
 simp only [qZ]
 repeat ((fail_if_success refine sqx ?_); go_step)
 refine mqC ?_
 have hz : ints .u8 (List.replicate 32 0) = ints .u8 (firstAt H 0) := by rw [firstAt_zero]
 have hst : Env w [⟨g3, 22, ints .u8 (firstAt H 0)⟩, ⟨g2, 30, ints .u8 H⟩, ⟨g1, 22, ints .u8 (List.replicate 32 0)⟩, ⟨g0, 22, ints .u8 s⟩] w6 := by
  rw [← hz]
  exact hE6
 clear hE6 hz
 go_wp2
 go_loopw [6] (fun i wr => ∃ j : Nat, j ≤ 32 ∧ i = .int .i64 j ∧ Env w [⟨g3, 22, ints .u8 (firstAt H j)⟩, ⟨g2, 30, ints .u8 H⟩, ⟨g1, 22, ints .u8 (List.replicate 32 0)⟩, ⟨g0, 22, ints .u8 s⟩] wr) (fun i _ => 32 - (intOf i).toNat)
 case atStart => exact ⟨0, Nat.zero_le _, rfl, hst⟩
 case round =>
  clear hst
  obtain ⟨j, hj, rfl, hE0⟩ := hrel
  by_cases hj32 : j < 32
  ·have d1 := Lib.hid (decide_eq_true hj32)
   have hs1 := Lib.hid (Hset.out j hj32)
   have hln := Hlen.out j hj
   have hjF : j < (firstAt H j).length := by omega
   have hjH : j < H.length := by omega
   have hj64 : j < 64 := by omega
   repeat ((fail_if_success refine sqx ?_); go_step)
   refine mqA ?_
   refine wqv (v_lss (n := 32) rfl rfl rfl) ?_
   rw [d1.out]
   repeat ((fail_if_success refine sqy ?_); go_step)
   refine cqT ?_
   skip
   repeat ((fail_if_success refine sqx ?_); go_step)
   refine mqA ?_
   refine mqA ?_
   refine wqv (vqI Tryz.underlying30) ?_
   refine wqv (vqC 1 hE0 Tryz.underlying5) ?_
   refine wqv (vqI Tryz.underlying22) ?_
   refine wl_step (st_putN (i := 0) hE0 rfl rfl rfl rfl rfl (by kernel_rfl) hjF ?_)
   intro w1 hE1
   clear hE0
   rw [hs1.out] at hE1
   simp only [List.set_cons_zero] at hE1
   simp only [qZ]
   repeat ((fail_if_success refine sqx ?_); go_step)
   refine mqA ?_
   refine wqv (v_add (n := 1) rfl rfl rfl (w_i64 (by omega))) ?_
   refine mqB ?_
   go_wp2
   go_roundw
   case rel => exact ⟨j + 1, by omega, rfl, hE1⟩
   case measure => simp [intOf]; omega
  ·have hj' : j = 32 := by omega
   subst hj'
   have d1 := Lib.hid (decide_eq_false hj32)
   rw [Hfu.out] at hE0
   repeat ((fail_if_success refine sqx ?_); go_step)
   refine mqA ?_
   refine wqv (v_lss (n := 32) rfl rfl rfl) ?_
   rw [d1.out]
   repeat ((fail_if_success refine sqy ?_); go_step)
   refine cqF ?_
   skip
   repeat ((fail_if_success refine sqx ?_); go_step)
   refine wqv (vqI (j := 0) Tryz.underlying22) ?_
   refine wqv (vqC 0 hE0 Tryz.underlying5) ?_
   rw [G0.out]
   refine wqv (v_quo (n := 8) rfl rfl rfl (by omega) (w_u8 (by omega))) ?_
   refine wqv (v_mul (n := 8) rfl rfl rfl (w_u8 (by omega))) ?_
   refine wqv (vqI (j := 0) Tryz.underlying22) ?_
   refine wl_step (st_putN (i := 0) hE0 rfl rfl rfl rfl rfl (by kernel_rfl) (by first | assumption | omega | (simp only [List.length_set, List.length_replicate]; first | assumption | omega)) ?_)
   intro w1 hE1
   clear hE0
   simp only [qpB, qpC] at hE1
   simp only [qZ]
   repeat ((fail_if_success refine sqx ?_); go_step)
   refine wqv (vqI (j := 31) Tryz.underlying22) ?_
   refine wqv (vqC 0 hE1 Tryz.underlying5) ?_
   rw [G1.out]
   refine wqv (v_rem (n := 64) rfl rfl rfl (by omega)) ?_
   refine wqv (v_add (n := 64) rfl rfl rfl (by first | exact w_u8 (by omega) | exact w_u8m _)) ?_
   refine wqv (vqI (j := 31) Tryz.underlying22) ?_
   refine wl_step (st_putN (i := 0) hE1 rfl rfl rfl rfl rfl (by kernel_rfl) (by first | assumption | omega | (simp only [List.length_set, List.length_replicate]; first | assumption | omega)) ?_)
   intro w2 hE2
   clear hE1
   simp only [qpB, qpC] at hE2
   simp only [qZ]
   rw [HC.out] at hE2
   repeat ((fail_if_success refine sqx ?_); go_step)
   refine wp_region_B (n := 4) 0 (by kernel_rfl) rfl hE2 ?_
   intro w3 hb3 hE3
   clear hE2
   refine wpB_takeU (i := 1) rfl (by kernel_rfl) (fun _ _ _ h => h) rfl (fun _ => (v_sliceArrL rfl rfl rfl Tryz.underlying30 (by kernel_rfl) (by decide))) ?_
   simp only [qZ]
   refine sqB 0 rfl (st_val rfl (vqL 0 32 hE3 Tryz.underlying22) ?_)
   refine ⟨fun _ => Below.refl _ _, ?_⟩
   simp only [qZ]
   refine sqB 2 rfl (sqS 2 32 hE3 ?_)
   intro w4 hE4
   clear hE3
   simp only [qpB, qpC] at hE4
   refine nqB ?_
   simp only [qZ]
   refine sqB 3 rfl (st_val rfl (v_moveT (.inr rfl) rfl) ?_)
   refine ⟨fun _ => Below.refl _ _, ?_⟩
   simp only [qZ]
   refine wpB_done (by kernel_rfl) ?_ _
   repeat ((fail_if_success refine sqy ?_); go_step)
   refine bodyPost_ret (results_ct rfl _ _ _ _ _ (0, 0) _ rfl ((hE4).get (i := 2) rfl) Tryz.underlying22 rfl (sz_of (n := 32) (by kernel_rfl) (by rw [ints_size]; exact h32)) rfl) rfl ?_
   exact ⟨g2, rfl, (hE4).below, (hE4).new ⟨g2, 30, ints .u8 H⟩ (by simp), (hE4).get (i := 1) rfl⟩
end Go.Proofs.YthddoelflmoedaaGreat
namespace Go.Proofs.YthddoelflmoedaaGreat
open Go.RowKit
set_option maxRecDepth 100000

set_option maxHeartbeats 1000000 in
theorem Rot64_any {x n : Nat} (hx : x < 2 ^ 64) (h0 : 0 < n) (hn : n < 64) (w : World) : Gives 117 #[.int .u64 (x : Int), .int .i64 (-(n : Int))] w (.int .u64 (rr 64 n x : Nat)) := by
 have h9 : n < 9223372036854775808 := by omega
 have hu : 18446744073709551616 - n < 2 ^ IntKind.u64.bits := by show _ < 18446744073709551616; omega
 have hm : (18446744073709551616 - n) % 64 = 64 - n := by omega
 have hb1 : 64 - n ≤ IntKind.u64.bits := by show _ ≤ 64; omega
 have hb2 : 64 - (64 - n) ≤ IntKind.u64.bits := by show _ ≤ 64; omega
 have hr : x * 2 ^ (64 - n) % 18446744073709551616 < 2 ^ IntKind.u64.bits := Nat.mod_lt _ (by decide)
 have hq : x / 2 ^ (64 - (64 - n)) < 2 ^ IntKind.u64.bits := Nat.lt_of_le_of_lt (Nat.div_le_self _ _) hx
 have he : x * 2 ^ (64 - n) % 18446744073709551616 ||| x / 2 ^ (64 - (64 - n)) = rr 64 n x := by
  unfold rr
  rw [show 64 - (64 - n) = n by omega]
 have Hm := Lib.hid hm
 have He := Lib.hid he
 have hs32 : 64 - n ≤ 64 := by omega
 clear hm he
 have hE0 := Env.nil w
 go_enter Tryz.func117, Tryz.ntmps117
 repeat ((fail_if_success refine sqx ?_); go_step)
 refine mqC ?_
 repeat ((fail_if_success refine sqx ?_); go_step)
 refine mqA ?_
 refine wqv (v_convNeg rfl rfl Tryz.underlying3 Tryz.underlying104 h0 h9) ?_
 refine wqv (v_mask (c := 63) (s := 6) (d := 64) rfl rfl rfl (by decide) (by decide) rfl hu (by decide)) ?_
 rw [Hm.out]
 refine mqB ?_
 repeat ((fail_if_success refine sqx ?_); go_step)
 refine mqA ?_
 refine mqA ?_
 refine wqv (v_shl (m := x) (s := 64 - n) rfl rfl rfl hb1 (w_u64m _)) ?_
 refine mqA ?_
 refine mqA ?_
 refine wqv (v_sub (m := 64) (n := 64 - n) (r := ((64 - (64 - n) : Nat) : Int)) rfl rfl rfl (w_u64s hs32 (by decide))) ?_
 refine wqv (v_shr rfl rfl rfl hb2) ?_
 refine wqv (v_bor rfl rfl rfl hr hq (w_or rfl hr hq)) ?_
 rw [He.out]
 refine mqB ?_
 repeat ((fail_if_success refine sqx ?_); go_step)
 go_returns
 exact ⟨rfl, hE0.below⟩
set_option maxHeartbeats 1000000 in
theorem turnL_any {x n : Nat} (hx : x < 2 ^ 64) (h0 : 0 < n) (hn : n < 64) (w : World) : Gives 114 #[.int .u64 (x : Int), .int .i64 (n : Int)] w (.int .u64 (rr 64 n x : Nat)) := by
 have h9 : n < 9223372036854775808 := by omega
 have HR := Lib.hid (fun w => Rot64_any hx h0 hn w)
 have hE0 := Env.nil w
 go_enter Tryz.func114, Tryz.ntmps114
 repeat ((fail_if_success refine sqx ?_); go_step)
 refine mqC ?_
 repeat ((fail_if_success refine sqx ?_); go_step)
 refine mqA ?_
 refine mqA ?_
 refine wqv (v_negN rfl rfl h9) ?_
 refine wl_step (st_gives hE0 rfl (run_call rfl Tryz.call117) (HR.out _) ?_)
 intro w1 hb1 hE1
 clear hE0
 simp only [qZ]
 refine mqB ?_
 repeat ((fail_if_success refine sqx ?_); go_step)
 go_returns
 exact ⟨rfl, hE1.below⟩
end Go.Proofs.YthddoelflmoedaaGreat
namespace Go.Proofs.YthddoelflmoedaaGreat
open Go.RowKit
set_option maxRecDepth 100000

theorem word512 {l : List Nat} {i : Nat} (hi : i < 16) (hl : 128 ≤ l.length) : wordAt 64 (l.take 128) i = beN ((l.drop (8 * i)).take (8 * i + 8 - 8 * i)) := by
 unfold wordAt
 rw [show (64 : Nat) / 8 = 8 from rfl, Nat.mul_comm i 8, List.drop_take, List.take_take, show 8 * i + 8 - 8 * i = 8 by omega, show min 8 (128 - 8 * i) = 8 by omega]
theorem rr64 {x : Nat} (h : x < 18446744073709551616) (n : Nat) : rr 64 n x < 2 ^ IntKind.u64.bits := rr_lt h

set_option maxRecDepth 100000 in
set_option maxHeartbeats 16000000 in
theorem mix512_any {h l : List Nat} {v : Value} {gk : Nat} {Tk : TypeId} {w : World} (hh : h.length = 8) (hd : ∀ j, h.getD j 0 < 18446744073709551616) (hv : RdS .u8 l v w) (dl : Digs 256 l) (h64 : 128 ≤ l.length) (hk : w.heap[gk]? = some (.cells (ints .u64 k512.rounds) Tk (0, 0))) :
  Gives 88 #[.agg (ints .u64 h), v, .pointer (some ⟨gk, 0, none⟩)] w (.agg (ints .u64 (blockS k512 h (l.take 128)))) := by
 have hgk : gk < w.heap.size := (Array.getElem?_eq_some_iff.1 hk).1
 obtain ⟨p, c, rfl, hcap, -⟩ := id hv
 have dm : Digs 256 (l.take 128) := dl.take 128
 have hnum : ∀ i, i < 16 → ∀ w1, Below w.heap.size w w1 → Gives 113 #[slcd p (8 * i) (8 * i + 8) c] w1 (.int .u64 (wordAt 64 (l.take 128) i : Nat)) := fun i hi w1 hb => by
  rw [word512 hi h64]
  exact number_any ((hv.below hb).slcd (by omega) (by omega)).row ((dl.drop _).take _) (Nat.le_trans (List.length_take_le _ _) (by omega))
 have hkc : ∀ n, n < 80 → ∀ w1, Below w.heap.size w w1 → w1.cell? ⟨gk, n, none⟩ = some (.int .u64 (k512.rounds.getD n 0 : Nat)) := fun n hn w1 hb => by
  rw [cell_of_row w1 gk n _ _ _ ((hb.block gk hgk).trans hk), ints_get? _ _ _ (by rw [k512_len]; exact hn)]
 have hwl : ∀ i, wordAt 64 (l.take 128) i < 18446744073709551616 := fun i => wordAt_lt dm i
 have hcap' : 128 ≤ c := by omega
 obtain ⟨m, hm⟩ : ∃ m, l.take 128 = m := ⟨_, rfl⟩
 rw [hm] at hnum hwl dm ⊢
 obtain ⟨SC, R, hF⟩ : ∃ SC R, MixF k512 h m 80 18446744073709551616 SC R := ⟨_, _, mixF (k := k512) rfl dm hh hd⟩
 have hB8 := blockS_len k512 h m
 obtain ⟨s0, sl, sa, sb, sc, r0, rl, rn, rb, bl⟩ := hF
 obtain ⟨B, hB⟩ : ∃ B, blockS k512 h m = B := ⟨_, rfl⟩
 rw [hB] at hB8 bl ⊢
 have kb := k512_lt
 obtain ⟨kc, hkcE⟩ : ∃ kc : Nat → Nat, (fun n => k512.rounds.getD n 0) = kc := ⟨_, rfl⟩
 have hkcE' : ∀ n, k512.rounds.getD n 0 = kc n := fun n => congrFun hkcE n
 simp only [hkcE'] at hkc rn kb
 obtain ⟨wa, hwa⟩ : ∃ wa : Nat → Nat, (fun n => wordAt 64 m n) = wa := ⟨_, rfl⟩
 have hwa' : ∀ n, wordAt 64 m n = wa n := fun n => congrFun hwa n
 have sa' : ∀ K, K < 80 → K < 16 → (SC K).set K (wa K) = SC (K + 1) := fun K h1 h2 => by rw [← hwa']; exact sa K h1 h2
 simp only [hwa'] at hnum hwl
 have sb' : ∀ K, K < 80 → 16 ≤ K → (SC K).set K ((smallS 64 (19, 61, 6) ((SC K).getD (K - 2) 0) + (SC K).getD (K - 7) 0 + smallS 64 (1, 8, 7) ((SC K).getD (K - 15) 0) + (SC K).getD (K - 16) 0) % 18446744073709551616) = SC (K + 1) := sb
 have rn' : ∀ n, R (n + 1) = [(((R n).getD 7 0 + bigS 64 (14, 18, 41) ((R n).getD 4 0) + chS 64 ((R n).getD 4 0) ((R n).getD 5 0) ((R n).getD 6 0) + kc n + (SC 80).getD n 0) % 18446744073709551616 + (bigS 64 (28, 34, 39) ((R n).getD 0 0) + majS ((R n).getD 0 0) ((R n).getD 1 0) ((R n).getD 2 0)) % 18446744073709551616) % 18446744073709551616, (R n).getD 0 0, (R n).getD 1 0, (R n).getD 2 0,
       ((R n).getD 3 0 + ((R n).getD 7 0 + bigS 64 (14, 18, 41) ((R n).getD 4 0) + chS 64 ((R n).getD 4 0) ((R n).getD 5 0) ((R n).getD 6 0) + kc n + (SC 80).getD n 0) % 18446744073709551616) % 18446744073709551616, (R n).getD 4 0, (R n).getD 5 0, (R n).getD 6 0] := fun n => rn n
 have Hnum := Lib.hid hnum
 have Hkc := Lib.hid hkc
 have Hwl := Lib.hid hwl
 have Hkb := Lib.hid kb
 have S0 := Lib.hid s0
 have Sl := Lib.hid sl
 have Sa := Lib.hid sa'
 have Sb := Lib.hid sb'
 have Sc := Lib.hid sc
 have R0 := Lib.hid r0
 have Rl := Lib.hid rl
 have Rn := Lib.hid rn'
 have Rb := Lib.hid rb
 have Bl := Lib.hid bl
 clear hnum hkc hwl hv dl dm hk hcap hm hd h64 hgk s0 sl sa sa' sb sb' sc r0 rl rn rn' rb bl hB kb hkcE hkcE' hwa hwa'
 have hE0 := Env.nil w
 go_enter Tryz.func88, Tryz.ntmps88
 repeat ((fail_if_success refine sqx ?_); go_step)
 refine wl_step (st_boxA hE0 rfl rfl rfl ?_)
 intro g0 w1 hb1 hE1
 clear hE0
 simp only [qZ]
 refine wl_step (sqA (ints .u64 (List.replicate 8 0)) hE1 ?_)
 intro g1 w2 hb2 hE2
 clear hE1
 simp only [qZ]
 repeat ((fail_if_success refine sqx ?_); go_step)
 refine wl_step (sqA (ints .u64 (List.replicate 80 0)) hE2 ?_)
 intro g2 w3 hb3 hE3
 clear hE2
 simp only [qZ]
 rw [← S0.out] at hE3
 repeat ((fail_if_success refine sqx ?_); go_step)
 refine wqv (v_moveC (.inl rfl)) ?_
 go_wp2
 go_loopw [18] (fun i wr => ∃ K : Nat, K ≤ 80 ∧ i = .int .i64 K ∧ Env w [⟨g2, 117, ints .u64 (SC K)⟩, ⟨g1, 96, ints .u64 (List.replicate 8 0)⟩, ⟨g0, 96, ints .u64 h⟩] wr) (fun i _ => 80 - (intOf i).toNat)
 case atStart => exact ⟨0, Nat.zero_le _, rfl, hE3⟩
 case round =>
  clear hE3
  obtain ⟨K, hK, rfl, hE0⟩ := hrel
  have hSl := Sl.out K hK
  by_cases hK64 : K < 80
  ·by_cases h16 : K < 16
   ·have hset := Sa.out K hK64 h16
    have hn := Hnum.out K h16
    have hwb := Hwl.out K
    obtain ⟨x, hx⟩ : ∃ x, wa K = x := ⟨_, rfl⟩
    rw [hx] at hn hwb hset
    obtain ⟨S, hS⟩ : ∃ S, SC K = S := ⟨_, rfl⟩
    rw [hS] at hset hSl hE0
    have HN := Lib.hid hn
    have HS := Lib.hid hset
    have hlo : 8 * K ≤ 8 * K + 8 := by omega
    have hhi : 8 * K + 8 ≤ c := by omega
    clear hn hset hx hS
    repeat ((fail_if_success refine sqx ?_); go_step)
    refine wqv (v_lss (n := 80) rfl rfl rfl) ?_
    repeat ((fail_if_success refine sqx ?_); go_step)
    refine mqA ?_
    refine mqB ?_
    repeat ((fail_if_success refine sqx ?_); go_step)
    refine mqA ?_
    refine wqv (v_lss (n := 16) rfl rfl rfl) ?_
    repeat ((fail_if_success refine sqy ?_); go_step)
    refine cqT ?_
    skip
    repeat ((fail_if_success refine sqx ?_); go_step)
    refine mqA ?_
    refine mqA ?_
    refine mqA ?_
    refine wqv (v_mul (m := 8) rfl rfl rfl (w_i64 (by omega))) ?_
    refine mqA ?_
    refine wqv (v_mul (m := 8) rfl rfl rfl (w_i64 (by omega))) ?_
    refine wqv (v_add (n := 8) rfl rfl rfl (w_i64 (by omega))) ?_
    refine wqv (v_sliceLH rfl rfl rfl rfl Tryz.underlying24 (by kernel_rfl) hlo hhi) ?_
    refine wl_step (st_gives hE0 rfl (run_call rfl Tryz.call113) (HN.out _ hE0.below) ?_)
    intro w1 hb1 hE1
    clear hE0
    simp only [qZ]
    refine wqv (vqI Tryz.underlying117) ?_
    refine wl_step (st_putN (i := 0) hE1 rfl rfl rfl rfl rfl (by kernel_rfl) (by first | assumption | omega | (simp only [List.length_set, List.length_replicate]; first | assumption | omega)) ?_)
    intro w2 hE2
    clear hE1
    simp only [qpB, qpC] at hE2
    simp only [qZ]
    rw [HS.out] at hE2
    repeat ((fail_if_success refine sqx ?_); go_step)
    refine wqv (v_add (n := 1) rfl rfl rfl (w_i64 (by omega))) ?_
    refine mqA ?_
    go_wp2
    go_roundw
    case rel => exact ⟨K + 1, by omega, rfl, hE2⟩
    case measure => simp [intOf]; omega
   ·have hset := Sb.out K hK64 (by omega)
    have bx := Sc.out K (K - 15)
    have by' := Sc.out K (K - 2)
    have b16 := Sc.out K (K - 16)
    have b7 := Sc.out K (K - 7)
    obtain ⟨S, hS⟩ : ∃ S, SC K = S := ⟨_, rfl⟩
    rw [hS] at hset hSl hE0 bx by' b16 b7
    obtain ⟨x, g15⟩ : ∃ x, S.getD (K - 15) 0 = x := ⟨_, rfl⟩
    obtain ⟨y, g2'⟩ : ∃ x, S.getD (K - 2) 0 = x := ⟨_, rfl⟩
    obtain ⟨z, g16⟩ : ∃ x, S.getD (K - 16) 0 = x := ⟨_, rfl⟩
    obtain ⟨u, g7⟩ : ∃ x, S.getD (K - 7) 0 = x := ⟨_, rfl⟩
    rw [g15] at hset bx
    rw [g2'] at hset by'
    rw [g16] at hset b16
    rw [g7] at hset b7
    have t1 := fun w => turnL_any (x := x) (n := 1) bx (by decide) (by decide) w
    have t2 := fun w => turnL_any (x := x) (n := 8) bx (by decide) (by decide) w
    have t3 := fun w => turnL_any (x := y) (n := 19) by' (by decide) (by decide) w
    have t4 := fun w => turnL_any (x := y) (n := 61) by' (by decide) (by decide) w
    have r1 := rr64 bx 1
    have r2 := rr64 bx 8
    have r3 := rr64 by' 19
    have r4 := rr64 by' 61
    have r5 : x / 128 < 2 ^ IntKind.u64.bits := Nat.lt_of_le_of_lt (Nat.div_le_self _ _) bx
    have r6 : y / 64 < 2 ^ IntKind.u64.bits := Nat.lt_of_le_of_lt (Nat.div_le_self _ _) by'
    have x1 := Nat.xor_lt_two_pow r1 r2
    have x2 := Nat.xor_lt_two_pow r3 r4
    have e0 : smallS 64 (1, 8, 7) x = rr 64 1 x ^^^ rr 64 8 x ^^^ x / 128 := rfl
    have e1 : smallS 64 (19, 61, 6) y = rr 64 19 y ^^^ rr 64 61 y ^^^ y / 64 := rfl
    have hsum : (((z + smallS 64 (1, 8, 7) x) % 18446744073709551616 + u) % 18446744073709551616 + smallS 64 (19, 61, 6) y) % 18446744073709551616 = (smallS 64 (19, 61, 6) y + u + smallS 64 (1, 8, 7) x + z) % 18446744073709551616 := sum4 _ _ _ _ _
    have G15 := Lib.hid g15
    have G2 := Lib.hid g2'
    have G16 := Lib.hid g16
    have G7 := Lib.hid g7
    have T1 := Lib.hid t1
    clear t1
    have T2 := Lib.hid t2
    clear t2
    have T3 := Lib.hid t3
    clear t3
    have T4 := Lib.hid t4
    clear t4
    have E0 := Lib.hid e0.symm
    have E1 := Lib.hid e1.symm
    have HS := Lib.hid hset
    have Hsum := Lib.hid hsum
    have j15 : K - 15 < 80 := by omega
    have j2 : K - 2 < 80 := by omega
    have j16 : K - 16 < 80 := by omega
    have j7 : K - 7 < 80 := by omega
    clear hset hsum e0 e1 g15 g2' g16 g7 hS
    repeat ((fail_if_success refine sqx ?_); go_step)
    refine wqv (v_lss (n := 80) rfl rfl rfl) ?_
    repeat ((fail_if_success refine sqx ?_); go_step)
    refine mqA ?_
    refine mqB ?_
    repeat ((fail_if_success refine sqx ?_); go_step)
    refine mqA ?_
    refine wqv (v_lss (n := 16) rfl rfl rfl) ?_
    repeat ((fail_if_success refine sqy ?_); go_step)
    refine cqF ?_
    skip
    repeat ((fail_if_success refine sqx ?_); go_step)
    refine wp_region_B (n := 10) 10 (by kernel_rfl) rfl hE0 ?_
    intro w1 hb1 hE1
    clear hE0
    refine tqB 0 rfl (v_moveT (.inl rfl) rfl) ?_
    refine tqB 1 rfl (v_sub (n := 15) rfl rfl rfl (by first | exact w_i64s (by omega) (by omega) | exact w_i64I (by omega) (by omega))) ?_
    refine tqB 2 rfl (vqI Tryz.underlying117) ?_
    refine tqB 3 rfl (vqC 0 hE1 Tryz.underlying50) ?_
    rw [G15.out]
    refine tqB 4 rfl (v_moveT (.inl rfl) rfl) ?_
    refine tqB 5 rfl (v_sub (n := 2) rfl rfl rfl (by first | exact w_i64s (by omega) (by omega) | exact w_i64I (by omega) (by omega))) ?_
    refine tqB 6 rfl (vqI Tryz.underlying117) ?_
    refine tqB 7 rfl (vqC 0 hE1 Tryz.underlying50) ?_
    rw [G2.out]
    refine tqB 8 rfl (v_moveT (.inr rfl) rfl) ?_
    refine tqB 9 rfl (v_moveT (.inr rfl) rfl) ?_
    refine wpB_done (by kernel_rfl) ?_ _
    repeat ((fail_if_success refine sqx ?_); go_step)
    refine wp_region_B (n := 30) 29 (by kernel_rfl) rfl hE1 ?_
    intro w2 hb2 hE2
    clear hE1
    refine tqB 0 rfl (v_moveT (.inl rfl) rfl) ?_
    refine tqB 1 rfl (v_moveT (.inl rfl) rfl) ?_
    refine tqB 2 rfl (v_sub (n := 16) rfl rfl rfl (by first | exact w_i64s (by omega) (by omega) | exact w_i64I (by omega) (by omega))) ?_
    refine tqB 3 rfl (vqI Tryz.underlying117) ?_
    refine tqB 4 rfl (vqC 0 hE2 Tryz.underlying50) ?_
    rw [G16.out]
    refine tqB 5 rfl (v_moveT (.inl rfl) rfl) ?_
    refine tqB 7 rfl (v_moveT (.inl rfl) rfl) ?_
    refine tqB 10 rfl (v_moveT (.inl rfl) rfl) ?_
    refine tqB 11 rfl (v_shrC (s := 7) (d := 128) rfl rfl rfl (by decide) (by decide)) ?_
    refine tqB 14 rfl (v_moveT (.inl rfl) rfl) ?_
    refine tqB 15 rfl (v_sub (n := 7) rfl rfl rfl (by first | exact w_i64s (by omega) (by omega) | exact w_i64I (by omega) (by omega))) ?_
    refine tqB 16 rfl (vqI Tryz.underlying117) ?_
    refine tqB 17 rfl (vqC 0 hE2 Tryz.underlying50) ?_
    rw [G7.out]
    refine tqB 19 rfl (v_moveT (.inl rfl) rfl) ?_
    refine tqB 21 rfl (v_moveT (.inl rfl) rfl) ?_
    refine tqB 24 rfl (v_moveT (.inl rfl) rfl) ?_
    refine tqB 25 rfl (v_shrC (s := 6) (d := 64) rfl rfl rfl (by decide) (by decide)) ?_
    refine sqB 6 rfl (st_gives hE2 rfl (run_call rfl Tryz.call114) (T1.out _) ?_)
    intro w3 hb3 hE3
    clear hE2
    refine ⟨fun _ => hb3, ?_⟩
    simp only [qZ]
    refine sqB 8 rfl (st_gives hE3 rfl (run_call rfl Tryz.call114) (T2.out _) ?_)
    intro w4 hb4 hE4
    clear hE3
    refine ⟨fun _ => hb4, ?_⟩
    simp only [qZ]
    refine tqB 9 rfl (v_bxor rfl rfl rfl r1 r2 (w_xor rfl r1 r2)) ?_
    refine tqB 12 rfl (v_bxor rfl rfl rfl x1 r5 (w_xor rfl x1 r5)) ?_
    rw [E0.out]
    refine tqB 13 rfl (v_add rfl rfl rfl (w_u64m _)) ?_
    refine tqB 18 rfl (v_add rfl rfl rfl (w_u64m _)) ?_
    refine sqB 20 rfl (st_gives hE4 rfl (run_call rfl Tryz.call114) (T3.out _) ?_)
    intro w5 hb5 hE5
    clear hE4
    refine ⟨fun _ => hb5, ?_⟩
    simp only [qZ]
    refine sqB 22 rfl (st_gives hE5 rfl (run_call rfl Tryz.call114) (T4.out _) ?_)
    intro w6 hb6 hE6
    clear hE5
    refine ⟨fun _ => hb6, ?_⟩
    simp only [qZ]
    refine tqB 23 rfl (v_bxor rfl rfl rfl r3 r4 (w_xor rfl r3 r4)) ?_
    refine tqB 26 rfl (v_bxor rfl rfl rfl x2 r6 (w_xor rfl x2 r6)) ?_
    rw [E1.out]
    refine tqB 27 rfl (v_add rfl rfl rfl (w_u64m _)) ?_
    rw [Hsum.out]
    refine tqB 28 rfl (vqI Tryz.underlying117) ?_
    refine sqB 29 rfl (st_putN (i := 0) hE6 rfl rfl rfl rfl rfl (by kernel_rfl) (by first | assumption | omega | (simp only [List.length_set, List.length_replicate]; first | assumption | omega)) ?_)
    intro w7 hE7
    clear hE6
    simp only [qpB, qpC] at hE7
    refine nqB ?_
    simp only [qZ]
    refine wpB_done (by kernel_rfl) ?_ _
    rw [HS.out] at hE7
    repeat ((fail_if_success refine sqx ?_); go_step)
    refine wqv (v_add (n := 1) rfl rfl rfl (w_i64 (by omega))) ?_
    refine mqA ?_
    go_wp2
    go_roundw
    case rel => exact ⟨K + 1, by omega, rfl, hE7⟩
    case measure => simp [intOf]; omega
  ·have hK' : K = 80 := by omega
   subst hK'
   obtain ⟨W, hW⟩ : ∃ W, SC 80 = W := ⟨_, rfl⟩
   rw [hW] at hE0 hSl
   have HW := Lib.hid hW
   clear hW
   repeat ((fail_if_success refine sqx ?_); go_step)
   refine wqv (v_lss (n := 80) rfl rfl rfl) ?_
   repeat ((fail_if_success refine sqx ?_); go_step)
   refine wqv (vqL 2 8 hE0 Tryz.underlying96) ?_
   refine wl_step (sqA (ints .u64 (List.replicate 8 0)) hE0 ?_)
   intro g3 w1 hb1 hE1
   clear hE0
   simp only [qZ]
   refine wl_step (sqS 0 8 hE1 ?_)
   intro w2 hE2
   clear hE1
   simp only [qpB, qpC] at hE2
   simp only [qZ]
   repeat ((fail_if_success refine sqx ?_); go_step)
   refine wqv (v_moveC (.inl rfl)) ?_
   have hst : Env w [⟨g3, 96, ints .u64 (R 0)⟩, ⟨g2, 117, ints .u64 W⟩, ⟨g1, 96, ints .u64 (List.replicate 8 0)⟩, ⟨g0, 96, ints .u64 h⟩] w2 := by rw [R0.out]; exact hE2
   clear hE2
   go_wp2
   go_loopw [72] (fun i wr => ∃ n : Nat, n ≤ 80 ∧ i = .int .i64 n ∧ Env w [⟨g3, 96, ints .u64 (R n)⟩, ⟨g2, 117, ints .u64 W⟩, ⟨g1, 96, ints .u64 (List.replicate 8 0)⟩, ⟨g0, 96, ints .u64 h⟩] wr) (fun i _ => 80 - (intOf i).toNat)
   case atStart => exact ⟨0, Nat.zero_le _, rfl, hst⟩
   case round =>
    clear hst
    obtain ⟨n, hn, rfl, hE0⟩ := hrel
    have hVl := Rl.out n
    by_cases hn64 : n < 80
    ·have hbd := Rb.out n
     have hnext := Rn.out n
     rw [HW.out] at hnext
     have hkn := Hkc.out n hn64
     have bk := Hkb.out n
     have bw := Sc.out 80 n
     rw [HW.out] at bw
     obtain ⟨kk, hkk⟩ : ∃ x, kc n = x := ⟨_, rfl⟩
     rw [hkk] at hnext hkn bk
     obtain ⟨ww, hww⟩ : ∃ x, W.getD n 0 = x := ⟨_, rfl⟩
     rw [hww] at hnext bw
     obtain ⟨V, hV⟩ : ∃ V, R n = V := ⟨_, rfl⟩
     rw [hV] at hE0 hVl hbd hnext
     have v0 := hbd 0
     have v1 := hbd 1
     have v2 := hbd 2
     have v3 := hbd 3
     have v4 := hbd 4
     have v5 := hbd 5
     have v6 := hbd 6
     have v7 := hbd 7
     obtain ⟨a0, ha0⟩ : ∃ x, V.getD 0 0 = x := ⟨_, rfl⟩
     rw [ha0] at hnext v0
     have A0 := Lib.hid ha0
     clear ha0
     obtain ⟨a1, ha1⟩ : ∃ x, V.getD 1 0 = x := ⟨_, rfl⟩
     rw [ha1] at hnext v1
     have A1 := Lib.hid ha1
     clear ha1
     obtain ⟨a2, ha2⟩ : ∃ x, V.getD 2 0 = x := ⟨_, rfl⟩
     rw [ha2] at hnext v2
     have A2 := Lib.hid ha2
     clear ha2
     obtain ⟨a3, ha3⟩ : ∃ x, V.getD 3 0 = x := ⟨_, rfl⟩
     rw [ha3] at hnext v3
     have A3 := Lib.hid ha3
     clear ha3
     obtain ⟨a4, ha4⟩ : ∃ x, V.getD 4 0 = x := ⟨_, rfl⟩
     rw [ha4] at hnext v4
     have A4 := Lib.hid ha4
     clear ha4
     obtain ⟨a5, ha5⟩ : ∃ x, V.getD 5 0 = x := ⟨_, rfl⟩
     rw [ha5] at hnext v5
     have A5 := Lib.hid ha5
     clear ha5
     obtain ⟨a6, ha6⟩ : ∃ x, V.getD 6 0 = x := ⟨_, rfl⟩
     rw [ha6] at hnext v6
     have A6 := Lib.hid ha6
     clear ha6
     obtain ⟨a7, ha7⟩ : ∃ x, V.getD 7 0 = x := ⟨_, rfl⟩
     rw [ha7] at hnext v7
     have A7 := Lib.hid ha7
     clear ha7
     have t1 := fun w => turnL_any (x := a4) (n := 14) v4 (by decide) (by decide) w
     have t2 := fun w => turnL_any (x := a4) (n := 18) v4 (by decide) (by decide) w
     have t3 := fun w => turnL_any (x := a4) (n := 41) v4 (by decide) (by decide) w
     have t4 := fun w => turnL_any (x := a0) (n := 28) v0 (by decide) (by decide) w
     have t5 := fun w => turnL_any (x := a0) (n := 34) v0 (by decide) (by decide) w
     have t6 := fun w => turnL_any (x := a0) (n := 39) v0 (by decide) (by decide) w
     have r1 := rr64 v4 14
     have r2 := rr64 v4 18
     have r3 := rr64 v4 41
     have r4 := rr64 v0 28
     have r5 := rr64 v0 34
     have r6 := rr64 v0 39
     have x1 := Nat.xor_lt_two_pow r1 r2
     have x2 := Nat.xor_lt_two_pow r4 r5
     have e1 : rr 64 14 a4 ^^^ rr 64 18 a4 ^^^ rr 64 41 a4 = bigS 64 (14, 18, 41) a4 := rfl
     have e2 : rr 64 28 a0 ^^^ rr 64 34 a0 ^^^ rr 64 39 a0 = bigS 64 (28, 34, 39) a0 := rfl
     have b0 : a0 < 2 ^ IntKind.u64.bits := v0
     have b1 : a1 < 2 ^ IntKind.u64.bits := v1
     have b2 : a2 < 2 ^ IntKind.u64.bits := v2
     have b4 : a4 < 2 ^ IntKind.u64.bits := v4
     have b5 : a5 < 2 ^ IntKind.u64.bits := v5
     have b6 : a6 < 2 ^ IntKind.u64.bits := v6
     have c1 : a4 &&& a5 < 2 ^ IntKind.u64.bits := Nat.lt_of_le_of_lt Nat.and_le_left b4
     have cn : 2 ^ IntKind.u64.bits - 1 - a4 < 2 ^ IntKind.u64.bits := Nat.lt_of_le_of_lt (Nat.sub_le _ _) (by decide)
     have c2 : (2 ^ IntKind.u64.bits - 1 - a4) &&& a6 < 2 ^ IntKind.u64.bits := Nat.lt_of_le_of_lt Nat.and_le_right b6
     have e3 : a4 &&& a5 ^^^ (2 ^ IntKind.u64.bits - 1 - a4) &&& a6 = chS 64 a4 a5 a6 := rfl
     have d1 : a0 &&& a1 < 2 ^ IntKind.u64.bits := Nat.lt_of_le_of_lt Nat.and_le_left b0
     have d2 : a0 &&& a2 < 2 ^ IntKind.u64.bits := Nat.lt_of_le_of_lt Nat.and_le_left b0
     have d3 : a1 &&& a2 < 2 ^ IntKind.u64.bits := Nat.lt_of_le_of_lt Nat.and_le_left b1
     have d4 := Nat.xor_lt_two_pow d1 d2
     have e4 : a0 &&& a1 ^^^ a0 &&& a2 ^^^ a1 &&& a2 = majS a0 a1 a2 := rfl
     have hsum : (((a7 + bigS 64 (14, 18, 41) a4) % 18446744073709551616 + chS 64 a4 a5 a6) % 18446744073709551616 + kk) % 18446744073709551616 = (a7 + bigS 64 (14, 18, 41) a4 + chS 64 a4 a5 a6 + kk) % 18446744073709551616 := by simp only [Nat.mod_add_mod]
     have hsum2 : ((a7 + bigS 64 (14, 18, 41) a4 + chS 64 a4 a5 a6 + kk) % 18446744073709551616 + ww) % 18446744073709551616 = (a7 + bigS 64 (14, 18, 41) a4 + chS 64 a4 a5 a6 + kk + ww) % 18446744073709551616 := by simp only [Nat.mod_add_mod]
     obtain ⟨TT, hTT⟩ : ∃ x, (a7 + bigS 64 (14, 18, 41) a4 + chS 64 a4 a5 a6 + kk + ww) % 18446744073709551616 = x := ⟨_, rfl⟩
     obtain ⟨UU, hUU⟩ : ∃ x, (bigS 64 (28, 34, 39) a0 + majS a0 a1 a2) % 18446744073709551616 = x := ⟨_, rfl⟩
     rw [hTT] at hnext hsum2
     rw [hUU] at hnext
     obtain ⟨B0, hB0⟩ : ∃ x, (TT + UU) % 18446744073709551616 = x := ⟨_, rfl⟩
     obtain ⟨B4, hB4⟩ : ∃ x, (a3 + TT) % 18446744073709551616 = x := ⟨_, rfl⟩
     rw [hB0, hB4] at hnext
     have T1 := Lib.hid t1
     clear t1
     have T2 := Lib.hid t2
     clear t2
     have T3 := Lib.hid t3
     clear t3
     have T4 := Lib.hid t4
     clear t4
     have T5 := Lib.hid t5
     clear t5
     have T6 := Lib.hid t6
     clear t6
     have He1 := Lib.hid e1
     clear e1
     have He2 := Lib.hid e2
     clear e2
     have He3 := Lib.hid e3
     clear e3
     have He4 := Lib.hid e4
     clear e4
     have Hhsum := Lib.hid hsum
     clear hsum
     have Hhsum2 := Lib.hid hsum2
     clear hsum2
     have HhUU := Lib.hid hUU
     clear hUU
     have HhB0 := Lib.hid hB0
     clear hB0
     have HhB4 := Lib.hid hB4
     clear hB4
     have Hhkn := Lib.hid hkn
     clear hkn
     have Hhww := Lib.hid hww
     clear hww
     have Hhnext := Lib.hid hnext
     clear hnext
     clear hTT hV hkk hbd
     repeat ((fail_if_success refine sqx ?_); go_step)
     refine wqv (v_lss (n := 80) rfl rfl rfl) ?_
     repeat ((fail_if_success refine sqx ?_); go_step)
     refine mqA ?_
     refine mqB ?_
     repeat ((fail_if_success refine sqx ?_); go_step)
     refine wp_region_B (n := 6) 6 (by kernel_rfl) rfl hE0 ?_
     intro w1 hb1 hE1
     clear hE0
     refine tqB 0 rfl (vqI (j := 0) Tryz.underlying96) ?_
     refine tqB 1 rfl (vqC 0 hE1 Tryz.underlying50) ?_
     rw [A0.out]
     refine tqB 2 rfl (vqI (j := 4) Tryz.underlying96) ?_
     refine tqB 3 rfl (vqC 0 hE1 Tryz.underlying50) ?_
     rw [A4.out]
     refine tqB 4 rfl (v_moveT (.inr rfl) rfl) ?_
     refine tqB 5 rfl (v_moveT (.inr rfl) rfl) ?_
     refine wpB_done (by kernel_rfl) ?_ _
     repeat ((fail_if_success refine sqx ?_); go_step)
     refine wp_region_B (n := 33) 32 (by kernel_rfl) rfl hE1 ?_
     intro w2 hb2 hE2
     clear hE1
     refine tqB 0 rfl (vqI (j := 7) Tryz.underlying96) ?_
     refine tqB 1 rfl (vqC 0 hE2 Tryz.underlying50) ?_
     rw [A7.out]
     refine tqB 2 rfl (v_moveT (.inl rfl) rfl) ?_
     refine tqB 4 rfl (v_moveT (.inl rfl) rfl) ?_
     refine tqB 7 rfl (v_moveT (.inl rfl) rfl) ?_
     refine tqB 11 rfl (v_moveT (.inl rfl) rfl) ?_
     refine tqB 12 rfl (vqI (j := 5) Tryz.underlying96) ?_
     refine tqB 13 rfl (vqC 0 hE2 Tryz.underlying50) ?_
     rw [A5.out]
     refine tqB 14 rfl (v_band rfl rfl rfl b4 b5 (w_and rfl b4)) ?_
     refine tqB 15 rfl (v_moveT (.inl rfl) rfl) ?_
     refine tqB 16 rfl (v_compl rfl rfl rfl b4) ?_
     refine tqB 17 rfl (vqI (j := 6) Tryz.underlying96) ?_
     refine tqB 18 rfl (vqC 0 hE2 Tryz.underlying50) ?_
     rw [A6.out]
     refine tqB 19 rfl (v_band rfl rfl rfl cn b6 (w_and rfl cn)) ?_
     refine tqB 20 rfl (v_bxor rfl rfl rfl c1 c2 (w_xor rfl c1 c2)) ?_
     rw [He3.out]
     refine tqB 22 rfl (v_moveT (.inl rfl) rfl) ?_
     refine tqB 23 rfl (v_moveT (.inl rfl) rfl) ?_
     refine tqB 24 rfl (v_nil rfl rfl) ?_
     refine tqB 25 rfl (vqI Tryz.underlying117) ?_
     refine tqB 26 rfl (v_cell rfl rfl Tryz.underlying50 rfl (fun w1 hb => Hhkn.out w1 (hE2.below.trans (hb.mono hE2.below.size)))) ?_
     refine tqB 28 rfl (v_moveT (.inl rfl) rfl) ?_
     refine tqB 29 rfl (vqI Tryz.underlying117) ?_
     refine tqB 30 rfl (vqC 1 hE2 Tryz.underlying50) ?_
     rw [Hhww.out]
     refine sqB 3 rfl (st_gives hE2 rfl (run_call rfl Tryz.call114) (T1.out _) ?_)
     intro w3 hb3 hE3
     clear hE2
     refine ⟨fun _ => hb3, ?_⟩
     simp only [qZ]
     refine sqB 5 rfl (st_gives hE3 rfl (run_call rfl Tryz.call114) (T2.out _) ?_)
     intro w4 hb4 hE4
     clear hE3
     refine ⟨fun _ => hb4, ?_⟩
     simp only [qZ]
     refine tqB 6 rfl (v_bxor rfl rfl rfl r1 r2 (w_xor rfl r1 r2)) ?_
     refine sqB 8 rfl (st_gives hE4 rfl (run_call rfl Tryz.call114) (T3.out _) ?_)
     intro w5 hb5 hE5
     clear hE4
     refine ⟨fun _ => hb5, ?_⟩
     simp only [qZ]
     refine tqB 9 rfl (v_bxor rfl rfl rfl x1 r3 (w_xor rfl x1 r3)) ?_
     rw [He1.out]
     refine tqB 10 rfl (v_add rfl rfl rfl (w_u64m _)) ?_
     refine tqB 21 rfl (v_add rfl rfl rfl (w_u64m _)) ?_
     refine tqB 27 rfl (v_add rfl rfl rfl (w_u64m _)) ?_
     rw [Hhsum.out]
     refine tqB 31 rfl (v_add rfl rfl rfl (w_u64m _)) ?_
     rw [Hhsum2.out]
     refine sqB 32 rfl (st_val rfl (v_moveT (.inr rfl) rfl) ?_)
     refine ⟨fun _ => Below.refl _ _, ?_⟩
     simp only [qZ]
     refine wpB_done (by kernel_rfl) ?_ _
     repeat ((fail_if_success refine sqx ?_); go_step)
     refine wp_region_B (n := 25) 24 (by kernel_rfl) rfl hE5 ?_
     intro w6 hb6 hE6
     clear hE5
     refine tqB 0 rfl (v_moveT (.inl rfl) rfl) ?_
     refine tqB 2 rfl (v_moveT (.inl rfl) rfl) ?_
     refine tqB 5 rfl (v_moveT (.inl rfl) rfl) ?_
     refine tqB 8 rfl (v_moveT (.inl rfl) rfl) ?_
     refine tqB 9 rfl (vqI (j := 1) Tryz.underlying96) ?_
     refine tqB 10 rfl (vqC 0 hE6 Tryz.underlying50) ?_
     rw [A1.out]
     refine tqB 11 rfl (v_band rfl rfl rfl b0 b1 (w_and rfl b0)) ?_
     refine tqB 12 rfl (v_moveT (.inl rfl) rfl) ?_
     refine tqB 13 rfl (vqI (j := 2) Tryz.underlying96) ?_
     refine tqB 14 rfl (vqC 0 hE6 Tryz.underlying50) ?_
     rw [A2.out]
     refine tqB 15 rfl (v_band rfl rfl rfl b0 b2 (w_and rfl b0)) ?_
     refine tqB 16 rfl (v_bxor rfl rfl rfl d1 d2 (w_xor rfl d1 d2)) ?_
     refine tqB 17 rfl (vqI (j := 1) Tryz.underlying96) ?_
     refine tqB 18 rfl (vqC 0 hE6 Tryz.underlying50) ?_
     rw [A1.out]
     refine tqB 19 rfl (vqI (j := 2) Tryz.underlying96) ?_
     refine tqB 20 rfl (vqC 0 hE6 Tryz.underlying50) ?_
     rw [A2.out]
     refine tqB 21 rfl (v_band rfl rfl rfl b1 b2 (w_and rfl b1)) ?_
     refine tqB 22 rfl (v_bxor rfl rfl rfl d4 d3 (w_xor rfl d4 d3)) ?_
     rw [He4.out]
     refine sqB 1 rfl (st_gives hE6 rfl (run_call rfl Tryz.call114) (T4.out _) ?_)
     intro w7 hb7 hE7
     clear hE6
     refine ⟨fun _ => hb7, ?_⟩
     simp only [qZ]
     refine sqB 3 rfl (st_gives hE7 rfl (run_call rfl Tryz.call114) (T5.out _) ?_)
     intro w8 hb8 hE8
     clear hE7
     refine ⟨fun _ => hb8, ?_⟩
     simp only [qZ]
     refine tqB 4 rfl (v_bxor rfl rfl rfl r4 r5 (w_xor rfl r4 r5)) ?_
     refine sqB 6 rfl (st_gives hE8 rfl (run_call rfl Tryz.call114) (T6.out _) ?_)
     intro w9 hb9 hE9
     clear hE8
     refine ⟨fun _ => hb9, ?_⟩
     simp only [qZ]
     refine tqB 7 rfl (v_bxor rfl rfl rfl x2 r6 (w_xor rfl x2 r6)) ?_
     rw [He2.out]
     refine tqB 23 rfl (v_add rfl rfl rfl (w_u64m _)) ?_
     rw [HhUU.out]
     refine sqB 24 rfl (st_val rfl (v_moveT (.inr rfl) rfl) ?_)
     refine ⟨fun _ => Below.refl _ _, ?_⟩
     simp only [qZ]
     refine wpB_done (by kernel_rfl) ?_ _
     repeat ((fail_if_success refine sqx ?_); go_step)
     refine mqA ?_
     refine mqA ?_
     refine wqv (v_add rfl rfl rfl (w_u64m _)) ?_
     rw [HhB0.out]
     refine wqv (vqI (j := 0) Tryz.underlying96) ?_
     refine wqv (vqC 0 hE9 Tryz.underlying50) ?_
     rw [A0.out]
     refine wqv (vqI (j := 1) Tryz.underlying96) ?_
     refine wqv (vqC 0 hE9 Tryz.underlying50) ?_
     rw [A1.out]
     refine wqv (vqI (j := 2) Tryz.underlying96) ?_
     refine wqv (vqC 0 hE9 Tryz.underlying50) ?_
     rw [A2.out]
     refine wqv (vqI (j := 3) Tryz.underlying96) ?_
     refine wqv (vqC 0 hE9 Tryz.underlying50) ?_
     rw [A3.out]
     refine mqA ?_
     refine wqv (v_add rfl rfl rfl (w_u64m _)) ?_
     rw [HhB4.out]
     refine wqv (vqI (j := 4) Tryz.underlying96) ?_
     refine wqv (vqC 0 hE9 Tryz.underlying50) ?_
     rw [A4.out]
     refine wqv (vqI (j := 5) Tryz.underlying96) ?_
     refine wqv (vqC 0 hE9 Tryz.underlying50) ?_
     rw [A5.out]
     refine wqv (vqI (j := 6) Tryz.underlying96) ?_
     refine wqv (vqC 0 hE9 Tryz.underlying50) ?_
     rw [A6.out]
     refine wqv (v_built (k := .u64) (l := [B0, a0, a1, a2, B4, a4, a5, a6]) rfl (fun w => by kernel_rfl)) ?_
     refine wl_step (sqS 0 8 hE9 ?_)
     intro w10 hE10
     clear hE9
     simp only [qpB, qpC] at hE10
     simp only [qZ]
     rw [← Hhnext.out] at hE10
     repeat ((fail_if_success refine sqx ?_); go_step)
     refine wqv (v_add (n := 1) rfl rfl rfl (w_i64 (by omega))) ?_
     refine mqA ?_
     go_wp2
     go_roundw
     case rel => exact ⟨n + 1, by omega, rfl, hE10⟩
     case measure => simp [intOf]; omega
    ·have hn' : n = 80 := by omega
     subst hn'
     have hBg := Bl.out
     obtain ⟨V, hV⟩ : ∃ V, R 80 = V := ⟨_, rfl⟩
     rw [hV] at hE0 hVl hBg
     have HBg := Lib.hid hBg
     have hm0 : h = mixAt B h 0 := rfl
     have hm8 : mixAt B h 8 = B := by
      unfold mixAt
      rw [List.take_of_length_le (by omega), List.drop_of_length_le (by omega), List.append_nil]
     have Hm8 := Lib.hid hm8
     clear hBg hV hm8
     repeat ((fail_if_success refine sqx ?_); go_step)
     refine wqv (v_lss (n := 80) rfl rfl rfl) ?_
     repeat ((fail_if_success refine sqx ?_); go_step)
     refine wqv (v_moveC (.inl rfl)) ?_
     have hst : Env w [⟨g3, 96, ints .u64 V⟩, ⟨g2, 117, ints .u64 W⟩, ⟨g1, 96, ints .u64 (List.replicate 8 0)⟩, ⟨g0, 96, ints .u64 (mixAt B h 0)⟩] wr := hE0
     clear hm0 hE0
     go_wp2
     go_loopw [156] (fun i wr => ∃ n : Nat, n ≤ 8 ∧ i = .int .i64 n ∧ Env w [⟨g3, 96, ints .u64 V⟩, ⟨g2, 117, ints .u64 W⟩, ⟨g1, 96, ints .u64 (List.replicate 8 0)⟩, ⟨g0, 96, ints .u64 (mixAt B h n)⟩] wr) (fun i _ => 8 - (intOf i).toNat)
     case atStart => exact ⟨0, Nat.zero_le _, rfl, hst⟩
     case round =>
      clear hst
      obtain ⟨n, hn, rfl, hE0⟩ := hrel
      have hml := mixAt_len hB8 hh hn
      by_cases hn8 : n < 8
      ·have hg := mixAt_get (h := h) hB8 hn8
       have hs := mixAt_set hB8 hh hn8
       rw [HBg.out n hn8] at hs
       obtain ⟨M, hM⟩ : ∃ M, mixAt B h n = M := ⟨_, rfl⟩
       rw [hM] at hg hs hml hE0
       have HG := Lib.hid hg
       have HS := Lib.hid hs
       clear hg hs hM
       repeat ((fail_if_success refine sqx ?_); go_step)
       refine wqv (v_lss (n := 8) rfl rfl rfl) ?_
       repeat ((fail_if_success refine sqx ?_); go_step)
       refine mqA ?_
       refine mqB ?_
       repeat ((fail_if_success refine sqx ?_); go_step)
       refine wp_region_B (n := 9) 8 (by kernel_rfl) rfl hE0 ?_
       intro w1 hb1 hE1
       clear hE0
       refine tqB 0 rfl (v_moveT (.inl rfl) rfl) ?_
       refine tqB 1 rfl (vqI Tryz.underlying96) ?_
       refine tqB 2 rfl (vqC 3 hE1 Tryz.underlying50) ?_
       rw [HG.out]
       refine tqB 3 rfl (v_moveT (.inl rfl) rfl) ?_
       refine tqB 4 rfl (vqI Tryz.underlying96) ?_
       refine tqB 5 rfl (vqC 0 hE1 Tryz.underlying50) ?_
       refine tqB 6 rfl (v_add rfl rfl rfl (w_u64m _)) ?_
       refine tqB 7 rfl (vqI Tryz.underlying96) ?_
       refine sqB 8 rfl (st_putN (i := 3) hE1 rfl rfl rfl rfl rfl (by kernel_rfl) (by first | assumption | omega | (simp only [List.length_set, List.length_replicate]; first | assumption | omega)) ?_)
       intro w2 hE2
       clear hE1
       simp only [qpB, qpC] at hE2
       refine nqB ?_
       simp only [qZ]
       refine wpB_done (by kernel_rfl) ?_ _
       rw [HS.out] at hE2
       repeat ((fail_if_success refine sqx ?_); go_step)
       refine wqv (v_add (n := 1) rfl rfl rfl (w_i64 (by omega))) ?_
       refine mqA ?_
       go_wp2
       go_roundw
       case rel => exact ⟨n + 1, by omega, rfl, hE2⟩
       case measure => simp [intOf]; omega
      ·have hn' : n = 8 := by omega
       subst hn'
       rw [Hm8.out] at hE0
       repeat ((fail_if_success refine sqx ?_); go_step)
       refine wqv (v_lss (n := 8) rfl rfl rfl) ?_
       repeat ((fail_if_success refine sqx ?_); go_step)
       refine wqv (vqL 3 8 hE0 Tryz.underlying96) ?_
       refine wl_step (sqS 2 8 hE0 ?_)
       intro w1 hE1
       clear hE0
       simp only [qpB, qpC] at hE1
       simp only [qZ]
       repeat ((fail_if_success refine sqx ?_); go_step)
       refine bodyPost_ret (results_cell_row rfl _ _ _ _ _ (0, 0) _ rfl (hE1.get (i := 2) rfl) Tryz.underlying96 rfl (szqA (n := 8))) rfl ⟨rfl, hE1.below⟩
end Go.Proofs.YthddoelflmoedaaGreat
namespace Go.Proofs.YthddoelflmoedaaGreat
open Go.RowKit
set_option maxRecDepth 100000

set_option maxHeartbeats 2000000 in
theorem first512_any (w : World) : Gives 86 #[] w (.agg (ints .u64 k512.first)) := by
 have hk8 : k512.first.length = 8 := rfl
 have hE0 := Env.nil w
 go_enter Tryz.func86, Tryz.ntmps86
 repeat ((fail_if_success refine sqx ?_); go_step)
 refine wl_step (sqA (ints .u64 (List.replicate 8 0)) hE0 ?_)
 intro g0 w1 hb1 hE1
 clear hE0
 simp only [qZ]
 repeat ((fail_if_success refine sqx ?_); go_step)
 refine wqv (v_built (k := .u64) (l := k512.first) rfl (fun w => by kernel_rfl)) ?_
 refine wl_step (sqS 0 8 hE1 ?_)
 intro w2 hE2
 clear hE1
 simp only [qpB, qpC] at hE2
 simp only [qZ]
 repeat ((fail_if_success refine sqx ?_); go_step)
 refine bodyPost_ret (results_cell_row rfl _ _ _ _ _ (0, 0) _ rfl (hE2.get (i := 0) rfl) Tryz.underlying96 rfl (szqA (n := 8))) rfl ⟨rfl, hE2.below⟩
set_option maxRecDepth 100000 in
set_option maxHeartbeats 4000000 in
theorem rounds512_any (w : World) : Gives 87 #[] w (.agg (ints .u64 k512.rounds)) := by
 have hk8 : k512.rounds.length = 80 := rfl
 have hE0 := Env.nil w
 go_enter Tryz.func87, Tryz.ntmps87
 repeat ((fail_if_success refine sqx ?_); go_step)
 refine wl_step (sqA (ints .u64 (List.replicate 80 0)) hE0 ?_)
 intro g0 w1 hb1 hE1
 clear hE0
 simp only [qZ]
 repeat ((fail_if_success refine sqx ?_); go_step)
 refine wqv (v_built (k := .u64) (l := k512.rounds) rfl (fun w => by kernel_rfl)) ?_
 refine wl_step (sqS 0 80 hE1 ?_)
 intro w2 hE2
 clear hE1
 simp only [qpB, qpC] at hE2
 simp only [qZ]
 repeat ((fail_if_success refine sqx ?_); go_step)
 refine bodyPost_ret (results_cell_row rfl _ _ _ _ _ (0, 0) _ rfl (hE2.get (i := 0) rfl) Tryz.underlying117 rfl (szqA (n := 80))) rfl ⟨rfl, hE2.below⟩

set_option maxRecDepth 100000 in
set_option maxHeartbeats 16000000 in
theorem Sum512_any {w : World} {rows : List (List Nat)} {v : Value} (hv : RdSs .u8 rows v w) (dr : ∀ r ∈ rows, Digs 256 r) (hl : rows.flatten.length < 549755813888) (hn : rows.length < 9223372036854775808) :
  Gives 47 #[v] w (.agg (ints .u8 (sum512 rows.flatten))) := by
 obtain ⟨p, c, rfl, hc, -⟩ := id hv
 have Hv := Lib.hid hv
 have Hr := Lib.hid dr
 obtain ⟨i0, hi, hz, hs, hby⟩ := info_u8
 have Hi := Lib.hid hi
 have Hz := Lib.hid hz
 have Hs := Lib.hid hs
 have Hby := Lib.hid hby
 clear hv dr hi hz hs hby
 have hE0 := Env.nil w
 go_enter Tryz.func47, Tryz.ntmps47
 repeat ((fail_if_success refine sqx ?_); go_step)
 refine wl_step (sqA (ints .u8 (List.replicate 64 0)) hE0 ?_)
 intro g0 w1 hb1 hE1
 clear hE0
 simp only [qZ]
 repeat ((fail_if_success refine sqx ?_); go_step)
 refine mqC ?_
 repeat ((fail_if_success refine sqx ?_); go_step)
 refine mqA ?_
 refine wqv (v_len rfl rfl Tryz.underlying64 (by omega)) ?_
 refine wqv (v_moveC (.inl rfl)) ?_
 have hst : Env w ([] ++ [⟨g0, 30, ints .u8 (List.replicate 64 0)⟩]) w1 := hE1
 clear hE1
 go_wp2
 go_loopw [3, 13] (fun s i wr => ∃ (j : Nat) (bs : List Blk), j ≤ rows.length ∧ i = .int .i64 j ∧ Hid (Ow 5 (nats .u8 (rows.take j).flatten) s bs) ∧ Env w (bs ++ [⟨g0, 30, ints .u8 (List.replicate 64 0)⟩]) wr) (fun _ i _ => rows.length - (intOf i).toNat)
 case atStart => exact ⟨0, [], Nat.zero_le _, rfl, Lib.hid (by rw [List.take_zero]; exact Ow.nil _), hst⟩
 case round =>
  clear hst
  obtain ⟨j, bs, hj, rfl, hO, hE⟩ := hrel
  by_cases hjr : j < rows.length
  ·obtain ⟨b, off, x, rfl, hcell, hx⟩ := Hv.out.at hjr
   have hfl := flat_le rows (j + 1)
   have hft := flat_take hjr
   have hsz : (rows.take j).flatten.length + rows[j].length < 549755813888 := by
    rw [← List.length_append, hft]
    omega
   have h63 : (nats .u8 (rows.take j).flatten).length + rows[j].length ≤ maxLen := by rw [nats_len]; simp only [maxLen]; omega
   have hfit : ((nats .u8 (rows.take j).flatten).length + rows[j].length) * 1 ≤ 140737488355328 := by rw [nats_len]; omega
   have HF := Lib.hid hft
   have HC := Lib.hid hcell
   have HX := Lib.hid hx
   have hS0 := hO.out.sl hE
   have hE0 := hS0.env
   clear hcell hx hft hE
   repeat ((fail_if_success refine sqx ?_); go_step)
   refine wqv (v_lss rfl rfl rfl) ?_
   repeat ((fail_if_success refine sqy ?_); go_step)
   refine cqT ?_
   skip
   repeat ((fail_if_success refine sqx ?_); go_step)
   refine wqv (v_indexS rfl rfl rfl Tryz.underlying64 (by kernel_rfl) hjr) ?_
   refine wqv (v_cell rfl rfl Tryz.underlying24 rfl (fun w1 hb => HC.out w1 (hE0.below.trans (hb.mono hE0.below.size)))) ?_
   refine mqB ?_
   repeat ((fail_if_success refine sqx ?_); go_step)
   refine mqA ?_
   refine mqA ?_
   refine wl_step (st_append hS0 rfl rfl Tryz.underlying24 Hi.out Hz.out Hs.out rfl Hby.out rfl rfl (HX.out.below hE0.below) h63 hfit ?_)
   intro v1 w1 hS1
   have hE1 := hS1.env
   clear hE0
   clear hS0
   simp only [qZ]
   obtain ⟨bs2, ho2, hEE⟩ := hS1.ow
   rw [nats_append, HF.out] at ho2
   refine mqB ?_
   repeat ((fail_if_success refine sqx ?_); go_step)
   refine wqv (v_add (n := 1) rfl rfl rfl (w_i64 (by omega))) ?_
   refine mqA ?_
   go_wp2
   go_roundw
   case rel => exact ⟨j + 1, bs2, by omega, rfl, Lib.hid ho2, hEE⟩
   case measure => simp [intOf]; omega
  ·have hj' : j = rows.length := by omega
   subst hj'
   rw [List.take_length] at hO
   obtain ⟨p1, c1, rfl, hc1⟩ := hO.out.lenN
   have hll : rows.flatten.length < 9223372036854775808 := by omega
   have hpk := padK_lt (n := rows.flatten.length) (B := 128) (r := 16) (by decide)
   have hfl := fillL_len (n := rows.flatten.length) (B := 128) (r := 16) (by decide)
   have h40 : rows.flatten.length < 1099511627776 := by omega
   have h63 : (nats .u8 rows.flatten).length + (fillL rows.flatten.length 128 16).length ≤ maxLen := by rw [nats_len]; simp only [maxLen]; omega
   have hfit : ((nats .u8 rows.flatten).length + (fillL rows.flatten.length 128 16).length) * 1 ≤ 140737488355328 := by rw [nats_len]; omega
   have hpad : rows.flatten ++ fillL rows.flatten.length 128 16 = padL 128 16 rows.flatten := rfl
   have hPl : (padL 128 16 rows.flatten).length < 1099511627776 := by
    rw [← hpad, List.length_append]
    omega
   have hPm := padL_mod (B := 128) (r := 16) (by decide) (by decide) rows.flatten
   have hP0 : 0 < (padL 128 16 rows.flatten).length := by
    rw [← hpad, List.length_append]
    omega
   have dP : Digs 256 (padL 128 16 rows.flatten) := padL_Digs (flat_Digs Hr.out)
   have hsum : sum512 rows.flatten = outL 8 (chainS k512 128 k512.first (padL 128 16 rows.flatten) ((padL 128 16 rows.flatten).length / 128)) := rfl
   obtain ⟨PP, hPP⟩ : ∃ PP, padL 128 16 rows.flatten = PP := ⟨_, rfl⟩
   rw [hPP] at hpad hPl hPm hP0 dP hsum
   have HP := Lib.hid hpad
   have HDP := Lib.hid dP
   have H8 := Lib.hid (fun n => chainS_len (k := k512) (B := 128) k512_first PP n)
   have HD := Lib.hid (fun n => chainS_lt (k := k512) (B := 128) (h := k512.first) k512_firstD PP n)
   obtain ⟨ST, hST⟩ : ∃ ST : Nat → List Nat, (fun n => chainS k512 128 k512.first PP n) = ST := ⟨_, rfl⟩
   have hST' : ∀ n, chainS k512 128 k512.first PP n = ST n := fun n => congrFun hST n
   have HS1 : Hid (∀ n, ST (n + 1) = blockS k512 (ST n) ((PP.drop (n * 128)).take 128)) := Lib.hid (fun n => by
    rw [← hST', ← hST']
    rfl)
   have HS0 : Hid (k512.first = ST 0) := Lib.hid (by rw [← hST']; rfl)
   simp only [hST'] at H8 HD hsum
   have Hsum := Lib.hid hsum
   clear hpk hfl hpad dP hPP hST hST' hsum
   repeat ((fail_if_success refine sqx ?_); go_step)
   refine wqv (v_lss rfl rfl rfl) ?_
   repeat ((fail_if_success refine sqy ?_); go_step)
   refine cqF ?_
   skip
   repeat ((fail_if_success refine sqx ?_); go_step)
   refine mqA ?_
   refine mqA ?_
   refine wqv (v_len rfl rfl Tryz.underlying24 hll) ?_
   refine wl_step (st_calls rfl (run_call rfl Tryz.call85) (fill_any h40 (by decide) (by decide) (by decide) (by decide) _) ?_)
   rintro _ w1 ⟨v3, rfl, hF⟩
   obtain ⟨bs3, ho3, hE1⟩ := hE.lift hF
   refine ⟨_, rfl, ?_⟩
   clear hE
   simp only [qZ]
   refine wl_step (st_append (hO.out.sl (hE1.perm (List.perm_append_comm_assoc _ _ _))) rfl rfl Tryz.underlying24 Hi.out Hz.out Hs.out rfl Hby.out rfl rfl (ho3.sl hE1).rdS h63 hfit ?_)
   intro v2 w2 hS2
   have hE2 := hS2.env
   clear hE1
   simp only [qZ]
   obtain ⟨bs4, ho4, hEE⟩ := hS2.ow
   rw [nats_append, HP.out] at ho4
   clear hE2 hS2
   refine mqB ?_
   rcases ho4.rdB with ⟨-, h0, -⟩ | ⟨gl, cs, rfl, hrd⟩
   ·rw [h0] at hP0
    exact absurd hP0 (by decide)
   obtain ⟨p4, c4, hv4, hc4⟩ := ho4.lenN
   have hE4 : Env w (⟨gl, 5, cs⟩ :: ([] ++ [⟨g0, 30, ints .u8 (List.replicate 64 0)⟩])) w2 := hEE.sub (List.Sublist.cons_cons _ (List.sublist_append_right _ _))
   have Hrd := Lib.hid hrd
   have hk8 : k512.first.length = 8 := rfl
   have hk80 : k512.rounds.length = 80 := rfl
   subst hv4
   clear hrd hEE ho4 ho3
   repeat ((fail_if_success refine sqx ?_); go_step)
   refine wl_step (st_gives hE4 rfl (run_call rfl Tryz.call86) (first512_any _) ?_)
   intro w5 hb5 hE5
   clear hE4
   simp only [qZ]
   refine wl_step (st_gives hE5 rfl (run_call rfl Tryz.call87) (rounds512_any _) ?_)
   intro w6 hb6 hE6
   clear hE5
   simp only [qZ]
   refine wl_step (sqA (ints .u64 (List.replicate 8 0)) hE6 ?_)
   intro g1 w7 hb7 hE7
   clear hE6
   simp only [qZ]
   refine wl_step (sqA (ints .u64 (List.replicate 80 0)) hE7 ?_)
   intro g2 w8 hb8 hE8
   clear hE7
   simp only [qZ]
   refine wl_step (sqS 1 8 hE8 ?_)
   intro w9 hE9
   clear hE8
   simp only [qpB, qpC] at hE9
   simp only [qZ]
   refine wl_step (sqS 0 80 hE9 ?_)
   intro w10 hE10
   clear hE9
   simp only [qpB, qpC] at hE10
   simp only [qZ]
   rw [HS0.out] at hE10
   have hst : Env w (⟨g2, 117, ints .u64 k512.rounds⟩ :: ⟨g1, 96, ints .u64 (ST 0)⟩ :: ⟨gl, 5, cs⟩ :: [⟨g0, 30, ints .u8 (List.replicate 64 0)⟩]) w10 := hE10
   clear hE10
   go_wp2
   go_loopw [3] (fun s wr => ∃ n : Nat, n * 128 ≤ PP.length ∧ Hid (RdB .u8 gl cs (PP.drop (n * 128)) s) ∧ Env w (⟨g2, 117, ints .u64 k512.rounds⟩ :: ⟨g1, 96, ints .u64 (ST n)⟩ :: ⟨gl, 5, cs⟩ :: [⟨g0, 30, ints .u8 (List.replicate 64 0)⟩]) wr) (fun s _ => valLen s)
   case atStart => exact ⟨0, by omega, by rw [Nat.zero_mul, List.drop_zero]; exact Hrd, hst⟩
   case round =>
    clear hst Hrd
    obtain ⟨n, hnP, hV, hE0⟩ := hrel
    obtain ⟨p5, c5, hv5, hc5, -⟩ := id hV.out
    subst hv5
    obtain ⟨R, hR⟩ : ∃ R, PP.drop (n * 128) = R := ⟨_, rfl⟩
    have hRn : R.length = PP.length - n * 128 := by rw [← hR, List.length_drop]
    have hRl : R.length < 9223372036854775808 := by omega
    have dR : Digs 256 R := hR ▸ (HDP.out.drop _)
    have hRR : R.drop 128 = PP.drop ((n + 1) * 128) := by rw [← hR, List.drop_drop, Nat.add_mul, Nat.one_mul]
    have hs1 := HS1.out n
    rw [hR] at hs1 hV hc5 ⊢
    have h8 := H8.out n
    have HRR := Lib.hid hRR
    have HS2 := Lib.hid hs1
    have HDR := Lib.hid dR
    clear hs1 dR hRR
    by_cases h0 : 0 < R.length
    ·have h128 : 128 ≤ R.length := by omega
     have d1 := Lib.hid (decide_eq_true h0)
     have hV2 := Lib.hid (RdB.slcd hV.out h128)
     have hb8 := blockS_len k512 (ST n) (R.take 128)
     repeat ((fail_if_success refine sqx ?_); go_step)
     refine mqA ?_
     refine wqv (v_len rfl rfl Tryz.underlying24 hRl) ?_
     refine wqv (v_gtr (n := 0) rfl rfl rfl) ?_
     rw [d1.out]
     repeat ((fail_if_success refine sqy ?_); go_step)
     refine cqT ?_
     skip
     repeat ((fail_if_success refine sqx ?_); go_step)
     refine wqv (vqL 1 8 hE0 Tryz.underlying96) ?_
     refine mqA ?_
     refine wl_step (st_gives hE0 rfl (run_call rfl Tryz.call88) (mix512_any h8 (HD.out n) (RdB.rd hV.out (hE0.get (i := 2) rfl)) HDR.out h128 (hE0.get (i := 0) rfl)) ?_)
     intro w1 hb1 hE1
     clear hE0
     simp only [qZ]
     refine wl_step (sqS 1 8 hE1 ?_)
     intro w2 hE2
     clear hE1
     simp only [qpB, qpC] at hE2
     simp only [qZ]
     repeat ((fail_if_success refine sqx ?_); go_step)
     refine mqA ?_
     refine wqv (v_sliceL rfl rfl rfl Tryz.underlying24 (by kernel_rfl) h128) ?_
     refine mqB ?_
     rw [← HS2.out] at hE2
     go_wp2
     go_roundw
     case rel => exact ⟨n + 1, by omega, HRR.out ▸ hV2, hE2⟩
     case measure =>
      simp only [valLen, slcd]
      omega
    ·have d1 := Lib.hid (decide_eq_false h0)
     have hnn : PP.length / 128 = n := by omega
     rw [hnn] at Hsum
     obtain ⟨V, hVV⟩ : ∃ V, ST n = V := ⟨_, rfl⟩
     rw [hVV] at hE0 h8 Hsum
     have HV := HD.out n
     rw [hVV] at HV
     have HV := Lib.hid HV
     clear hnn hVV
     repeat ((fail_if_success refine sqx ?_); go_step)
     refine mqA ?_
     refine wqv (v_len rfl rfl Tryz.underlying24 hRl) ?_
     refine wqv (v_gtr (n := 0) rfl rfl rfl) ?_
     rw [d1.out]
     repeat ((fail_if_success refine sqy ?_); go_step)
     refine cqF ?_
     skip
     repeat ((fail_if_success refine sqx ?_); go_step)
     refine wl_step (sqA (ints .u8 (List.replicate 64 0)) hE0 ?_)
     intro g3 w1 hb1 hE1
     clear hE0
     simp only [qZ]
     repeat ((fail_if_success refine sqx ?_); go_step)
     refine wqv (vqL 2 8 hE1 Tryz.underlying96) ?_
     refine wqv (v_moveC (.inl rfl)) ?_
     have hz : ints .u8 (List.replicate 64 0) = ints .u8 (outAt 8 V 0) := by rw [outAt_zero, h8]
     rw [hz] at hE1
     have hst : Env w [⟨g3, 30, ints .u8 (outAt 8 V 0)⟩, ⟨g0, 30, ints .u8 (outAt 8 V 0)⟩] w1 := (hE1).sub (List.Sublist.cons_cons _ (List.Sublist.cons _ (List.Sublist.cons _ (List.Sublist.cons _ (List.Sublist.refl _)))))
     clear hE1 hz
     go_wp2
     go_loopw [37] (fun i wr => ∃ n : Nat, n ≤ 8 ∧ i = .int .i64 n ∧ Env w [⟨g3, 30, ints .u8 (outAt 8 V n)⟩, ⟨g0, 30, ints .u8 (outAt 8 V 0)⟩] wr) (fun i _ => 8 - (intOf i).toNat)
     case atStart => exact ⟨0, Nat.zero_le _, rfl, hst⟩
     case round =>
      clear hst
      obtain ⟨n, hn, rfl, hE0⟩ := hrel
      by_cases hn8 : n < 8
      ·have hx := HV.out n
       have hput := outAt_put (k := 8) (L := V) (n := n) (by rw [h8]; exact hn8)
       have hX : 8 * n + 8 ≤ (outAt 8 V n).length := by rw [outAt_len (by rw [h8]; exact hn), h8]; omega
       have hx64 : V.getD n 0 < 18446744073709551616 := hx
       have e4 : 8 * n + 8 - 8 * n = 8 := by omega
       have HPu := Lib.hid hput
       have E4 := Lib.hid e4
       clear hput e4
       repeat ((fail_if_success refine sqx ?_); go_step)
       refine wqv (v_lss (n := 8) rfl rfl rfl) ?_
       repeat ((fail_if_success refine sqy ?_); go_step)
       refine cqT ?_
       skip
       repeat ((fail_if_success refine sqx ?_); go_step)
       refine mqA ?_
       refine wqv (v_idx rfl rfl rfl Tryz.underlying96 (by kernel_rfl : _ = some Tryz.t50) rfl Tryz.underlying50 (by first | assumption | simp) (by first | assumption | omega)) ?_
       refine mqB ?_
       refine mqB ?_
       repeat ((fail_if_success refine sqx ?_); go_step)
       refine mqA ?_
       refine wqv (v_mul (m := 8) rfl rfl rfl (w_i64 (by omega))) ?_
       refine mqA ?_
       refine wqv (v_mul (m := 8) rfl rfl rfl (w_i64 (by omega))) ?_
       refine wqv (v_add (n := 8) rfl rfl rfl (w_i64 (by omega))) ?_
       refine wqv (v_sliceArr rfl rfl rfl rfl Tryz.underlying30 (by kernel_rfl) (by omega) (by omega) (by omega)) ?_
       rw [E4.out]
       refine mqA ?_
       refine wl_step (st_calls rfl (run_call rfl Tryz.call89) (put_any hE0 (i := 0) rfl hX (by decide) hx64) ?_)
       rintro _ w1 ⟨rfl, hE1⟩
       refine ⟨_, rfl, ?_⟩
       clear hE0
       simp only [qZ]
       rw [HPu.out] at hE1
       simp only [List.set_cons_zero] at hE1
       repeat ((fail_if_success refine sqx ?_); go_step)
       refine wqv (v_add (n := 1) rfl rfl rfl (w_i64 (by omega))) ?_
       refine mqA ?_
       go_wp2
       go_roundw
       case rel => exact ⟨n + 1, by omega, rfl, hE1⟩
       case measure => simp [intOf]; omega
      ·have hn' : n = 8 := by omega
       subst hn'
       have hfu : outAt 8 V 8 = sum512 rows.flatten := by
        have := outAt_full 8 V
        rw [h8] at this
        rw [this, Hsum.out]
       rw [hfu] at hE0
       have h32 := sum512_len rows.flatten
       have h033 : (outAt 8 V 0).length = 64 := by rw [outAt_len (Nat.zero_le _), h8]
       repeat ((fail_if_success refine sqx ?_); go_step)
       refine wqv (v_lss (n := 8) rfl rfl rfl) ?_
       repeat ((fail_if_success refine sqy ?_); go_step)
       refine cqF ?_
       skip
       repeat ((fail_if_success refine sqx ?_); go_step)
       refine wqv (vqL 0 64 hE0 Tryz.underlying30) ?_
       refine wl_step (sqS 1 64 hE0 ?_)
       intro w1 hE1
       clear hE0
       simp only [qpB, qpC] at hE1
       simp only [qZ]
       repeat ((fail_if_success refine sqx ?_); go_step)
       refine bodyPost_ret (results_cell_row rfl _ _ _ _ _ (0, 0) _ rfl (hE1.get (i := 1) rfl) Tryz.underlying30 rfl (szqA (n := 64))) rfl ⟨rfl, hE1.below⟩
end Go.Proofs.YthddoelflmoedaaGreat
