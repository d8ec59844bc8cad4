/-
  A slice built of numbers. No condition on the program.
  Layer 3: what fills a message up.
  Layer 3: a block mixed into a state (SHA-256).
  Layer 3, plain: a message taken block by block; whole blocks and what is left; the sum. No condition. No program in sight.
  Layer 7, plain: a seed's number and salt, the key, a signature; and that a signature is right. No condition. No program in sight.
  Own slices as lists of blocks, so that several may stand beside each other; blocks of mixed cells; a slice that reads out of a known block. No condition on the program.
  A struct built of parts of whatever sizes; blocks that stand first in the list; appends to nil, that write nothing that was there. No condition on the program.
  How arguments are read that are slices of bytes, with room told, and slices of such slices. No program in sight.
-/
import Derived.Test.YthddoelflmoedaaGreatJ16
import Derived.Test.YthddoelflmoedaaGreatJ18
import Derived.Test.YthddoelflmoedaaGreatJ21
import Derived.Test.YthddoelflmoedaaGreatJ22
import Derived.Test.YthddoelflmoedaaGreatJ23
import Derived.Test.YthddoelflmoedaaGreatJ24
import Derived.Test.YthddoelflmoedaaGreatJ25
set_option linter.unusedVariables false
set_option linter.unusedSimpArgs false
namespace Go.Proofs.YthddoelflmoedaaGreat
open Go.RowKit
set_option maxRecDepth 100000

theorem fill_nums (k : IntKind) : ∀ (ns : List Nat) (j : Nat) (cells : Array Value), cells.size = j + ns.length →
  ∃ r, Instr.fill (fun i => some (i * 1, 1)) cells ((ns.zipIdx j).map fun x => (x.2, Value.int k (x.1 : Int))) = some r ∧ r.toList = cells.toList.take j ++ nats k ns
 | [], j, cells, h => by
  refine ⟨cells, rfl, ?_⟩
  rw [show nats k [] = [] from rfl, List.append_nil, List.take_of_length_le (by simp at h ⊢; omega)]
 | n :: ns, j, cells, h => by
  rw [List.length_cons] at h
  obtain ⟨r, h1, h2⟩ := fill_nums k ns (j + 1) (cells.setIfInBounds (j * 1 + 0) (Value.int k (n : Int))) (by rw [Array.size_setIfInBounds]; omega)
  refine ⟨r, ?_, ?_⟩
  ·rw [List.zipIdx_cons, List.map_cons, Instr.fill]
   have hc : ¬ (((Value.int k (n : Int)).cells.size ≠ 1 || decide (j * 1 + (Value.int k (n : Int)).cells.size > cells.size)) = true) := by
    simp [Value.cells]; omega
   simp only []
   rw [if_neg hc]
   exact h1
  ·rw [h2, Array.toList_setIfInBounds, Nat.mul_one]
   simp only [Nat.add_zero]
   rw [List.take_succ_eq_append_getElem (by simp; omega), List.take_set, List.getElem_set_self, List.set_eq_of_length_le (by simp; omega)]
   rw [show nats k (n :: ns) = Value.int k (n : Int) :: nats k ns from by unfold nats ints; simp]
   simp
section
variable {P : Program} {ops : Array Oper} {Q : Exit → Act → World → Prop} {a : Act} {w w0 : World} {l : List Blk} {o : Oper} {K : Act → World → Prop}
theorem st_buildNums {t e : TypeId} {n : Nat} {parts : List (Nat × Operand)} {z : Value} {k : IntKind} (ns : List Nat) (hE : Env w0 l w) (hw : Region.wanted o (yielded ops a.tmps) = true) (ho : o.op = .buildSlice t n parts.toArray)
  (hp : parts.map (fun p => (p.1, a.eval p.2)) = ns.zipIdx.map fun x => (x.2, Value.int k (x.1 : Int))) (hn : ns.length = n) (h0 : 0 < n) (h24 : n ≤ 2 ^ 24) (ht : P.underlying t = some (.slice e)) (hs : (P.info? e).map (·.size) = some 1)
  (hz : ∀ w, (zeroValue e).run P w = .ok z w)
  (kk : ∀ g w1, Below w.heap.size w w1 → Env w0 (⟨g, e, ints k ns⟩ :: l) w1 → K (a.put o.dst (.slice (some ⟨g, 0, none⟩) n n)) w1) : Step P ops Q o K a w := by
 obtain ⟨r, hf, hl⟩ := fill_nums k ns 0 ((Array.range (n * 1)).map fun i => z.cells[i % z.cells.size]!) (by simp [hn])
 have hre : r = ints k ns := by
  apply Array.ext'
  rw [hl]
  simp
 subst hre
 refine st_run (w1 := w.alloc (.cells (ints k ns) e)) (v := .slice (some ⟨w.heap.size, 0, none⟩) n n) hw ?_ (kk _ _ ((Below.refl _ _).alloc (Nat.le_refl _) _) (hE.alloc e _))
 have h1 : ¬ n * 1 > 2 ^ 24 := by omega
 have h2 : ¬ n * 1 = 0 := by omega
 unfold execOp
 simp only [ho, List.map_toArray, hp, Instr.buildSlice, Sem.run_bind, run_underlying ht, size_run hs, Result.andThen_ok, if_neg h1, if_neg h2, hz, Sem.run_pure]
 rw [hf]
 simp [newRow, newObj, Sem.run, Sem.run_bind, Sem.run_pure]
theorem Env.perm {l' : List Blk} (h : Env w0 l w) (hp : l.Perm l') : Env w0 l' w :=
 ⟨h.below, fun b hb => h.holds b (hp.mem_iff.2 hb), fun b hb => h.new b (hp.mem_iff.2 hb), (hp.pairwise_iff (fun h => Ne.symm h)).1 h.dist⟩
theorem Sl.of_block {g : Nat} {e : TypeId} {cs : Array Value} (h : Env w0 (⟨g, e, cs⟩ :: l) w) (hc : cs.size ≤ maxLen) : Sl w0 l e cs.toList (.slice (some ⟨g, 0, none⟩) cs.size cs.size) w :=
 .inr ⟨g, cs.size, cs, by rw [Array.length_toList], by rw [Array.length_toList]; exact Nat.le_refl _, hc, rfl, List.take_of_length_le (by rw [Array.length_toList]; exact Nat.le_refl _), h⟩
end
end Go.Proofs.YthddoelflmoedaaGreat
namespace Go.Proofs.YthddoelflmoedaaGreat
open Go.RowKit
set_option maxRecDepth 100000

theorem info_u8 : ∃ i, Tryz.prog.info? 5 = some i ∧ i.zero = some (.int .u8 0) ∧ i.size = 1 ∧ i.bytes = 1 := info_parts (P := Tryz.prog) (by kernel_rfl)
def padK (n B r : Nat) : Nat := (B - (n + 1 + r) % B) % B
theorem padK_zero {n B r : Nat} (hB : 0 < B) : (n + (1 + padK n B r) + r) % B = 0 := by
 unfold padK
 have h1 := Nat.mod_lt (n + 1 + r) hB
 by_cases h : (n + 1 + r) % B = 0
 ·rw [h, Nat.sub_zero, Nat.mod_self, Nat.add_zero]
  exact h
 ·rw [Nat.mod_eq_of_lt (show B - (n + 1 + r) % B < B by omega)]
  have h2 := Nat.div_add_mod (n + 1 + r) B
  have e : n + (1 + (B - (n + 1 + r) % B)) + r = B * ((n + 1 + r) / B) + B := by omega
  rw [e, Nat.mul_add_mod, Nat.mod_self]
theorem padK_min {n B r j : Nat} (hB : 0 < B) (hj : j < padK n B r) : (n + (1 + j) + r) % B ≠ 0 := by
 unfold padK at hj
 have h1 := Nat.mod_lt (n + 1 + r) hB
 by_cases h : (n + 1 + r) % B = 0
 ·rw [h, Nat.sub_zero, Nat.mod_self] at hj
  omega
 ·rw [Nat.mod_eq_of_lt (show B - (n + 1 + r) % B < B by omega)] at hj
  have h2 := Nat.div_add_mod (n + 1 + r) B
  have e : n + (1 + j) + r = B * ((n + 1 + r) / B) + ((n + 1 + r) % B + j) := by omega
  rw [e, Nat.mul_add_mod, Nat.mod_eq_of_lt (by omega)]
  omega
theorem padK_lt {n B r : Nat} (hB : 0 < B) : padK n B r < B := Nat.mod_lt _ hB
def fillL (n B r : Nat) : List Nat := 128 :: (List.replicate (padK n B r + (r - 8)) 0 ++ beD 8 (n * 8 % 18446744073709551616))
def valLen : Value → Nat
 | .slice _ n _ => n
 | _ => 0

theorem nats_take (k : IntKind) (l : List Nat) (n : Nat) : (nats k l).take n = nats k (l.take n) := by
 unfold nats ints
 simp [List.map_take]
set_option maxHeartbeats 4000000 in
theorem fill_any {n B r : Nat} (hn : n < 1099511627776) (hB : 0 < B) (hB2 : B ≤ 256) (hr : 8 ≤ r) (hr2 : r ≤ 16) (w : World) :
  Calls Tryz.prog 85 #[.int .i64 (n : Int), .int .i64 (B : Int), .int .i64 (r : Int)] w fun e w' => ∃ v, e = .returned v ∧ Sl w [] 5 (nats .u8 (fillL n B r)) v w' := by
 obtain ⟨i0, hi, hz, hs, hby⟩ := info_u8
 have Hi := Lib.hid hi
 have Hz := Lib.hid hz
 have Hs := Lib.hid hs
 have Hby := Lib.hid hby
 have hpl := padK_lt (n := n) (r := r) hB
 have Hp0 := Lib.hid (padK_zero (n := n) (r := r) hB)
 have Hpm := Lib.hid (fun j (hj : j < padK n B r) => padK_min (n := n) (r := r) hB hj)
 obtain ⟨pk, hpk⟩ : ∃ pk, padK n B r = pk := ⟨_, rfl⟩
 have HF : Hid (fillL n B r = 128 :: (List.replicate (pk + (r - 8)) 0 ++ beD 8 (n * 8 % 18446744073709551616))) := Lib.hid (by unfold fillL; rw [hpk])
 rw [hpk] at hpl Hp0 Hpm
 clear hi hz hs hby hpk
 have hE0 := Env.nil w
 go_enter Tryz.func85, Tryz.ntmps85
 repeat ((fail_if_success refine sqx ?_); go_step)
 refine mqC ?_
 repeat ((fail_if_success refine sqx ?_); go_step)
 refine wl_step (st_buildNums (k := .u8) [128] hE0 rfl rfl (by first | (kernel_rfl; done) | (simp only [List.map_cons, List.map_nil, List.zipIdx_cons, List.zipIdx_nil]; rfl)) rfl (by decide) (by decide) Tryz.underlying24 (by kernel_rfl) Tryz.zeroValue5 ?_)
 intro g0 w1 hb1 hE1
 clear hE0
 simp only [qZ]
 refine mqB ?_
 have hS : Sl w [] 5 (nats .u8 [128]) (.slice (some ⟨g0, 0, none⟩) 1 1) w1 := Sl.of_block hE1 (by decide)
 clear hE1
 go_wp2
 go_loopw [7] (fun v wr => ∃ j : Nat, j ≤ pk ∧ Sl w [] 5 (nats .u8 (128 :: List.replicate j 0)) v wr) (fun v _ => 1000 - valLen v)
 case atStart => exact ⟨0, Nat.zero_le _, hS⟩
 case round =>
  clear hS
  obtain ⟨j, hj, hS0⟩ := hrel
  have hE0 := hS0.env
  obtain ⟨p, c, rfl⟩ := hS0.len
  have hl : (nats .u8 (128 :: List.replicate j 0)).length = 1 + j := by rw [nats_len, List.length_cons, List.length_replicate]; omega
  have h63 : (nats .u8 (128 :: List.replicate j 0)).length + ([0] : List Nat).length ≤ maxLen := by rw [hl]; simp only [List.length_singleton, maxLen]; omega
  have hfit : ((nats .u8 (128 :: List.replicate j 0)).length + ([0] : List Nat).length) * 1 ≤ 140737488355328 := by rw [hl]; simp only [List.length_singleton]; omega
  have hzr : (nats .u8 (128 :: List.replicate j 0)).length + r ≤ maxLen := by rw [hl]; simp only [maxLen]; omega
  have hzb : ((nats .u8 (128 :: List.replicate j 0)).length + r) * 1 ≤ 140737488355328 := by rw [hl]; omega
  have hlen63 : (nats .u8 (128 :: List.replicate j 0)).length < 9223372036854775808 := by omega
  have hlb : (nats .u8 (128 :: List.replicate j 0)).length ≤ 300 := by omega
  by_cases hjp : j < pk
  ·have hne := Hpm.out j hjp
   rw [← hl] at hne
   have Hne := Lib.hid (decide_eq_true hne)
   clear hne
   have e : nats .u8 (128 :: List.replicate j 0) ++ nats .u8 [0] = nats .u8 (128 :: List.replicate (j + 1) 0) := by
    rw [nats_append]
    congr 1
    simp [List.replicate_succ']
   have He := Lib.hid e
   clear e hl hzr hzb
   repeat ((fail_if_success refine sqx ?_); go_step)
   refine mqA ?_
   refine mqA ?_
   refine wqv (v_len rfl rfl Tryz.underlying24 hlen63) ?_
   refine wqv (v_add rfl rfl rfl (w_i64 (by omega))) ?_
   refine mqA ?_
   refine wqv (v_add rfl rfl rfl (w_i64 (by omega))) ?_
   refine mqA ?_
   refine wqv (v_rem rfl rfl rfl (by omega)) ?_
   refine wqv (v_neq (n := 0) rfl rfl rfl) ?_
   rw [Hne.out]
   repeat ((fail_if_success refine sqy ?_); go_step)
   refine cqT ?_
   skip
   repeat ((fail_if_success refine sqx ?_); go_step)
   refine mqA ?_
   refine wl_step (st_buildNums (k := .u8) [0] hE0 rfl rfl (by first | (kernel_rfl; done) | (simp only [List.map_cons, List.map_nil, List.zipIdx_cons, List.zipIdx_nil]; rfl)) rfl (by decide) (by decide) Tryz.underlying24 (by kernel_rfl) Tryz.zeroValue5 ?_)
   intro g1 w1 hb1 hE1
   have hS1 := hS0.call hb1
   clear hS0
   clear hE0
   simp only [qZ]
   refine wl_step (st_append hS1 rfl rfl Tryz.underlying24 Hi.out Hz.out Hs.out rfl Hby.out rfl rfl (RdS.of_block (hE1.get (i := 0) rfl)) h63 hfit ?_)
   intro v2 w2 hS2
   have hE2 := hS2.env
   clear hE1
   clear hS1
   simp only [qZ]
   refine mqB ?_
   rw [He.out] at hS2
   obtain ⟨p1, c1, hv1⟩ := (hS2).len
   subst hv1
   go_wp2
   go_roundw
   case rel => exact ⟨j + 1, by omega, hS2⟩
   case measure => simp [valLen, nats, ints_size]; omega
  ·have hjp' : j = pk := by omega
   subst hjp'
   have hne := Hp0.out
   rw [← hl] at hne
   have Hne := Lib.hid (decide_eq_false (show ¬ (n + (nats .u8 (128 :: List.replicate j 0)).length + r) % B ≠ 0 from fun h => h hne))
   clear hne h63 hfit
   have hr0 : 0 < r := by omega
   repeat ((fail_if_success refine sqx ?_); go_step)
   refine mqA ?_
   refine mqA ?_
   refine wqv (v_len rfl rfl Tryz.underlying24 hlen63) ?_
   refine wqv (v_add rfl rfl rfl (w_i64 (by omega))) ?_
   refine mqA ?_
   refine wqv (v_add rfl rfl rfl (w_i64 (by omega))) ?_
   refine mqA ?_
   refine wqv (v_rem rfl rfl rfl (by omega)) ?_
   refine wqv (v_neq (n := 0) rfl rfl rfl) ?_
   rw [Hne.out]
   repeat ((fail_if_success refine sqy ?_); go_step)
   refine cqF ?_
   skip
   repeat ((fail_if_success refine sqx ?_); go_step)
   refine mqA ?_
   refine mqA ?_
   refine wl_step (st_appendZ hS0 rfl rfl Tryz.underlying24 Tryz.underlying3 Hi.out Hz.out Hs.out rfl rfl Hby.out rfl rfl hr0 hzr hzb ?_)
   intro v1 w1 hS1
   have hE1 := hS1.env
   clear hE0
   clear hS0
   simp only [qZ]
   refine mqB ?_
   have e : nats .u8 (128 :: List.replicate j 0) ++ List.replicate r (Value.int .u8 0) = nats .u8 (128 :: List.replicate (j + r) 0) := by
    rw [show List.replicate r (Value.int .u8 0) = nats .u8 (List.replicate r 0) by unfold nats ints; simp, nats_append]
    congr 1
    simp [List.replicate_append_replicate]
   rw [e] at hS1
   clear e
   rcases hS1 with ⟨-, h0, -⟩ | ⟨g, cap, cs, hv1, h2, h3, h4, h5, hE2⟩
   ·have := congrArg List.length h0
    rw [nats_len] at this
    simp at this
   ·subst hv1
    clear hE1
    have hE1 := hE2
    clear hE2
    have hL : (nats .u8 (128 :: List.replicate (j + r) 0)).length = 1 + j + r := by rw [nats_len, List.length_cons, List.length_replicate]; omega
    obtain ⟨LEN, hLE⟩ : ∃ L, (nats .u8 (128 :: List.replicate (j + r) 0)).length = L := ⟨_, rfl⟩
    rw [hLE] at h2 h5 hL ⊢
    obtain ⟨cl⟩ := cs
    have hcl : cl.length = cap := h4
    have htk : cl.take LEN = nats .u8 (128 :: List.replicate (j + r) 0) := h5
    have hlenL : LEN < 9223372036854775808 := by omega
    have h8L : 8 ≤ LEN := by omega
    have hle : LEN - 8 ≤ LEN := by omega
    have hsl : slcd (some ⟨g, 0, none⟩) (LEN - 8) LEN cap = .slice (some ⟨g, LEN - 8, none⟩) 8 (cap - (LEN - 8)) := by
     unfold slcd
     rw [if_neg (by omega), show LEN - (LEN - 8) = 8 by omega]
     simp [Addr.add]
     omega
    have Hsl := Lib.hid hsl
    have hX8 : LEN - 8 + 8 ≤ cl.length := by omega
    have hx8 : n * 8 < 18446744073709551616 := by omega
    have hmd : n * 8 % 18446744073709551616 = n * 8 := Nat.mod_eq_of_lt hx8
    have hres : (putV cl (LEN - 8) 8 (n * 8) 0).take LEN = nats .u8 (fillL n B r) := by
     rw [HF.out, hmd]
     unfold putV
     rw [Nat.add_zero, List.drop_zero, show LEN - 8 + 8 = LEN by omega]
     have e1 : (cl.take (LEN - 8)).length = LEN - 8 := by rw [List.length_take]; omega
     have e2 : (cl.take (LEN - 8) ++ nats .u8 (beD 8 (n * 8))).length = LEN := by rw [List.length_append, e1, nats_len, beD_len]; omega
     rw [List.take_left' e2]
     have e3 : cl.take (LEN - 8) = nats .u8 (128 :: List.replicate (j + (r - 8)) 0) := by
      have : cl.take (LEN - 8) = (cl.take LEN).take (LEN - 8) := by rw [List.take_take, Nat.min_eq_left (by omega)]
      rw [this, htk]
      have e4 : LEN - 8 = (j + (r - 8)) + 1 := by omega
      have e5 : (128 :: List.replicate (j + r) 0).take (LEN - 8) = 128 :: List.replicate (j + (r - 8)) 0 := by
       rw [e4, List.take_succ_cons, List.take_replicate, Nat.min_eq_left (by omega)]
      rw [nats_take, e5]
     rw [e3, nats_append]
     rfl
    have hfl : (nats .u8 (fillL n B r)).length = LEN := by rw [← hres, List.length_take, putV_len _ hX8 (by omega)]; omega
    have Hres := Lib.hid hres
    have Hfl := Lib.hid hfl
    clear hsl hres hfl hmd h4 h5 htk hLE hl
    repeat ((fail_if_success refine sqx ?_); go_step)
    refine mqA ?_
    refine mqA ?_
    refine wqv (v_len rfl rfl Tryz.underlying24 hlenL) ?_
    refine wqv (v_sub (m := LEN) (n := 8) (r := ((LEN - 8 : Nat) : Int)) rfl rfl rfl (w_i64s h8L hlenL)) ?_
    refine wqv (v_sliceL rfl rfl rfl Tryz.underlying24 (by kernel_rfl) hle) ?_
    rw [Hsl.out]
    refine mqA ?_
    refine wqv (v_convInt rfl rfl Tryz.underlying3 Tryz.underlying50 (by first | exact w_u64 (by omega) | exact w_u64m _)) ?_
    refine wqv (v_mul (n := 8) rfl rfl rfl (by first | exact w_u64 (by omega) | exact w_u64m _)) ?_
    refine wl_step (st_calls rfl (run_call rfl Tryz.call89) (put_anyV hE1 (i := 0) rfl hX8 (by decide) hx8) ?_)
    rintro _ w2 ⟨rfl, hE2⟩
    refine ⟨_, rfl, ?_⟩
    clear hE1
    simp only [qZ]
    repeat ((fail_if_success refine sqx ?_); go_step)
    refine mqA ?_
    refine mqB ?_
    repeat ((fail_if_success refine sqy ?_); go_step)
    go_returns
    simp only [List.set_cons_zero] at hE2
    exact ⟨_, rfl,   .inr ⟨g, cap, _, by rw [Hfl.out] <;> rfl, by rw [Hfl.out]; exact h2, h3, by rw [List.size_toArray, putV_len _ hX8 (by omega), hcl], by rw [Hfl.out]; exact Hres.out, hE2⟩⟩
end Go.Proofs.YthddoelflmoedaaGreat
namespace Go.Proofs.YthddoelflmoedaaGreat
open Go.RowKit
set_option maxRecDepth 100000

theorem sched_getD {k : Kd} {m : List Nat} {n j : Nat} (h : j < n) (r : List Nat) : (sched k m n ++ r).getD j 0 = (sched k m n).getD j 0 := by
 rw [List.getD_eq_getElem?_getD, List.getD_eq_getElem?_getD, List.getElem?_append_left (by rw [sched_len]; exact h)]
def schedAt (k : Kd) (m : List Nat) (N n : Nat) : List Nat := sched k m n ++ List.replicate (N - n) 0
theorem schedAt_len (k : Kd) (m : List Nat) {N n : Nat} (h : n ≤ N) : (schedAt k m N n).length = N := by
 unfold schedAt
 rw [List.length_append, sched_len, List.length_replicate]
 omega
theorem schedAt_set {k : Kd} {m : List Nat} {N n : Nat} (h : n < N) : (schedAt k m N n).set n (nextW k m (sched k m n)) = schedAt k m N (n + 1) := by
 unfold schedAt
 rw [List.set_append_right _ _ (by rw [sched_len]; exact Nat.le_refl _), sched_len, Nat.sub_self, show N - n = (N - (n + 1)) + 1 by omega, List.replicate_succ, List.set_cons_zero, sched, List.append_assoc]
 rfl
theorem schedAt_get {k : Kd} {m : List Nat} {N n j : Nat} (h : j < n) : (schedAt k m N n).getD j 0 = (sched k m n).getD j 0 := sched_getD h _
theorem schedAt_full (k : Kd) (m : List Nat) (N : Nat) : schedAt k m N N = sched k m N := by
 unfold schedAt
 simp
theorem sched_stable (k : Kd) (m : List Nat) {j n : Nat} (h : j < n) : (sched k m n).getD j 0 = nextW k m (sched k m j) := by
 induction n with
 | zero => omega
 | succ n ih =>
  by_cases hj : j < n
  ·rw [sched, sched_getD hj, ih hj]
  ·obtain rfl : j = n := by omega
   rw [sched, List.getD_eq_getElem?_getD, List.getElem?_append_right (by rw [sched_len]; exact Nat.le_refl _), sched_len, Nat.sub_self]
   rfl
theorem wordAt_lt {w : Nat} {m : List Nat} (hm : Digs 256 m) (i : Nat) : wordAt w m i < 256 ^ (w / 8) :=
 Nat.lt_of_lt_of_le (beN_lt ((hm.drop _).take _)) (Nat.pow_le_pow_right (by decide) (List.length_take_le _ _))
theorem nextW_lt {k : Kd} {m : List Nat} (hm : Digs 256 m) (hw : 256 ^ (k.w / 8) = 2 ^ k.w) (l : List Nat) : nextW k m l < 2 ^ k.w := by
 unfold nextW
 split
 ·rw [← hw]
  exact wordAt_lt hm _
 ·exact Nat.mod_lt _ (Nat.pow_pos (by decide))
theorem sched_lt {k : Kd} {m : List Nat} (hm : Digs 256 m) (hw : 256 ^ (k.w / 8) = 2 ^ k.w) (n j : Nat) : (sched k m n).getD j 0 < 2 ^ k.w := by
 by_cases h : j < n
 ·rw [sched_stable k m h]
  exact nextW_lt hm hw _
 ·rw [List.getD_eq_getElem?_getD, List.getElem?_eq_none (by rw [sched_len]; omega)]
  exact Nat.pow_pos (by decide)
theorem roundsS_len {k : Kd} {h : List Nat} (hh : h.length = 8) (m : List Nat) : ∀ n, (roundsS k h m n).length = 8
 | 0 => hh
 | n + 1 => rfl
theorem roundS_lt {k : Kd} {v : List Nat} (hv : ∀ j, v.getD j 0 < 2 ^ k.w) (c x : Nat) (j : Nat) : (roundS k v c x).getD j 0 < 2 ^ k.w := by
 have h0 : 0 < 2 ^ k.w := Nat.pow_pos (by decide)
 unfold roundS
 match j with
 | 0 => exact Nat.mod_lt _ h0
 | 1 => exact hv 0
 | 2 => exact hv 1
 | 3 => exact hv 2
 | 4 => exact Nat.mod_lt _ h0
 | 5 => exact hv 4
 | 6 => exact hv 5
 | 7 => exact hv 6
 | j + 8 => exact h0
theorem roundsS_lt {k : Kd} {h : List Nat} (hv : ∀ j, h.getD j 0 < 2 ^ k.w) (m : List Nat) : ∀ n j, (roundsS k h m n).getD j 0 < 2 ^ k.w
 | 0 => hv
 | n + 1 => roundS_lt (roundsS_lt hv m n) _ _
theorem blockS_lt (k : Kd) (h m : List Nat) (j : Nat) : (blockS k h m).getD j 0 < 2 ^ k.w := by
 unfold blockS
 rw [List.getD_eq_getElem?_getD, List.getElem?_map]
 by_cases hj : j < 8
 ·rw [List.getElem?_range hj]
  exact Nat.mod_lt _ (Nat.pow_pos (by decide))
 ·rw [List.getElem?_eq_none (by simp; omega)]
  exact Nat.pow_pos (by decide)

def k512 : Kd := ⟨64, [7640891576956012808, 13503953896175478587, 4354685564936845355, 11912009170470909681, 5840696475078001361, 11170449401992604703, 2270897969802886507, 6620516959819538809], [4794697086780616226, 8158064640168781261, 13096744586834688815, 16840607885511220156, 4131703408338449720, 6480981068601479193, 10538285296894168987, 12329834152419229976, 15566598209576043074, 1334009975649890238, 2608012711638119052, 6128411473006802146, 8268148722764581231, 9286055187155687089, 11230858885718282805, 13951009754708518548, 16472876342353939154, 17275323862435702243, 1135362057144423861, 2597628984639134821, 3308224258029322869, 5365058923640841347, 6679025012923562964, 8573033837759648693, 10970295158949994411, 12119686244451234320, 12683024718118986047, 13788192230050041572, 14330467153632333762, 15395433587784984357, 489312712824947311, 1452737877330783856, 2861767655752347644, 3322285676063803686, 5560940570517711597, 5996557281743188959, 7280758554555802590, 8532644243296465576, 9350256976987008742, 10552545826968843579, 11727347734174303076, 12113106623233404929, 14000437183269869457, 14369950271660146224, 15101387698204529176, 15463397548674623760, 17586052441742319658, 1182934255886127544, 1847814050463011016, 2177327727835720531, 2830643537854262169, 3796741975233480872, 4115178125766777443, 5681478168544905931, 6601373596472566643, 7507060721942968483, 8399075790359081724, 8693463985226723168, 9568029438360202098, 10144078919501101548, 10430055236837252648, 11840083180663258601, 13761210420658862357, 14299343276471374635, 14566680578165727644, 15097957966210449927, 16922976911328602910, 17689382322260857208, 500013540394364858, 748580250866718886, 1242879168328830382, 1977374033974150939, 2944078676154940804, 3659926193048069267, 4368137639120453308, 4836135668995329356, 5532061633213252278, 6448918945643986474, 6902733635092675308, 7801388544844847127], (28, 34, 39), (14, 18, 41), (1, 8, 7), (19, 61, 6)⟩
theorem k512_len : k512.rounds.length = 80 := by decide
theorem k512_lt : ∀ j, k512.rounds.getD j 0 < 18446744073709551616 := fun j => by
 by_cases h : j < 80
 ·have : ∀ j : Fin 80, k512.rounds.getD j.val 0 < 18446744073709551616 := by decide
  exact this ⟨j, h⟩
 ·rw [List.getD_eq_getElem?_getD, List.getElem?_eq_none (by rw [k512_len]; omega)]
  decide

def mixAt (B h : List Nat) (n : Nat) : List Nat := B.take n ++ h.drop n
theorem mixAt_len {B h : List Nat} (hB : B.length = 8) (hh : h.length = 8) {n : Nat} (hn : n ≤ 8) : (mixAt B h n).length = 8 := by
 unfold mixAt
 rw [List.length_append, List.length_take, List.length_drop]
 omega
theorem mixAt_get {B h : List Nat} (hB : B.length = 8) {n : Nat} (hn : n < 8) : (mixAt B h n).getD n 0 = h.getD n 0 := by
 unfold mixAt
 rw [List.getD_eq_getElem?_getD, List.getElem?_append_right (by rw [List.length_take]; omega), List.length_take, List.getElem?_drop, List.getD_eq_getElem?_getD]
 congr 2
 omega
theorem mixAt_set {B h : List Nat} (hB : B.length = 8) (hh : h.length = 8) {n : Nat} (hn : n < 8) : (mixAt B h n).set n (B.getD n 0) = mixAt B h (n + 1) := by
 unfold mixAt
 have h1 : (B.take n).length = n := by rw [List.length_take]; omega
 rw [List.set_append_right _ _ (by omega), h1, Nat.sub_self, List.drop_eq_getElem_cons (by omega), List.set_cons_zero, List.take_succ_eq_append_getElem (by omega), List.append_assoc, List.getD_eq_getElem?_getD, List.getElem?_eq_getElem (by omega)]
 rfl
theorem blockS_get (k : Kd) (h m : List Nat) {n : Nat} (hn : n < 8) : (blockS k h m).getD n 0 = (h.getD n 0 + (roundsS k h m k.rounds.length).getD n 0) % 2 ^ k.w := by
 unfold blockS
 rw [List.getD_eq_getElem?_getD, List.getElem?_map, List.getElem?_range hn]
 rfl

structure MixF (k : Kd) (h m : List Nat) (N M : Nat) (SC R : Nat → List Nat) : Prop where
 s0 : SC 0 = List.replicate N 0
 sl : ∀ K, K ≤ N → (SC K).length = N
 sa : ∀ K, K < N → K < 16 → (SC K).set K (wordAt k.w m K) = SC (K + 1)
 sb : ∀ K, K < N → 16 ≤ K → (SC K).set K ((smallS k.w k.t1 ((SC K).getD (K - 2) 0) + (SC K).getD (K - 7) 0 + smallS k.w k.t0 ((SC K).getD (K - 15) 0) + (SC K).getD (K - 16) 0) % M) = SC (K + 1)
 sc : ∀ K j, (SC K).getD j 0 < M
 r0 : R 0 = h
 rl : ∀ n, (R n).length = 8
 rn : ∀ n, R (n + 1) = roundS k (R n) (k.rounds.getD n 0) ((SC N).getD n 0)
 rb : ∀ n j, (R n).getD j 0 < M
 bl : ∀ n, n < 8 → (blockS k h m).getD n 0 = (h.getD n 0 + (R N).getD n 0) % M
theorem mixF {k : Kd} {h m : List Nat} (hw : 256 ^ (k.w / 8) = 2 ^ k.w) (hm : Digs 256 m) (hh : h.length = 8) (hv : ∀ j, h.getD j 0 < 2 ^ k.w) : MixF k h m k.rounds.length (2 ^ k.w) (schedAt k m k.rounds.length) (roundsS k h m) where
 s0 := rfl
 sl K hK := schedAt_len k m hK
 sa K hK h16 := by
  have h1 := schedAt_set (k := k) (m := m) hK
  have h2 : nextW k m (sched k m K) = wordAt k.w m K := by
   unfold nextW
   rw [sched_len, if_pos h16]
  rwa [h2] at h1
 sb K hK h16 := by
  have h1 := schedAt_set (k := k) (m := m) hK
  have h2 : nextW k m (sched k m K) = (smallS k.w k.t1 ((sched k m K).getD (K - 2) 0) + (sched k m K).getD (K - 7) 0 + smallS k.w k.t0 ((sched k m K).getD (K - 15) 0) + (sched k m K).getD (K - 16) 0) % 2 ^ k.w := by
   unfold nextW
   rw [sched_len, if_neg (by omega)]
  rw [schedAt_get (by omega), schedAt_get (by omega), schedAt_get (by omega), schedAt_get (by omega), ← h2]
  exact h1
 sc K j := by
  by_cases h : j < K
  ·rw [schedAt_get h]
   exact sched_lt hm hw K j
  ·unfold schedAt
   rw [List.getD_eq_getElem?_getD, List.getElem?_append_right (by rw [sched_len]; omega), List.getElem?_replicate]
   split <;> exact Nat.pow_pos (by decide)
 r0 := rfl
 rl n := roundsS_len hh m n
 rn n := by
  rw [schedAt_full]
  rfl
 rb n j := roundsS_lt hv m n j
 bl n hn := blockS_get k h m hn
theorem sum4 (a b c d M : Nat) : (((a + b) % M + c) % M + d) % M = (d + c + b + a) % M := by
 simp only [Nat.mod_add_mod]
 congr 1
 omega
end Go.Proofs.YthddoelflmoedaaGreat
namespace Go.Proofs.YthddoelflmoedaaGreat
set_option maxRecDepth 100000

def chainS (k : Kd) (B : Nat) (h m : List Nat) : Nat → List Nat
 | 0 => h
 | n + 1 => blockS k (chainS k B h m n) ((m.drop (n * B)).take B)
theorem chainS_len {k : Kd} {B : Nat} {h : List Nat} (hh : h.length = 8) (m : List Nat) : ∀ n, (chainS k B h m n).length = 8
 | 0 => hh
 | n + 1 => blockS_len _ _ _
theorem chainS_lt {k : Kd} {B : Nat} {h : List Nat} (hd : ∀ j, h.getD j 0 < 2 ^ k.w) (m : List Nat) : ∀ n j, (chainS k B h m n).getD j 0 < 2 ^ k.w
 | 0, j => hd j
 | n + 1, j => blockS_lt _ _ _ j
def padL (B r : Nat) (m : List Nat) : List Nat := m ++ fillL m.length B r
theorem fillL_len {n B r : Nat} (hr : 8 ≤ r) : (fillL n B r).length = 1 + padK n B r + r := by
 unfold fillL
 rw [List.length_cons, List.length_append, List.length_replicate, beD_len]
 omega
theorem padL_mod {B r : Nat} (hB : 0 < B) (hr : 8 ≤ r) (m : List Nat) : (padL B r m).length % B = 0 := by
 unfold padL
 rw [List.length_append, fillL_len hr]
 have := padK_zero (n := m.length) (r := r) hB
 rwa [Nat.add_assoc] at this
theorem fillL_Digs (n B r : Nat) : Digs 256 (fillL n B r) := Digs.cons (by decide) ((Digs.replicate (by decide) _).append (beD_Digs _ _))
theorem padL_Digs {B r : Nat} {m : List Nat} (h : Digs 256 m) : Digs 256 (padL B r m) := h.append (fillL_Digs _ _ _)
def outL (n : Nat) (h : List Nat) : List Nat := (h.map (beD n)).flatten
theorem outL_len (n : Nat) (h : List Nat) : (outL n h).length = h.length * n := by
 unfold outL
 induction h with
 | nil => simp
 | cons x h ih => rw [List.map_cons, List.flatten_cons, List.length_append, beD_len, ih, List.length_cons, Nat.add_mul, Nat.one_mul, Nat.add_comm]
theorem outL_Digs (n : Nat) (h : List Nat) : Digs 256 (outL n h) := by
 unfold outL
 induction h with
 | nil => exact Digs.nil
 | cons x h ih => rw [List.map_cons, List.flatten_cons]; exact (beD_Digs _ _).append ih
def sumS (k : Kd) (B r : Nat) (m : List Nat) : List Nat := outL (k.w / 8) (chainS k B k.first (padL B r m) ((padL B r m).length / B))
def sum512 (m : List Nat) : List Nat := sumS k512 128 16 m
theorem k512_first : k512.first.length = 8 := rfl
theorem sum512_len (m : List Nat) : (sum512 m).length = 64 := by
 unfold sum512 sumS
 rw [outL_len, chainS_len k512_first]
 rfl
theorem sum512_Digs (m : List Nat) : Digs 256 (sum512 m) := outL_Digs _ _
theorem small_getD {M : Nat} (hM : 0 < M) {l : List Nat} {n : Nat} (hl : l.length = n) (h : ∀ j : Fin n, l.getD j.val 0 < M) (j : Nat) : l.getD j 0 < M := by
 by_cases hj : j < n
 ·exact h ⟨j, hj⟩
 ·rw [List.getD_eq_getElem?_getD, List.getElem?_eq_none (by omega)]
  exact hM
theorem k512_firstD : ∀ j, k512.first.getD j 0 < 18446744073709551616 := small_getD (by decide) k512_first (by decide)
end Go.Proofs.YthddoelflmoedaaGreat
namespace Go.Proofs.YthddoelflmoedaaGreat
set_option maxRecDepth 100000

def clampL (h : List Nat) : List Nat := ((h.take 32).set 0 (h.getD 0 0 / 8 * 8)).set 31 (h.getD 31 0 % 64 + 64)
theorem clampL_len {h : List Nat} (hl : h.length = 64) : (clampL h).length = 32 := by
 unfold clampL
 rw [List.length_set, List.length_set, List.length_take]
 omega
theorem clampL_Digs {h : List Nat} (hd : Digs 256 h) : Digs 256 (clampL h) := by
 unfold clampL
 have h0 := hd.getD (by decide) 0
 exact ((hd.take 32).set 0 (by omega)).set 31 (by have := Nat.mod_lt (h.getD 31 0) (show 64 > 0 by decide); omega)
def numL (s : List Nat) : List Nat := clampL (sum512 s)
theorem numL_len (s : List Nat) : (numL s).length = 32 := clampL_len (sum512_len s)
theorem numL_Digs (s : List Nat) : Digs 256 (numL s) := clampL_Digs (sum512_Digs s)
def saltL (s : List Nat) : List Nat := (sum512 s).drop 32
theorem saltL_len (s : List Nat) : (saltL s).length = 32 := by unfold saltL; rw [List.length_drop, sum512_len]
theorem saltL_Digs (s : List Nat) : Digs 256 (saltL s) := (sum512_Digs s).drop 32
def pubP (s : List Nat) : Pt := smul (val 256 (numL s)) baseP
def pubL (s : List Nat) : List Nat := encB (pubP s)
theorem pubL_len (s : List Nat) : (pubL s).length = 32 := encB_len _
theorem pubL_Digs (s : List Nat) : Digs 256 (pubL s) := encB_Digs _
def hashL (m : List Nat) : List Nat := digs 256 32 (val 256 (sum512 m) % q)
theorem hashL_len (m : List Nat) : (hashL m).length = 32 := digs_length _ _ _
theorem hashL_Digs (m : List Nat) : Digs 256 (hashL m) := digs_Digs (by decide) _ _
def rL (s m : List Nat) : List Nat := hashL (saltL s ++ m)
def firstL (s m : List Nat) : List Nat := encB (smul (val 256 (rL s m)) baseP)
theorem firstL_len (s m : List Nat) : (firstL s m).length = 32 := encB_len _
theorem firstL_Digs (s m : List Nat) : Digs 256 (firstL s m) := encB_Digs _
def kL (s m : List Nat) : List Nat := hashL (firstL s m ++ pubL s ++ m)
def lastL (s m : List Nat) : List Nat := digs 256 32 ((val 256 (kL s m) * val 256 (numL s) + val 256 (rL s m)) % q)
theorem lastL_len (s m : List Nat) : (lastL s m).length = 32 := digs_length _ _ _
theorem lastL_Digs (s m : List Nat) : Digs 256 (lastL s m) := digs_Digs (by decide) _ _
def sigL (s m : List Nat) : List Nat := firstL s m ++ lastL s m
theorem sigL_len (s m : List Nat) : (sigL s m).length = 64 := by unfold sigL; rw [List.length_append, firstL_len, lastL_len]
theorem sigL_Digs (s m : List Nat) : Digs 256 (sigL s m) := (firstL_Digs _ _).append (lastL_Digs _ _)
theorem sigL_take (s m : List Nat) : (sigL s m).take 32 = firstL s m := List.take_left' (firstL_len _ _)
theorem sigL_drop (s m : List Nat) : (sigL s m).drop 32 = lastL s m := List.drop_left' (firstL_len _ _)
theorem q_ord : q = ordN := by decide
theorem q_lt : q < 256 ^ 32 := by decide
theorem lastL_val (s m : List Nat) : val 256 (lastL s m) = (val 256 (kL s m) * val 256 (numL s) + val 256 (rL s m)) % q := by
 unfold lastL
 rw [val_digs]
 exact Nat.mod_eq_of_lt (Nat.lt_trans (Nat.mod_lt _ (by decide)) q_lt)
theorem lastL_lt (s m : List Nat) : val 256 (lastL s m) < q := by rw [lastL_val]; exact Nat.mod_lt _ (by decide)
def verP (key first s m : List Nat) (P : Pt) : Pt := padd (smul (val 256 (hashL (first ++ key ++ m))) (pneg P)) (smul (val 256 s) baseP)
theorem sig_right (s m : List Nat) : verP (pubL s) (firstL s m) (lastL s m) m (pubP s) = smul (val 256 (rL s m)) baseP := by
 unfold verP
 have hk : hashL (firstL s m ++ pubL s ++ m) = kL s m := rfl
 have hq : smul q baseP = pzero := by rw [q_ord]; exact ord_base
 rw [hk, lastL_val, smul_mod hq, smul_add, pneg_smul]
 unfold pubP
 rw [← smul_mul, Nat.mul_comm (val 256 (numL s)), ← padd_assoc, padd_comm (pneg _), padd_neg, zero_padd]
theorem encN_pub (s : List Nat) : encN (pubP s) = val 256 (pubL s) := (encB_val _).symm
end Go.Proofs.YthddoelflmoedaaGreat
namespace Go.Proofs.YthddoelflmoedaaGreat
open Go.RowKit
set_option maxRecDepth 100000

def Ow (e : TypeId) (xs : List Value) (v : Value) (bs : List Blk) : Prop :=
 (v = .slice none 0 0 ∧ xs = [] ∧ bs = []) ∨
 ∃ g cap cs, v = .slice (some ⟨g, 0, none⟩) xs.length cap ∧ xs.length ≤ cap ∧ cap ≤ maxLen ∧ cs.size = cap ∧ cs.toList.take xs.length = xs ∧ bs = [⟨g, e, cs⟩]
section
variable {w0 w : World} {l : List Blk} {e : TypeId} {xs : List Value} {v : Value} {bs : List Blk}
theorem Ow.nil (e : TypeId) : Ow e [] (.slice none 0 0) [] := .inl ⟨rfl, rfl, rfl⟩
theorem Ow.sl (h : Ow e xs v bs) (hE : Env w0 (bs ++ l) w) : Sl w0 l e xs v w := by
 rcases h with ⟨h1, h2, rfl⟩ | ⟨g, cap, cs, h1, h2, h3, h4, h5, rfl⟩
 ·exact .inl ⟨h1, h2, hE⟩
 ·exact .inr ⟨g, cap, cs, h1, h2, h3, h4, h5, hE⟩
theorem Sl.ow (h : Sl w0 l e xs v w) : ∃ bs, Ow e xs v bs ∧ Env w0 (bs ++ l) w := by
 rcases h with ⟨h1, h2, hE⟩ | ⟨g, cap, cs, h1, h2, h3, h4, h5, hE⟩
 ·exact ⟨[], .inl ⟨h1, h2, rfl⟩, hE⟩
 ·exact ⟨_, .inr ⟨g, cap, cs, h1, h2, h3, h4, h5, rfl⟩, hE⟩
theorem Ow.len (h : Ow e xs v bs) : ∃ p c, v = .slice p xs.length c ∧ xs.length ≤ c := by
 rcases h with ⟨rfl, rfl, -⟩ | ⟨g, cap, cs, rfl, h2, -⟩
 ·exact ⟨_, _, rfl, Nat.le_refl _⟩
 ·exact ⟨_, _, rfl, h2⟩
end

def RdB (k : IntKind) (g : Nat) (cs : Array Value) (l : List Nat) (v : Value) : Prop :=
 ∃ p c, v = .slice p l.length c ∧ l.length ≤ c ∧ (l = [] ∨ ∃ off, p = some ⟨g, off, none⟩ ∧ (cs.toList.drop off).take l.length = nats k l)
theorem RdB.rd {k : IntKind} {g : Nat} {cs : Array Value} {l : List Nat} {v : Value} {T : TypeId} {w : World} (h : RdB k g cs l v) (hg : w.heap[g]? = some (.cells cs T (0, 0))) : RdS k l v w := by
 obtain ⟨p, c, rfl, h2, h3⟩ := h
 refine ⟨p, c, rfl, h2, h3.imp id fun ⟨off, h4, h5⟩ => ⟨g, off, h4, fun j u hj => ?_⟩⟩
 have hjl : j < l.length := by
  have := (List.getElem?_eq_some_iff.1 hj).1
  rwa [Array.length_toList, ints_size] at this
 rw [cell_of_row w g _ _ _ _ hg]
 have h6 : nats k l = (ints k l).toList := rfl
 rw [← h6, ← h5, List.getElem?_take, if_pos hjl, List.getElem?_drop] at hj
 rw [← hj, Array.getElem?_toList]
theorem RdB.slcd {k : IntKind} {g : Nat} {cs : Array Value} {l : List Nat} {p : Option Addr} {n c lo : Nat} (h : RdB k g cs l (.slice p n c)) (h1 : lo ≤ n) : RdB k g cs (l.drop lo) (slcd p lo n c) := by
 obtain ⟨p', c', e1, h2, h3⟩ := h
 injection e1 with e1 e2 e3
 subst e1 e2 e3
 have hl : (l.drop lo).length = l.length - lo := by rw [List.length_drop]
 refine ⟨if c = lo then p else p.map (·.add lo), c - lo, by rw [hl]; rfl, by rw [hl]; omega, ?_⟩
 by_cases hc : c = lo
 ·left
  exact List.drop_eq_nil_of_le (by omega)
 ·rw [if_neg hc]
  rcases h3 with rfl | ⟨off, rfl, h5⟩
  ·left; simp
  ·refine .inr ⟨off + lo, by simp [Addr.add], ?_⟩
   rw [hl, ← List.drop_drop, ← List.drop_take, h5]
   unfold nats ints
   simp [List.map_drop]
theorem Ow.rdB {k : IntKind} {e : TypeId} {l : List Nat} {v : Value} {bs : List Blk} (h : Ow e (nats k l) v bs) : (bs = [] ∧ l = [] ∧ v = .slice none 0 0) ∨ ∃ g cs, bs = [⟨g, e, cs⟩] ∧ RdB k g cs l v := by
 rcases h with ⟨h1, h2, h3⟩ | ⟨g, cap, cs, h1, h2, h3, h4, h5, h6⟩
 ·refine .inl ⟨h3, ?_, h1⟩
  have := congrArg List.length h2
  rw [nats_len] at this
  exact List.eq_nil_of_length_eq_zero this
 ·rw [nats_len] at h1 h2 h5
  exact .inr ⟨g, cs, h6, _, _, h1, h2, .inr ⟨0, rfl, by rw [List.drop_zero]; exact h5⟩⟩
theorem Sl.rdS {k : IntKind} {e : TypeId} {l : List Nat} {v : Value} {w0 w : World} {bl : List Blk} (h : Sl w0 bl e (nats k l) v w) : RdS k l v w := by
 obtain ⟨bs, ho, hE⟩ := h.ow
 rcases ho.rdB with ⟨-, rfl, rfl⟩ | ⟨g, cs, rfl, h1⟩
 ·exact RdS.nil k w
 ·exact h1.rd (hE.get (i := 0) rfl)

section
variable {P : Program} {ops : Array Oper} {Q : Exit → Act → World → Prop} {a : Act} {w w0 : World} {l : List Blk} {o : Oper} {K : Act → World → Prop} {v : Value}
theorem v_loadCut {ty : TypeId} {x : Operand} {g i k n : Nat} {T : TypeId} {X : Array Value} {Y : List Value} {d : TypeDesc} (he : (X.toList.drop k).take n = Y) (hE : Env w0 l w) (ho : o.op = .load ty x) (hx : a.eval x = .pointer (some ⟨g, k, none⟩)) (hi : l[i]? = some ⟨g, T, X⟩)
  (hu : P.underlying ty = some d) (hd : d.isRow = true) (hs : (P.info? ty).map (·.size) = some n) (hn : k + n ≤ X.size) : Val P o a (.agg Y.toArray) w :=
 v_loadMid ho hx (fun w1 hb => by
  have h := World.rangeAt_of_block ((hE.call hb).get hi) k n
  have e : (X.extract k (k + n)).toList = Y.toArray.toList := by
   rw [← he]
   simp
  rwa [e] at h) hu hd (sz_of hs (by
   rw [← he]
   simp
   omega))
theorem v_cellB {ty : TypeId} {x : Operand} {g i j : Nat} {T : TypeId} {cs : Array Value} {d : TypeDesc} (hE : Env w0 l w) (ho : o.op = .load ty x) (hx : a.eval x = .pointer (some ⟨g, j, none⟩)) (hi : l[i]? = some ⟨g, T, cs⟩) (hu : P.underlying ty = some d) (hd : (match d with | .struct _ | .array _ _ => false | _ => true) = true)
  (hc : cs[j]? = some v) : Val P o a v w := v_cell ho hx hu hd (Env.cellv hE hi hc)
end
end Go.Proofs.YthddoelflmoedaaGreat
namespace Go.Proofs.YthddoelflmoedaaGreat
open Go.RowKit
set_option maxRecDepth 100000

def laidAll (lay : List (Nat × Nat)) (X : List Value) : List (Nat × Value) → Option (List Value)
 | [] => some X
 | (i, v) :: r => match lay[i]? with
  | none => none
  | some (off, sz) => if v.cells.size = sz ∧ off + sz ≤ X.length then laidAll lay (X.take off ++ v.cells.toList ++ X.drop (off + sz)) r else none
theorem fill_laid (lay : List (Nat × Nat)) : ∀ (vs : List (Nat × Value)) (X : Array Value) (Z : List Value), laidAll lay X.toList vs = some Z → Instr.fill (lay.toArray[·]?) X vs = some Z.toArray
 | [], X, Z, h => by
  simp only [laidAll, Option.some.injEq] at h
  rw [← h]
  rfl
 | (i, v) :: r, X, Z, h => by
  simp only [laidAll] at h
  unfold Instr.fill
  have e : lay.toArray[i]? = lay[i]? := by simp
  rw [e]
  cases hl : lay[i]? with
  | none => rw [hl] at h; cases h
  | some x =>
   rw [hl] at h
   simp only [] at h
   split at h
   ·rename_i hc
    obtain ⟨h1, h2⟩ := hc
    have hlen : X.toList.length = X.size := Array.length_toList
    have hne : ¬ ((v.cells.size ≠ x.2 || decide (x.1 + v.cells.size > X.size)) = true) := by
     simp only [Bool.or_eq_true, decide_eq_true_eq, not_or]
     exact ⟨fun h => h h1, by omega⟩
    simp only []
    rw [if_neg hne]
    have hput := foldl_put x.1 v.cells.toList 0 X (by rw [Array.length_toList]; omega)
    have hf : v.cells.zipIdx.foldl (fun cs (y : Value × Nat) => cs.setIfInBounds (x.1 + y.2) y.1) X = (X.toList.take x.1 ++ v.cells.toList ++ X.toList.drop (x.1 + x.2)).toArray := by
     apply Array.toList_inj.1
     rw [← Array.foldl_toList]
     simp only [Nat.add_zero, Array.length_toList, h1] at hput
     simpa using hput
    refine Eq.trans (congrArg (fun Y => Instr.fill (lay.toArray[·]?) Y r) hf) ?_
    exact fill_laid lay r _ Z (by simpa using h)
   ·cases h

section
variable {P : Program} {ops : Array Oper} {Q : Exit → Act → World → Prop} {a : Act} {w w0 : World} {l : List Blk} {o : Oper} {K : Act → World → Prop} {v : Value}
theorem v_buildV {t : TypeId} {parts : List (Nat × Operand)} {vals : List (Nat × Value)} {fields : Array Field} {lay : List (Nat × Nat)} {zs : List Value} (Z : List Value) (ho : o.op = .build t parts.toArray)
  (h1 : (P.info? t).bind (fun i => i.zero.map fun z => z.cells.toList) = some zs) (h2 : P.underlying t = some (.struct fields)) (h4 : fields.toList.mapM (fun f => (P.info? f.type).map fun i => (f.offset, i.size)) = some lay)
  (hp : parts.map (fun p => (p.1, a.eval p.2)) = vals) (hZ : laidAll lay zs vals = some Z) : Val P o a (.agg Z.toArray) w := v_run fun w => by
 cases hi : P.info? t with
 | none => rw [hi] at h1; cases h1
 | some it =>
  rw [hi] at h1
  cases hz : it.zero with
  | none => simp [hz] at h1
  | some z =>
   simp [hz] at h1
   subst h1
   have hb : P.built t vals = some Z.toArray := by
    unfold Program.built
    simp only [hi, h2, hz, h4]
    exact fill_laid lay vals z.cells Z hZ
   unfold execOp
   simp only [ho, List.map_toArray, Sem.run_bind]
   rw [run_build (P := P) w t _ Z.toArray (by rw [← hb, ← hp])]
   rfl
/-! ### A block that stands first -/
/-! ### An append to nil: new memory, and nothing else -/
theorem Env.lift {e : TypeId} {xs : List Value} {w' : World} (hE : Env w0 l w) (h : Sl w [] e xs v w') : ∃ bs, Ow e xs v bs ∧ Env w0 (bs ++ l) w' := by
 obtain ⟨bs, ho, hE'⟩ := h.ow
 rw [List.append_nil] at hE'
 refine ⟨bs, ho, ?_⟩
 rcases ho with ⟨-, -, rfl⟩ | ⟨g, cap, cs, -, -, -, -, -, rfl⟩
 ·exact hE.call hE'.below
 ·have hn : w.heap.size ≤ g := hE'.new _ (List.mem_singleton_self _)
  exact (hE.call hE'.below).add (hE'.get (i := 0) rfl) (Nat.le_trans hE.below.size hn) fun b hm => Nat.ne_of_gt (Nat.lt_of_lt_of_le (hE.lt hm) hn)
theorem Env.mid {bs : List Blk} {b : Blk} : Env w0 (bs ++ b :: l) w ↔ Env w0 (b :: (bs ++ l)) w := ⟨fun h => h.perm List.perm_middle, fun h => h.perm List.perm_middle.symm⟩
end
end Go.Proofs.YthddoelflmoedaaGreat
namespace Go.Proofs.YthddoelflmoedaaGreat
open Go.ChangeShapes Go.WideShapes Go.ChangeAt Go.RowKit
set_option maxRecDepth 100000

def RdSs (k : IntKind) (rows : List (List Nat)) (v : Value) (w : World) : Prop :=
 ∃ p cap, v = .slice p rows.length cap ∧ rows.length ≤ cap ∧ (rows = [] ∨ ∃ b off, p = some ⟨b, off, none⟩ ∧ ∀ j, (h : j < rows.length) → ∃ u, w.cell? ⟨b, off + j, none⟩ = some u ∧ RdS k rows[j] u w)
theorem RdSs.below {k : IntKind} {rows : List (List Nat)} {v : Value} {w w1 : World} (h : RdSs k rows v w) (hb : Below w.heap.size w w1) : RdSs k rows v w1 := by
 obtain ⟨p, cap, h1, h2, h3⟩ := h
 refine ⟨p, cap, h1, h2, h3.imp id fun ⟨b, off, h4, h5⟩ => ⟨b, off, h4, fun j hj => ?_⟩⟩
 obtain ⟨u, hu, hr⟩ := h5 j hj
 exact ⟨u, (hb.cell (World.block_lt_of_cell? _ _ hu)).trans hu, hr.below hb⟩
theorem RdSs.nil (k : IntKind) (w : World) : RdSs k [] (.slice none 0 0) w := ⟨none, 0, rfl, Nat.le_refl _, .inl rfl⟩
theorem RdSs.at {k : IntKind} {rows : List (List Nat)} {p : Option Addr} {n cap : Nat} {w : World} {j : Nat} (h : RdSs k rows (.slice p n cap) w) (hj : j < rows.length) :
  ∃ b off u, p = some ⟨b, off, none⟩ ∧ (∀ w1, Below w.heap.size w w1 → w1.cell? ⟨b, off + j, none⟩ = some u) ∧ RdS k rows[j] u w := by
 obtain ⟨p', cap', h1, h2, h3⟩ := h
 injection h1 with h1 _ _
 subst h1
 rcases h3 with rfl | ⟨b, off, h4, h5⟩
 ·simp at hj
 ·obtain ⟨u, hu, hr⟩ := h5 j hj
  exact ⟨b, off, u, h4, fun w1 hb => (hb.cell (World.block_lt_of_cell? _ _ hu)).trans hu, hr⟩

section
variable {H : Type} {enc : TypeId × Value → H} {P : Program} {w : World} {base : Nat} {spare : Nat → Bool} {held : Bool}
theorem trod_bytes {t e fuel : Nat} {cs : List Value} {x : DataW H × List MemPlace} (ht : P.underlying t = some (.slice e)) (he : P.underlying e = some (.int .u8)) (hce : P.cellsOf e = 1)
  (h : DataW.trod enc P w base spare held fuel t cs = some x) : ∃ (l : List Nat) (v : Value), cs = [v] ∧ RdS .u8 l v w ∧ Digs 256 l ∧ l.length ≤ maxLen := by
 rcases open_ints ht he hce h with ⟨h0, -⟩ | ⟨a, len0, cap0, zs, hcs, -, hl, hm, hlen, -, hel, hwf⟩
 ·exact ⟨[], _, h0, RdS.nil _ _, Digs.nil, Nat.zero_le _⟩
 ·have hzl : len0 ≤ zs.length := by rw [hlen]; split <;> omega
  rcases Nat.eq_zero_or_pos len0 with rfl | hpos
  ·exact ⟨[], _, hcs, ⟨_, _, rfl, Nat.zero_le _, .inl rfl⟩, Digs.nil, Nat.zero_le _⟩
  ·have h0 := hel 0 (by omega)
   have hsp : a.spot = none := by
    have : a.add 0 = a := rfl
    rw [this] at h0
    exact World.cell?_spot h0
   obtain ⟨b, off, sp⟩ := a
   simp only at hsp
   subst hsp
   have hll : ((zs.take len0).map Int.toNat).length = len0 := by rw [List.length_map, List.length_take]; omega
   refine ⟨(zs.take len0).map Int.toNat, _, hcs, ⟨_, _, by rw [hll], by rw [hll]; exact hl, .inr ⟨b, off, rfl, fun j v hj => ?_⟩⟩, fun x hx => ?_, by rw [hll]; omega⟩
   ·have hj1 : j < len0 := by
     have := (List.getElem?_eq_some_iff.1 hj).1
     have e : (ints .u8 ((zs.take len0).map Int.toNat)).toList.length = len0 := by rw [← hll]; simp [ints]
     rwa [e] at this
    have hc := hel j (by omega)
    rw [addr_add] at hc
    have hz := bounds_u8 (hwf (zs[j]'(by omega)) (List.getElem_mem _))
    have hg : zs.getD j 0 = zs[j]'(by omega) := by simp [List.getD, show j < zs.length by omega]
    rw [hc, hg, ← hj, Array.getElem?_toList]
    rw [ints_get? .u8 ((zs.take len0).map Int.toNat) j (by rw [hll]; exact hj1)]
    congr 2
    simp [List.getD, hj1, show j < zs.length by omega]
    omega
   ·obtain ⟨z, hz, rfl⟩ := List.mem_map.1 hx
    have := bounds_u8 (hwf z (List.mem_of_mem_take hz))
    omega
theorem open_bytes {t e : Nat} {v : Value} {d : DataW H} {p : List MemPlace} (ht : P.underlying t = some (.slice e)) (he : P.underlying e = some (.int .u8)) (hce : P.cellsOf e = 1)
  {b0 : Nat} (hv : Value.okWide P w .any b0 t v) (h : DataW.Trod enc P w base spare held t v d p) : ∃ l : List Nat, RdS .u8 l v w ∧ Digs 256 l ∧ l.length ≤ maxLen := by
 obtain ⟨a0, len0, cap0, rfl⟩ := okWide_slice ht hv
 obtain ⟨fuel, hf⟩ := h
 obtain ⟨l, v, h1, h2, h3, h4⟩ := trod_bytes ht he hce hf
 simp [Value.cells] at h1
 subst h1
 exact ⟨l, h2, h3, h4⟩
end
end Go.Proofs.YthddoelflmoedaaGreat
