/-
  Layer 5: the functions that the package tells: what they answer of any bytes.
  Layer 3, plain: words turned, the schedule, the rounds, a block; for words of w bits. No condition. No program in sight.
  More of what only reads: minus and complement of a number, a negative number taken without its sign; words of 32 bits. No condition on the program.
-/
import Derived.Test.YthddoelflmoedaaJ01
import Derived.Test.YthddoelflmoedaaJ07
import Derived.Test.YthddoelflmoedaaJ20
namespace Go.Proofs.Ythddoelflmoedaa
open Go.RowKit
set_option maxRecDepth 100000
set_option linter.unusedVariables false
set_option linter.unusedSimpArgs false

theorem mod_q (n : Nat) : n % q < q := Nat.mod_lt _ (by decide)
theorem mod_q_lt (n : Nat) : n % q < big256 := Nat.lt_trans (mod_q n) (by decide)
theorem val_lt32 {a : List Nat} (ha : a.length = 32) (da : Digs 256 a) : val 256 a < 18446744073709551616 ^ 4 := by
  have := val_lt da
  rw [ha] at this
  exact this
theorem val_lt64 {a : List Nat} (ha : a.length = 64) (da : Digs 256 a) : val 256 a < 18446744073709551616 ^ 8 := by
  have := val_lt da
  rw [ha] at this
  exact this
theorem mul_q_lt (m n : Nat) : m % q * (n % q) < 18446744073709551616 ^ 8 :=
  Nat.lt_of_le_of_lt (Nat.mul_le_mul (Nat.le_of_lt (mod_q m)) (Nat.le_of_lt (mod_q n))) (by decide)
theorem muladd_end (a b c : Nat) : (a % q * (b % q) % q + c % q) % q = (a * b + c) % q := by
  rw [← Nat.mul_mod, ← Nat.add_mod]
theorem neg_lt (n : Nat) : (q + big256 - n % q) % big256 < 18446744073709551616 ^ 4 := Nat.mod_lt _ (by decide)
theorem neg_end (n : Nat) : (q + big256 - n % q) % big256 % q = (q - n % q) % q := by
  have h := mod_q n
  have hb : q < big256 := by decide
  have : (q + big256 - n % q) % big256 = q - n % q := by
    have e : q + big256 - n % q = (q - n % q) + big256 := by omega
    rw [e, Nat.add_mod_right, Nat.mod_eq_of_lt (by omega)]
  rw [this]
theorem rest4_of (g V : Nat) (T : TypeId) (hV : V < 18446744073709551616 ^ 4) (w : World) (hg : w.heap[g]? = some (.cells (ints .u64 (digs 18446744073709551616 4 V)) T (0, 0))) :
    Gives 36 #[.slice (some ⟨g, 0, none⟩) 4 4] w (num (V % q)) := by
  have h := rest4_any g _ T (digs_length _ _ _) (digs_Digs (by decide) 4 V) w hg
  rwa [val_digs, Nat.mod_eq_of_lt hV] at h
theorem rest8_of (g V : Nat) (T : TypeId) (hV : V < 18446744073709551616 ^ 8) (w : World) (hg : w.heap[g]? = some (.cells (ints .u64 (digs 18446744073709551616 8 V)) T (0, 0))) :
    Gives 36 #[.slice (some ⟨g, 0, none⟩) 8 8] w (num (V % q)) := by
  have h := rest8_any g _ T (digs_length _ _ _) (digs_Digs (by decide) 8 V) w hg
  rwa [val_digs, Nat.mod_eq_of_lt hV] at h
set_option maxHeartbeats 1000000 in
theorem small_any (a : List Nat) (ha : a.length = 32) (da : Digs 256 a) (w : World) : Gives 34 #[.agg (ints .u8 a)] w (num (val 256 a % q)) := by
  have hE0 := Env.nil w
  go_enter Try.func34, Try.ntmps34
  repeat ((fail_if_success with_reducible show wA ..); (fail_if_success with_reducible show wB ..); go_step)
  refine wl_box (cs := (ints .u8 a)) hE0 rfl rfl rfl ?_
  intro g0 w1 hE1
  clear hE0
  simp only [Act.put, pA, pB, pC]
  refine wl_alloc hE1 rfl rfl al_num ?_
  intro g1 w2 hE2
  clear hE1
  simp only [Act.put, pA, pB, pC]
  repeat ((fail_if_success with_reducible show wA ..); (fail_if_success with_reducible show wB ..); go_step)
  apply wl_val rfl
  · go_simp
    with_reducible rfl
  simp only [Act.put, pA, pB, pC]
  refine wl_call_new hE2 rfl (by go_simp) (load4_any _ a _ ha da _ (hE2.get (i := 1) rfl)) ?_
  intro g2 w3 hE3
  clear hE2
  simp only [Act.put, pA, pB, pC]
  refine wl_call hE3 rfl (by go_simp) (rest4_of _ _ _ (val_lt32 ha da) _ (hE3.get (i := 0) rfl)) ?_
  intro w4 hE4
  clear hE3
  simp only [Act.put, pA, pB, pC]
  refine wl_store (i := 1) hE4 rfl rfl rfl rfl rfl (sz_of (n := 4) (by kernel_rfl) (by first | (simp only [ints_size, digs_length, List.length_replicate, List.length_cons, List.length_nil]; done) | (simp only [ints_size, *]; done) | rfl)) (by first | (simp only [ints_size, digs_length, List.length_replicate, List.length_cons, List.length_nil]; done) | (simp only [ints_size, *]; done) | rfl) (by first | exact ints_one _ _ | decide | simp [*]) ?_
  intro w5 hE5
  clear hE4
  simp only [pB, pC] at hE5
  simp only [Act.put, pA, pB, pC]
  repeat ((fail_if_success with_reducible show wA ..); (fail_if_success with_reducible show wB ..); go_step)
  refine bodyPost_ret (results_cell_row rfl _ _ _ _ _ (0, 0) _ rfl (hE5.get (i := 1) rfl) Try.underlying66 rfl (sz_of (n := 4) (by kernel_rfl) (by first | (simp only [ints_size, digs_length, List.length_replicate, List.length_cons, List.length_nil]; done) | (simp only [ints_size, *]; done) | rfl))) rfl ⟨rfl, hE5.below⟩


set_option maxHeartbeats 1000000 in
theorem Reduce_any (a : List Nat) (ha : a.length = 64) (da : Digs 256 a) (w : World) : Gives 33 #[.agg (ints .u8 a)] w (.agg (ints .u8 (digs 256 32 (val 256 a % q)))) := by
  have hE0 := Env.nil w
  go_enter Try.func33, Try.ntmps33
  repeat ((fail_if_success with_reducible show wA ..); (fail_if_success with_reducible show wB ..); go_step)
  refine wl_box (cs := (ints .u8 a)) hE0 rfl rfl rfl ?_
  intro g0 w1 hE1
  clear hE0
  simp only [Act.put, pA, pB, pC]
  refine wl_alloc hE1 rfl rfl al_b32 ?_
  intro g1 w2 hE2
  clear hE1
  simp only [Act.put, pA, pB, pC]
  repeat ((fail_if_success with_reducible show wA ..); (fail_if_success with_reducible show wB ..); go_step)
  apply wl_val rfl
  · go_simp
    with_reducible rfl
  simp only [Act.put, pA, pB, pC]
  refine wl_call_new hE2 rfl (by go_simp) (load8_any _ a _ ha da _ (hE2.get (i := 1) rfl)) ?_
  intro g2 w3 hE3
  clear hE2
  simp only [Act.put, pA, pB, pC]
  refine wl_call hE3 rfl (by go_simp) (rest8_of _ _ _ (val_lt64 ha da) _ (hE3.get (i := 0) rfl)) ?_
  intro w4 hE4
  clear hE3
  simp only [Act.put, pA, pB, pC]
  refine wl_call hE4 rfl (by go_simp) (bytes_any (val 256 a % q) (mod_q_lt _) _) ?_
  intro w5 hE5
  clear hE4
  simp only [Act.put, pA, pB, pC]
  refine wl_store (i := 1) hE5 rfl rfl rfl rfl rfl (sz_of (n := 32) (by kernel_rfl) (by first | (simp only [ints_size, digs_length, List.length_replicate, List.length_cons, List.length_nil]; done) | (simp only [ints_size, *]; done) | rfl)) (by first | (simp only [ints_size, digs_length, List.length_replicate, List.length_cons, List.length_nil]; done) | (simp only [ints_size, *]; done) | rfl) (by first | exact ints_one _ _ | decide | simp [*]) ?_
  intro w6 hE6
  clear hE5
  simp only [pB, pC] at hE6
  simp only [Act.put, pA, pB, pC]
  repeat ((fail_if_success with_reducible show wA ..); (fail_if_success with_reducible show wB ..); go_step)
  refine bodyPost_ret (results_cell_row rfl _ _ _ _ _ (0, 0) _ rfl (hE6.get (i := 1) rfl) Try.underlying22 rfl (sz_of (n := 32) (by kernel_rfl) (by first | (simp only [ints_size, digs_length, List.length_replicate, List.length_cons, List.length_nil]; done) | (simp only [ints_size, *]; done) | rfl))) rfl ⟨rfl, hE6.below⟩


set_option maxHeartbeats 1000000 in
theorem MulAdd_any (a b c : List Nat) (ha : a.length = 32) (hb : b.length = 32) (hc : c.length = 32) (da : Digs 256 a) (db : Digs 256 b) (dc : Digs 256 c) (w : World) : Gives 16 #[.agg (ints .u8 a), .agg (ints .u8 b), .agg (ints .u8 c)] w (.agg (ints .u8 (digs 256 32 ((val 256 a * val 256 b + val 256 c) % q)))) := by
  have hE0 := Env.nil w
  go_enter Try.func16, Try.ntmps16
  repeat ((fail_if_success with_reducible show wA ..); (fail_if_success with_reducible show wB ..); go_step)
  refine wl_box (cs := (ints .u8 a)) hE0 rfl rfl rfl ?_
  intro g0 w1 hE1
  clear hE0
  simp only [Act.put, pA, pB, pC]
  refine wl_box (cs := (ints .u8 b)) hE1 rfl rfl rfl ?_
  intro g1 w2 hE2
  clear hE1
  simp only [Act.put, pA, pB, pC]
  refine wl_box (cs := (ints .u8 c)) hE2 rfl rfl rfl ?_
  intro g2 w3 hE3
  clear hE2
  simp only [Act.put, pA, pB, pC]
  refine wl_alloc hE3 rfl rfl al_b32 ?_
  intro g3 w4 hE4
  clear hE3
  simp only [Act.put, pA, pB, pC]
  repeat ((fail_if_success with_reducible show wA ..); (fail_if_success with_reducible show wB ..); go_step)
  refine wp_region_env 6 (by kernel_rfl) (by kernel_rfl) (fun _ _ d _ _ h => by cases d <;> exact h) hE4 ?_
  refine headRun_load rfl rfl (fun w h => h.get (i := 3) rfl) Try.underlying22 rfl (sz_of (n := 32) (by kernel_rfl) (by first | (simp only [ints_size, digs_length, List.length_replicate, List.length_cons, List.length_nil]; done) | (simp only [ints_size, *]; done) | rfl)) ?_
  simp only [Act.put, pA, pB, pC]
  refine headRun_call (fun w1 => by go_simp) (fun w1 hW => small_any a ha da _) ?_
  simp only [Act.put, pA, pB, pC]
  refine headRun_load rfl rfl (fun w h => h.get (i := 2) rfl) Try.underlying22 rfl (sz_of (n := 32) (by kernel_rfl) (by first | (simp only [ints_size, digs_length, List.length_replicate, List.length_cons, List.length_nil]; done) | (simp only [ints_size, *]; done) | rfl)) ?_
  simp only [Act.put, pA, pB, pC]
  refine headRun_call (fun w1 => by go_simp) (fun w1 hW => small_any b hb db _) ?_
  simp only [Act.put, pA, pB, pC]
  refine headRun_call (fun w1 => by go_simp) (fun w1 hW => times_any (val 256 a % q) (val 256 b % q) (mod_q_lt _) (mod_q_lt _) _) ?_
  simp only [Act.put, pA, pB, pC]
  refine headRun_alloc rfl rfl al_twice ?_
  refine headRun_nil (endK1 ?_)
  intro g4 w5 hE5
  clear hE4
  simp only [List.drop_succ_cons, List.drop_zero, Act.put, pA, pB, pC]
  refine wl_store (i := 0) hE5 rfl rfl rfl rfl rfl (sz_of (n := 8) (by kernel_rfl) (by first | (simp only [ints_size, digs_length, List.length_replicate, List.length_cons, List.length_nil]; done) | (simp only [ints_size, *]; done) | rfl)) (by first | (simp only [ints_size, digs_length, List.length_replicate, List.length_cons, List.length_nil]; done) | (simp only [ints_size, *]; done) | rfl) (by first | exact ints_one _ _ | decide | simp [*]) ?_
  intro w6 hE6
  clear hE5
  simp only [pB, pC] at hE6
  simp only [Act.put, pA, pB, pC]
  repeat ((fail_if_success with_reducible show wA ..); (fail_if_success with_reducible show wB ..); go_step)
  refine wp_region_env 6 (by kernel_rfl) (by kernel_rfl) (fun _ _ d _ _ h => by cases d <;> exact h) hE6 ?_
  apply headRun_val
  · intro w1 h1
    go_simp
    with_reducible rfl
  simp only [Act.put, pA, pB, pC]
  refine headRun_call (fun w1 => by go_simp) (fun w1 hW => rest8_of _ _ _ (mul_q_lt _ _) _ (hW.get (i := 0) rfl)) ?_
  simp only [Act.put, pA, pB, pC]
  refine headRun_load rfl rfl (fun w h => h.get (i := 2) rfl) Try.underlying22 rfl (sz_of (n := 32) (by kernel_rfl) (by first | (simp only [ints_size, digs_length, List.length_replicate, List.length_cons, List.length_nil]; done) | (simp only [ints_size, *]; done) | rfl)) ?_
  simp only [Act.put, pA, pB, pC]
  refine headRun_call (fun w1 => by go_simp) (fun w1 hW => small_any c hc dc _) ?_
  simp only [Act.put, pA, pB, pC]
  refine headRun_call (fun w1 => by go_simp) (fun w1 hW => qplus_any (val 256 a % q * (val 256 b % q) % q) (val 256 c % q) (mod_q _) (mod_q _) _) ?_
  simp only [Act.put, pA, pB, pC]
  refine headRun_call (fun w1 => by go_simp) (fun w1 hW => bytes_any ((val 256 a % q * (val 256 b % q) % q + val 256 c % q) % q) (mod_q_lt _) _) ?_
  simp only [Act.put, pA, pB, pC]
  refine headRun_nil (endK0 ?_)
  intro  w7 hE7
  clear hE6
  simp only [List.drop_succ_cons, List.drop_zero, Act.put, pA, pB, pC]
  refine wl_store (i := 1) hE7 rfl rfl rfl rfl rfl (sz_of (n := 32) (by kernel_rfl) (by first | (simp only [ints_size, digs_length, List.length_replicate, List.length_cons, List.length_nil]; done) | (simp only [ints_size, *]; done) | rfl)) (by first | (simp only [ints_size, digs_length, List.length_replicate, List.length_cons, List.length_nil]; done) | (simp only [ints_size, *]; done) | rfl) (by first | exact ints_one _ _ | decide | simp [*]) ?_
  intro w8 hE8
  clear hE7
  simp only [pB, pC] at hE8
  simp only [Act.put, pA, pB, pC]
  repeat ((fail_if_success with_reducible show wA ..); (fail_if_success with_reducible show wB ..); go_step)
  refine bodyPost_ret (results_cell_row rfl _ _ _ _ _ (0, 0) _ rfl (hE8.get (i := 1) rfl) Try.underlying22 rfl (sz_of (n := 32) (by kernel_rfl) (by first | (simp only [ints_size, digs_length, List.length_replicate, List.length_cons, List.length_nil]; done) | (simp only [ints_size, *]; done) | rfl))) rfl ⟨by rw [muladd_end], hE8.below⟩


end Go.Proofs.Ythddoelflmoedaa
namespace Go.Proofs.Ythddoelflmoedaa
set_option maxRecDepth 100000
set_option linter.unusedVariables false

/-- A word of w bits, turned right by n. -/
def rr (w n x : Nat) : Nat := x * 2 ^ (w - n) % 2 ^ w ||| x / 2 ^ n
theorem rr_lt {w n x : Nat} (hx : x < 2 ^ w) : rr w n x < 2 ^ w := Nat.or_lt_two_pow (Nat.mod_lt _ (Nat.pow_pos (by decide))) (Nat.lt_of_le_of_lt (Nat.div_le_self _ _) hx)
/-- What tells one of the two sums from the other. -/
structure Kd where
  w : Nat
  first : List Nat
  rounds : List Nat
  s0 : Nat × Nat × Nat
  s1 : Nat × Nat × Nat
  t0 : Nat × Nat × Nat
  t1 : Nat × Nat × Nat
def bigS (w : Nat) (t : Nat × Nat × Nat) (x : Nat) : Nat := rr w t.1 x ^^^ rr w t.2.1 x ^^^ rr w t.2.2 x
def smallS (w : Nat) (t : Nat × Nat × Nat) (x : Nat) : Nat := rr w t.1 x ^^^ rr w t.2.1 x ^^^ x / 2 ^ t.2.2
def chS (w e f g : Nat) : Nat := e &&& f ^^^ (2 ^ w - 1 - e) &&& g
def majS (a b c : Nat) : Nat := a &&& b ^^^ a &&& c ^^^ b &&& c
theorem bigS_lt {w : Nat} {t : Nat × Nat × Nat} {x : Nat} (hx : x < 2 ^ w) : bigS w t x < 2 ^ w := Nat.xor_lt_two_pow (Nat.xor_lt_two_pow (rr_lt hx) (rr_lt hx)) (rr_lt hx)
theorem smallS_lt {w : Nat} {t : Nat × Nat × Nat} {x : Nat} (hx : x < 2 ^ w) : smallS w t x < 2 ^ w := Nat.xor_lt_two_pow (Nat.xor_lt_two_pow (rr_lt hx) (rr_lt hx)) (Nat.lt_of_le_of_lt (Nat.div_le_self _ _) hx)
theorem chS_lt {w e f g : Nat} (he : e < 2 ^ w) (hg : g < 2 ^ w) : chS w e f g < 2 ^ w := Nat.xor_lt_two_pow (Nat.lt_of_le_of_lt Nat.and_le_left he) (Nat.lt_of_le_of_lt Nat.and_le_right hg)
theorem majS_lt {w a b c : Nat} (ha : a < 2 ^ w) (hb : b < 2 ^ w) : majS a b c < 2 ^ w := Nat.xor_lt_two_pow (Nat.xor_lt_two_pow (Nat.lt_of_le_of_lt Nat.and_le_left ha) (Nat.lt_of_le_of_lt Nat.and_le_left ha)) (Nat.lt_of_le_of_lt Nat.and_le_left hb)

/-- A number of bytes, the highest one first. -/
def beN (l : List Nat) : Nat := val 256 l.reverse
/-- The word i of a block. -/
def wordAt (w : Nat) (m : List Nat) (i : Nat) : Nat := beN ((m.drop (i * (w / 8))).take (w / 8))
/-- The next word of the schedule. -/
def nextW (k : Kd) (m : List Nat) (l : List Nat) : Nat :=
  if l.length < 16 then wordAt k.w m l.length
  else (smallS k.w k.t1 (l.getD (l.length - 2) 0) + l.getD (l.length - 7) 0 + smallS k.w k.t0 (l.getD (l.length - 15) 0) + l.getD (l.length - 16) 0) % 2 ^ k.w
def sched (k : Kd) (m : List Nat) : Nat → List Nat
  | 0 => []
  | n + 1 => sched k m n ++ [nextW k m (sched k m n)]
theorem sched_len (k : Kd) (m : List Nat) : ∀ n, (sched k m n).length = n
  | 0 => rfl
  | n + 1 => by rw [sched, List.length_append, sched_len k m n]; rfl
/-- A round. -/
def roundS (k : Kd) (v : List Nat) (c x : Nat) : List Nat :=
  let t := (v.getD 7 0 + bigS k.w k.s1 (v.getD 4 0) + chS k.w (v.getD 4 0) (v.getD 5 0) (v.getD 6 0) + c + x) % 2 ^ k.w
  let u := (bigS k.w k.s0 (v.getD 0 0) + majS (v.getD 0 0) (v.getD 1 0) (v.getD 2 0)) % 2 ^ k.w
  [(t + u) % 2 ^ k.w, v.getD 0 0, v.getD 1 0, v.getD 2 0, (v.getD 3 0 + t) % 2 ^ k.w, v.getD 4 0, v.getD 5 0, v.getD 6 0]
def roundsS (k : Kd) (h m : List Nat) : Nat → List Nat
  | 0 => h
  | n + 1 => roundS k (roundsS k h m n) (k.rounds.getD n 0) ((sched k m k.rounds.length).getD n 0)
/-- A state behind a block. -/
def blockS (k : Kd) (h m : List Nat) : List Nat := (List.range 8).map fun i => (h.getD i 0 + (roundsS k h m k.rounds.length).getD i 0) % 2 ^ k.w
theorem blockS_len (k : Kd) (h m : List Nat) : (blockS k h m).length = 8 := by unfold blockS; simp
/-- A state behind blocks. -/
def blocksS (k : Kd) (h : List Nat) : List (List Nat) → List Nat
  | [] => h
  | m :: r => blocksS k (blockS k h m) r
end Go.Proofs.Ythddoelflmoedaa
namespace Go.Proofs.Ythddoelflmoedaa
open Go.RowKit
set_option maxRecDepth 100000
set_option linter.unusedVariables false
set_option linter.unusedSimpArgs false
section
variable {P : Program} {a : Act} {w : World} {o : Oper}
theorem v_negN {t : TypeId} {x : Operand} {m : Nat} (ho : o.op = .unOp .neg t x) (hx : a.eval x = .int .i64 (m : Int)) (hm : m < 9223372036854775808) : Val P o a (.int .i64 (-(m : Int))) w := v_run fun w => by
  unfold execOp
  simp only [ho, hx, Op.unary, Op.intArith, Sem.run_bind, Sem.run_pure]
  have h : IntKind.i64.wrap (-(m : Int)) = -(m : Int) := by rw [IntKind.wrap_i64]; omega
  simp [h]
theorem v_convNeg {s d : TypeId} {x : Operand} {m : Nat} {ds : TypeDesc} (ho : o.op = .convert s d x) (hx : a.eval x = .int .i64 (-(m : Int))) (hs : P.underlying s = some ds) (hd : P.underlying d = some (.int .u64)) (h0 : 0 < m) (hm : m < 9223372036854775808) :
    Val P o a (.int .u64 ((18446744073709551616 - m : Nat) : Int)) w := v_run fun w => by
  unfold execOp
  simp only [ho, hx, convert, Sem.run_bind, run_underlying hs, run_underlying hd, Result.andThen_ok]
  have : IntKind.u64.wrap (-(m : Int)) = ((18446744073709551616 - m : Nat) : Int) := by rw [IntKind.wrap_u64]; omega
  simp [Conv.intToInt, Sem.run_pure, this]
theorem v_compl {t : TypeId} {x : Operand} {k : IntKind} {m : Nat} (ho : o.op = .unOp .xor t x) (hx : a.eval x = .int k (m : Int)) (hk : k.signed = false) (hm : m < 2 ^ k.bits) : Val P o a (.int k ((2 ^ k.bits - 1 - m : Nat) : Int)) w := v_run fun w => by
  have hmax : k.max = ((2 ^ k.bits - 1 : Nat) : Int) := by cases k <;> first | (cases hk; done) | rfl
  have hlt : 2 ^ k.bits - 1 < 2 ^ k.bits := Nat.sub_lt (Nat.pow_pos (by decide)) (by decide)
  have hx' : (2 ^ k.bits - 1) ^^^ m = 2 ^ k.bits - 1 - m := by
    apply Nat.eq_of_testBit_eq
    intro i
    rw [Nat.testBit_xor, Nat.testBit_two_pow_sub_one]
    have e : 2 ^ k.bits - 1 - m = 2 ^ k.bits - (m + 1) := by omega
    rw [e, Nat.testBit_two_pow_sub_succ hm]
    by_cases hi : i < k.bits
    · simp [hi]
    · have : m.testBit i = false := Nat.testBit_lt_two_pow (Nat.lt_of_lt_of_le hm (Nat.pow_le_pow_right (by decide) (by omega)))
      simp [hi, this]
  have hw : k.wrap (((2 ^ k.bits - 1) ^^^ m : Nat) : Int) = (((2 ^ k.bits - 1) ^^^ m : Nat) : Int) := w_uns hk (Nat.xor_lt_two_pow hlt hm)
  rw [hx'] at hw
  unfold execOp
  simp only [ho, hx, Op.unary, hk, hmax, Sem.run_bind, Sem.run_pure, Op.intBits, ofInt_nat hm, ofInt_nat hlt, BitVec.toNat_xor, hx', hw, Bool.false_eq_true, if_false]
  rfl
theorem w_m32 (n : Nat) : IntKind.u32.wrap (n : Int) = ((n % 4294967296 : Nat) : Int) := by simp [IntKind.wrap, IntKind.bits, IntKind.signed]
end
end Go.Proofs.Ythddoelflmoedaa
