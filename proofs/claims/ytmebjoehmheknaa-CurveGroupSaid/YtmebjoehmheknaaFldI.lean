/-
  Layer 4: powers, inverses; roots.
-/
import Derived.Test.YtmebjoehmheknaaFldH
namespace Go.Proofs.Ytmebjoehmheknaa
open Go.RowKit
set_option linter.unusedVariables false
set_option linter.unusedSimpArgs false

/-- What bits tell, from the highest one on. -/
def bitsVal (bit : Nat → Bool) : Nat → Nat
  | 0 => 0
  | k + 1 => 2 * bitsVal bit k + if bit (255 - k) then 1 else 0

/-- A value that tells bits when it is called. -/
def TellsBits (v : Value) (bit : Nat → Bool) (S : World → Prop) : Prop :=
  ∃ f fr cap, v = .func (.func f) fr cap ∧ (∀ (args : Array Value) (w : World), (callFunc f args).run Try.prog w = .ok (.enter f args) w) ∧
    ∀ i w, i < 256 → S w → Gives f (fr ++ #[.int .i64 (i : Int)] ++ cap) w (.bool (bit i))

theorem run_callValue {P : Program} {o : Oper} {a : Act} {w : World} {x : Operand} {L : List Operand} {ts : Array TypeId} {f : FuncId} {fr cap : Array Value} (ho : o.op = .call { callee := .value x, args := L.toArray, argTypes := ts }) (hx : a.eval x = .func (.func f) fr cap)
    (hc : ∀ (args : Array Value) (w : World), (callFunc f args).run P w = .ok (.enter f args) w) : (execOp a.eval o).run P w = .ok (.enter f (fr ++ (L.map a.eval).toArray ++ cap)) w := by
  unfold execOp
  simp only [ho, resolve, hx, Deferred.ofValue, Sem.run_bind, Sem.run_pure, Result.andThen_ok, invoke]
  simp [hc, Sem.run_pure]

theorem Mul_fun : ∃ mulF : List Nat → List Nat → List Nat, ∀ l m, Fe l → Fe m → Fe (mulF l m) ∧ fval (mulF l m) % pN = fval l * fval m % pN ∧ ∀ w, Gives 34 #[elem l, elem m] w (elem (mulF l m)) := by
  exact ⟨fun l m => Classical.epsilon fun c => Fe c ∧ fval c % pN = fval l * fval m % pN ∧ ∀ w, Gives 34 #[elem l, elem m] w (elem c), fun l m hl hm => Classical.epsilon_spec (Mul_any hl hm)⟩

/-- The power's limbs, round by round. -/
def powL (mulF : List Nat → List Nat → List Nat) (l : List Nat) (bit : Nat → Bool) : Nat → List Nat
  | 0 => [1, 0, 0, 0, 0]
  | k + 1 => if bit (255 - k) then mulF (mulF (powL mulF l bit k) (powL mulF l bit k)) l else mulF (powL mulF l bit k) (powL mulF l bit k)
theorem pow_mod_mul (a b c n : Nat) (h : a % n = b % n) : a * c % n = b * c % n := by rw [Nat.mul_mod, h, ← Nat.mul_mod]
theorem powL_ok {mulF : List Nat → List Nat → List Nat} (hmul : ∀ l m, Fe l → Fe m → Fe (mulF l m) ∧ fval (mulF l m) % pN = fval l * fval m % pN) {l : List Nat} (hl : Fe l) (bit : Nat → Bool) :
    ∀ k, Fe (powL mulF l bit k) ∧ fval (powL mulF l bit k) % pN = fval l ^ bitsVal bit k % pN
  | 0 => ⟨Fe.mk (by decide) (by decide) (by decide) (by decide) (by decide), by rw [powL, fval5, bitsVal, Nat.pow_zero]⟩
  | k + 1 => by
    obtain ⟨h1, h2⟩ := powL_ok hmul hl bit k
    obtain ⟨h3, h4⟩ := hmul _ _ h1 h1
    have h5 : fval (mulF (powL mulF l bit k) (powL mulF l bit k)) % pN = fval l ^ (2 * bitsVal bit k) % pN := by
      rw [h4, Nat.mul_mod, h2, ← Nat.mul_mod, ← Nat.pow_add, Nat.two_mul]
    obtain ⟨h6, h7⟩ := hmul _ _ h3 hl
    unfold powL bitsVal
    split
    · exact ⟨h6, by rw [h7, pow_mod_mul _ _ _ _ h5, Nat.pow_succ]⟩
    · exact ⟨h3, h5⟩

set_option maxRecDepth 100000 in
set_option maxHeartbeats 4000000 in
theorem power_walk {mulF : List Nat → List Nat → List Nat} (hmul : ∀ l m, Fe l → Fe m → Fe (mulF l m) ∧ fval (mulF l m) % pN = fval l * fval m % pN) (hgiv : ∀ l m, Fe l → Fe m → ∀ w, Gives 34 #[elem l, elem m] w (elem (mulF l m)))
    {l : List Nat} (hl : Fe l) {v : Value} {bit : Nat → Bool} {S : World → Prop} (hst : ∀ W w1 : World, Below W.heap.size W w1 → S W → S w1) (hv : TellsBits v bit S) (w : World) (hS : S w) :
    Gives 67 #[elem l, v] w (elem (powL mulF l bit 256)) := by
  obtain ⟨f, fr, cap, rfl, hcf, hbit⟩ := hv
  have hok := fun k => (powL_ok hmul hl bit k).1
  have hl5 := hl.1
  have Hl := Lib.hid hl
  have Hok := Lib.hid hok
  have Hmul := Lib.hid hmul
  have Hgiv := Lib.hid hgiv
  have Hcf := Lib.hid hcf
  have Hbit := Lib.hid hbit
  have Hst := Lib.hid hst
  have HS := Lib.hid hS
  have HSm := Lib.hid ((Small_any (n := 1) (by decide)).2.2)
  clear hl hok hmul hgiv hcf hbit hst hS
  have hE0 := Env.nil w
  go_enter Try.func67, Try.ntmps67
  repeat ((fail_if_success (with_reducible show wpList _ _ _ (List.cons _ _) _ _)); (fail_if_success (with_reducible show Code.wp _ (Code.region _ _ true) _ _ _)); go_step)
  refine wl_step (st_boxA hE0 rfl rfl rfl ?_)
  intro g0 w1 hb1 hE1
  clear hE0
  simp only [Act.put, List.setIfInBounds_toArray, List.set_cons_zero, List.set_cons_succ]
  refine wl_step (st_alloc (zs := ints .u64 (List.replicate 5 0)) hE1 rfl rfl (fun w => by kernel_rfl) ?_)
  intro g1 w2 hb2 hE2
  clear hE1
  simp only [Act.put, List.setIfInBounds_toArray, List.set_cons_zero, List.set_cons_succ]
  repeat ((fail_if_success (with_reducible show wpList _ _ _ (List.cons _ _) _ _)); (fail_if_success (with_reducible show Code.wp _ (Code.region _ _ true) _ _ _)); go_step)
  refine wl_step (st_gives hE2 rfl (run_call rfl Try.call38) (HSm.out _) ?_)
  intro w3 hb3 hE3
  clear hE2
  simp only [Act.put, List.setIfInBounds_toArray, List.set_cons_zero, List.set_cons_succ]
  refine wl_step (st_alloc (zs := ints .u64 (List.replicate 5 0)) hE3 rfl rfl (fun w => by kernel_rfl) ?_)
  intro g2 w4 hb4 hE4
  clear hE3
  simp only [Act.put, List.setIfInBounds_toArray, List.set_cons_zero, List.set_cons_succ]
  refine wl_step (st_store (i := 0) hE4 rfl rfl rfl rfl rfl (sz_of (n := 5) (by kernel_rfl) (by first | (simp only [ints_size, digs_length, List.length_replicate, List.length_cons, List.length_nil]; done) | (simp only [ints_size, digs_length, List.length_replicate, List.length_cons, List.length_nil, List.length_set, List.length_append]; omega) | rfl)) (by first | (simp only [ints_size, digs_length, List.length_replicate, List.length_cons, List.length_nil]; done) | (simp only [ints_size, digs_length, List.length_replicate, List.length_cons, List.length_nil, List.length_set, List.length_append]; omega) | rfl) (by first | exact ints_one _ _ | decide | simp [*]) ?_)
  intro w5 hE5
  clear hE4
  simp only [List.set_cons_zero, List.set_cons_succ] at hE5
  simp only [Act.put, List.setIfInBounds_toArray, List.set_cons_zero, List.set_cons_succ]
  repeat ((fail_if_success (with_reducible show wpList _ _ _ (List.cons _ _) _ _)); (fail_if_success (with_reducible show Code.wp _ (Code.region _ _ true) _ _ _)); go_step)
  refine wl_step (st_val rfl (v_moveC (.inr rfl)) ?_)
  simp only [Act.put, List.setIfInBounds_toArray, List.set_cons_zero, List.set_cons_succ]
  go_wp2
  go_loopw [6] (fun i wr => ∃ K : Nat, K ≤ 256 ∧ i = .int .i64 ((K : Int) - 1) ∧ Env w [⟨g2, 26, ints .u64 (powL mulF l bit (256 - K))⟩, ⟨g1, 26, ints .u64 (List.replicate 5 0)⟩, ⟨g0, 26, ints .u64 l⟩] wr) (fun i _ => (intOf i + 1).toNat)
  case atStart => exact ⟨256, Nat.le_refl _, rfl, hE5⟩
  case round =>
    clear hE5
    obtain ⟨K, hK, rfl, hE0⟩ := hrel
    have hX : (powL mulF l bit (256 - K)).length = 5 := (Hok.out _).1
    cases K with
    | zero =>
      repeat ((fail_if_success (with_reducible show wpList _ _ _ (List.cons _ _) _ _)); (fail_if_success (with_reducible show Code.wp _ (Code.region _ _ true) _ _ _)); go_step)
      refine wl_step (st_val rfl (v_moveT (.inl rfl) rfl) ?_)
      simp only [Act.put, List.setIfInBounds_toArray, List.set_cons_zero, List.set_cons_succ]
      refine wl_step (st_val rfl (v_geqI rfl rfl rfl) ?_)
      simp only [Act.put, List.setIfInBounds_toArray, List.set_cons_zero, List.set_cons_succ]
      repeat ((fail_if_success (with_reducible show wpList _ _ _ (List.cons _ _) _ _)); (fail_if_success (with_reducible show Code.wp _ (Code.region _ _ true) _ _ _)); go_step)
      refine wl_step (st_val rfl (v_load (i := 0) hE0 rfl rfl rfl Try.underlying26 rfl (sz_of (n := 5) (by kernel_rfl) (by first | (simp only [ints_size, digs_length, List.length_replicate, List.length_cons, List.length_nil]; done) | (simp only [ints_size, digs_length, List.length_replicate, List.length_cons, List.length_nil, List.length_set, List.length_append]; omega) | rfl))) ?_)
      simp only [Act.put, List.setIfInBounds_toArray, List.set_cons_zero, List.set_cons_succ]
      refine wl_step (st_store (i := 1) hE0 rfl rfl rfl rfl rfl (sz_of (n := 5) (by kernel_rfl) (by first | (simp only [ints_size, digs_length, List.length_replicate, List.length_cons, List.length_nil]; done) | (simp only [ints_size, digs_length, List.length_replicate, List.length_cons, List.length_nil, List.length_set, List.length_append]; omega) | rfl)) (by first | (simp only [ints_size, digs_length, List.length_replicate, List.length_cons, List.length_nil]; done) | (simp only [ints_size, digs_length, List.length_replicate, List.length_cons, List.length_nil, List.length_set, List.length_append]; omega) | rfl) (by first | exact ints_one _ _ | decide | simp [*]) ?_)
      intro w1 hE1
      clear hE0
      simp only [List.set_cons_zero, List.set_cons_succ] at hE1
      simp only [Act.put, List.setIfInBounds_toArray, List.set_cons_zero, List.set_cons_succ]
      repeat ((fail_if_success (with_reducible show wpList _ _ _ (List.cons _ _) _ _)); (fail_if_success (with_reducible show Code.wp _ (Code.region _ _ true) _ _ _)); go_step)
      refine bodyPost_ret (results_cell_row rfl _ _ _ _ _ (0, 0) _ rfl (hE1.get (i := 1) rfl) Try.underlying26 rfl (sz_of (n := 5) (by kernel_rfl) (by first | (simp only [ints_size, digs_length, List.length_replicate, List.length_cons, List.length_nil]; done) | (simp only [ints_size, digs_length, List.length_replicate, List.length_cons, List.length_nil, List.length_set, List.length_append]; omega) | rfl))) rfl ⟨rfl, hE1.below⟩
    | succ j =>
      have hj : ((j + 1 : Nat) : Int) - 1 = (j : Int) := by omega
      rw [hj]
      clear hj
      have hk1 : 256 - (j + 1) = 255 - j := by omega
      rw [hk1] at hE0 hX
      have hk2 : 256 - j = (255 - j) + 1 := by omega
      have hbj : 255 - (255 - j) = j := by omega
      have hnext : powL mulF l bit (256 - j) = if bit j then mulF (mulF (powL mulF l bit (255 - j)) (powL mulF l bit (255 - j))) l else mulF (powL mulF l bit (255 - j)) (powL mulF l bit (255 - j)) := by
        rw [hk2, powL, hbj]
      have hXF := Hok.out (255 - j)
      obtain ⟨X, hXe⟩ : ∃ X, X = powL mulF l bit (255 - j) := ⟨_, rfl⟩
      rw [← hXe] at hE0 hX hXF hnext
      have hM1 := (Hmul.out _ _ hXF hXF).1
      have hM2 := (Hmul.out _ _ hM1 Hl.out).1
      have Hg1 := Lib.hid (Hgiv.out _ _ hXF hXF)
      have Hg2 := Lib.hid (Hgiv.out _ _ hM1 Hl.out)
      have hl1 := hM1.1
      have hl2 := hM2.1
      obtain ⟨Y, hY⟩ : ∃ Y, Y = mulF X X := ⟨_, rfl⟩
      rw [← hY] at Hg1 Hg2 hl1 hl2 hnext
      obtain ⟨Z, hZ⟩ : ∃ Z, Z = mulF Y l := ⟨_, rfl⟩
      rw [← hZ] at Hg2 hl2 hnext
      have hb := fun w hw => Hbit.out j w (by omega) hw
      obtain ⟨bb, hbb⟩ : ∃ b, b = bit j := ⟨_, rfl⟩
      rw [← hbb] at hb hnext
      have Hb := Lib.hid hb
      have Hn := Lib.hid hnext
      clear hM1 hM2 hY hZ hbb hb hnext hXF hXe hk1 hk2 hbj
      cases bb
      · have Hn0 : Hid (powL mulF l bit (256 - j) = Y) := Lib.hid (by have := Hn.out; simpa using this)
        repeat ((fail_if_success (with_reducible show wpList _ _ _ (List.cons _ _) _ _)); (fail_if_success (with_reducible show Code.wp _ (Code.region _ _ true) _ _ _)); go_step)
        refine wl_step (st_val rfl (v_moveT (.inl rfl) rfl) ?_)
        simp only [Act.put, List.setIfInBounds_toArray, List.set_cons_zero, List.set_cons_succ]
        refine wl_step (st_val rfl (v_geqI rfl rfl rfl) ?_)
        simp only [Act.put, List.setIfInBounds_toArray, List.set_cons_zero, List.set_cons_succ]
        repeat ((fail_if_success (with_reducible show wpList _ _ _ (List.cons _ _) _ _)); (fail_if_success (with_reducible show Code.wp _ (Code.region _ _ true) _ _ _)); go_step)
        refine wl_step (st_val rfl (v_load (i := 0) hE0 rfl rfl rfl Try.underlying26 rfl (sz_of (n := 5) (by kernel_rfl) (by first | (simp only [ints_size, digs_length, List.length_replicate, List.length_cons, List.length_nil]; done) | (simp only [ints_size, digs_length, List.length_replicate, List.length_cons, List.length_nil, List.length_set, List.length_append]; omega) | rfl))) ?_)
        simp only [Act.put, List.setIfInBounds_toArray, List.set_cons_zero, List.set_cons_succ]
        refine wl_step (st_val rfl (v_load (i := 0) hE0 rfl rfl rfl Try.underlying26 rfl (sz_of (n := 5) (by kernel_rfl) (by first | (simp only [ints_size, digs_length, List.length_replicate, List.length_cons, List.length_nil]; done) | (simp only [ints_size, digs_length, List.length_replicate, List.length_cons, List.length_nil, List.length_set, List.length_append]; omega) | rfl))) ?_)
        simp only [Act.put, List.setIfInBounds_toArray, List.set_cons_zero, List.set_cons_succ]
        refine wl_step (st_gives hE0 rfl (run_call rfl Try.call34) (Hg1.out _) ?_)
        intro w1 hb1 hE1
        clear hE0
        simp only [Act.put, List.setIfInBounds_toArray, List.set_cons_zero, List.set_cons_succ]
        refine wl_step (st_store (i := 0) hE1 rfl rfl rfl rfl rfl (sz_of (n := 5) (by kernel_rfl) (by first | (simp only [ints_size, digs_length, List.length_replicate, List.length_cons, List.length_nil]; done) | (simp only [ints_size, digs_length, List.length_replicate, List.length_cons, List.length_nil, List.length_set, List.length_append]; omega) | rfl)) (by first | (simp only [ints_size, digs_length, List.length_replicate, List.length_cons, List.length_nil]; done) | (simp only [ints_size, digs_length, List.length_replicate, List.length_cons, List.length_nil, List.length_set, List.length_append]; omega) | rfl) (by first | exact ints_one _ _ | decide | simp [*]) ?_)
        intro w2 hE2
        clear hE1
        simp only [List.set_cons_zero, List.set_cons_succ] at hE2
        simp only [Act.put, List.setIfInBounds_toArray, List.set_cons_zero, List.set_cons_succ]
        repeat ((fail_if_success (with_reducible show wpList _ _ _ (List.cons _ _) _ _)); (fail_if_success (with_reducible show Code.wp _ (Code.region _ _ true) _ _ _)); go_step)
        refine wl_step (st_val rfl (v_moveT (.inl rfl) rfl) ?_)
        simp only [Act.put, List.setIfInBounds_toArray, List.set_cons_zero, List.set_cons_succ]
        refine wl_step (st_val rfl (v_moveT (.inl rfl) rfl) ?_)
        simp only [Act.put, List.setIfInBounds_toArray, List.set_cons_zero, List.set_cons_succ]
        refine wl_step (st_gives hE2 rfl (run_callValue rfl rfl Hcf.out) (Hb.out _ (Hst.out _ _ hE2.below HS.out)) ?_)
        intro w3 hb3 hE3
        clear hE2
        simp only [Act.put, List.setIfInBounds_toArray, List.set_cons_zero, List.set_cons_succ]
        repeat ((fail_if_success (with_reducible show wpList _ _ _ (List.cons _ _) _ _)); (fail_if_success (with_reducible show Code.wp _ (Code.region _ _ true) _ _ _)); (fail_if_success (with_reducible show Code.wp _ (Code.cond _ _ _) _ _ _)); go_step)
        refine wp_cond_false (by first | rfl | exact congrArg Value.bool (decide_eq_false (by omega))) ?_
        skip
        repeat ((fail_if_success (with_reducible show wpList _ _ _ (List.cons _ _) _ _)); (fail_if_success (with_reducible show Code.wp _ (Code.region _ _ true) _ _ _)); go_step)
        refine wl_step (st_val rfl (v_moveT (.inl rfl) rfl) ?_)
        simp only [Act.put, List.setIfInBounds_toArray, List.set_cons_zero, List.set_cons_succ]
        refine wl_step (st_val rfl (v_sub (n := 1) rfl rfl rfl (by first | exact w_i64s (by omega) (by omega) | exact w_i64I (by omega) (by omega))) ?_)
        simp only [Act.put, List.setIfInBounds_toArray, List.set_cons_zero, List.set_cons_succ]
        refine wl_step (st_val rfl (v_moveT (.inr rfl) rfl) ?_)
        simp only [Act.put, List.setIfInBounds_toArray, List.set_cons_zero, List.set_cons_succ]
        go_wp2
        go_roundw
        case rel => exact ⟨j, by omega, rfl, by rw [Hn0.out]; exact hE3⟩
        case measure => simp [intOf]
      · have Hn0 : Hid (powL mulF l bit (256 - j) = Z) := Lib.hid (by have := Hn.out; simpa using this)
        repeat ((fail_if_success (with_reducible show wpList _ _ _ (List.cons _ _) _ _)); (fail_if_success (with_reducible show Code.wp _ (Code.region _ _ true) _ _ _)); go_step)
        refine wl_step (st_val rfl (v_moveT (.inl rfl) rfl) ?_)
        simp only [Act.put, List.setIfInBounds_toArray, List.set_cons_zero, List.set_cons_succ]
        refine wl_step (st_val rfl (v_geqI rfl rfl rfl) ?_)
        simp only [Act.put, List.setIfInBounds_toArray, List.set_cons_zero, List.set_cons_succ]
        repeat ((fail_if_success (with_reducible show wpList _ _ _ (List.cons _ _) _ _)); (fail_if_success (with_reducible show Code.wp _ (Code.region _ _ true) _ _ _)); go_step)
        refine wl_step (st_val rfl (v_load (i := 0) hE0 rfl rfl rfl Try.underlying26 rfl (sz_of (n := 5) (by kernel_rfl) (by first | (simp only [ints_size, digs_length, List.length_replicate, List.length_cons, List.length_nil]; done) | (simp only [ints_size, digs_length, List.length_replicate, List.length_cons, List.length_nil, List.length_set, List.length_append]; omega) | rfl))) ?_)
        simp only [Act.put, List.setIfInBounds_toArray, List.set_cons_zero, List.set_cons_succ]
        refine wl_step (st_val rfl (v_load (i := 0) hE0 rfl rfl rfl Try.underlying26 rfl (sz_of (n := 5) (by kernel_rfl) (by first | (simp only [ints_size, digs_length, List.length_replicate, List.length_cons, List.length_nil]; done) | (simp only [ints_size, digs_length, List.length_replicate, List.length_cons, List.length_nil, List.length_set, List.length_append]; omega) | rfl))) ?_)
        simp only [Act.put, List.setIfInBounds_toArray, List.set_cons_zero, List.set_cons_succ]
        refine wl_step (st_gives hE0 rfl (run_call rfl Try.call34) (Hg1.out _) ?_)
        intro w1 hb1 hE1
        clear hE0
        simp only [Act.put, List.setIfInBounds_toArray, List.set_cons_zero, List.set_cons_succ]
        refine wl_step (st_store (i := 0) hE1 rfl rfl rfl rfl rfl (sz_of (n := 5) (by kernel_rfl) (by first | (simp only [ints_size, digs_length, List.length_replicate, List.length_cons, List.length_nil]; done) | (simp only [ints_size, digs_length, List.length_replicate, List.length_cons, List.length_nil, List.length_set, List.length_append]; omega) | rfl)) (by first | (simp only [ints_size, digs_length, List.length_replicate, List.length_cons, List.length_nil]; done) | (simp only [ints_size, digs_length, List.length_replicate, List.length_cons, List.length_nil, List.length_set, List.length_append]; omega) | rfl) (by first | exact ints_one _ _ | decide | simp [*]) ?_)
        intro w2 hE2
        clear hE1
        simp only [List.set_cons_zero, List.set_cons_succ] at hE2
        simp only [Act.put, List.setIfInBounds_toArray, List.set_cons_zero, List.set_cons_succ]
        repeat ((fail_if_success (with_reducible show wpList _ _ _ (List.cons _ _) _ _)); (fail_if_success (with_reducible show Code.wp _ (Code.region _ _ true) _ _ _)); go_step)
        refine wl_step (st_val rfl (v_moveT (.inl rfl) rfl) ?_)
        simp only [Act.put, List.setIfInBounds_toArray, List.set_cons_zero, List.set_cons_succ]
        refine wl_step (st_val rfl (v_moveT (.inl rfl) rfl) ?_)
        simp only [Act.put, List.setIfInBounds_toArray, List.set_cons_zero, List.set_cons_succ]
        refine wl_step (st_gives hE2 rfl (run_callValue rfl rfl Hcf.out) (Hb.out _ (Hst.out _ _ hE2.below HS.out)) ?_)
        intro w3 hb3 hE3
        clear hE2
        simp only [Act.put, List.setIfInBounds_toArray, List.set_cons_zero, List.set_cons_succ]
        repeat ((fail_if_success (with_reducible show wpList _ _ _ (List.cons _ _) _ _)); (fail_if_success (with_reducible show Code.wp _ (Code.region _ _ true) _ _ _)); (fail_if_success (with_reducible show Code.wp _ (Code.cond _ _ _) _ _ _)); go_step)
        refine wp_cond_true (by first | rfl | exact congrArg Value.bool (decide_eq_true (by omega))) ?_
        skip
        repeat ((fail_if_success (with_reducible show wpList _ _ _ (List.cons _ _) _ _)); (fail_if_success (with_reducible show Code.wp _ (Code.region _ _ true) _ _ _)); go_step)
        refine wl_step (st_val rfl (v_load (i := 0) hE3 rfl rfl rfl Try.underlying26 rfl (sz_of (n := 5) (by kernel_rfl) (by first | (simp only [ints_size, digs_length, List.length_replicate, List.length_cons, List.length_nil]; done) | (simp only [ints_size, digs_length, List.length_replicate, List.length_cons, List.length_nil, List.length_set, List.length_append]; omega) | rfl))) ?_)
        simp only [Act.put, List.setIfInBounds_toArray, List.set_cons_zero, List.set_cons_succ]
        refine wl_step (st_val rfl (v_load (i := 2) hE3 rfl rfl rfl Try.underlying26 rfl (sz_of (n := 5) (by kernel_rfl) (by first | (simp only [ints_size, digs_length, List.length_replicate, List.length_cons, List.length_nil]; done) | (simp only [ints_size, digs_length, List.length_replicate, List.length_cons, List.length_nil, List.length_set, List.length_append]; omega) | rfl))) ?_)
        simp only [Act.put, List.setIfInBounds_toArray, List.set_cons_zero, List.set_cons_succ]
        refine wl_step (st_gives hE3 rfl (run_call rfl Try.call34) (Hg2.out _) ?_)
        intro w4 hb4 hE4
        clear hE3
        simp only [Act.put, List.setIfInBounds_toArray, List.set_cons_zero, List.set_cons_succ]
        refine wl_step (st_store (i := 0) hE4 rfl rfl rfl rfl rfl (sz_of (n := 5) (by kernel_rfl) (by first | (simp only [ints_size, digs_length, List.length_replicate, List.length_cons, List.length_nil]; done) | (simp only [ints_size, digs_length, List.length_replicate, List.length_cons, List.length_nil, List.length_set, List.length_append]; omega) | rfl)) (by first | (simp only [ints_size, digs_length, List.length_replicate, List.length_cons, List.length_nil]; done) | (simp only [ints_size, digs_length, List.length_replicate, List.length_cons, List.length_nil, List.length_set, List.length_append]; omega) | rfl) (by first | exact ints_one _ _ | decide | simp [*]) ?_)
        intro w5 hE5
        clear hE4
        simp only [List.set_cons_zero, List.set_cons_succ] at hE5
        simp only [Act.put, List.setIfInBounds_toArray, List.set_cons_zero, List.set_cons_succ]
        repeat ((fail_if_success (with_reducible show wpList _ _ _ (List.cons _ _) _ _)); (fail_if_success (with_reducible show Code.wp _ (Code.region _ _ true) _ _ _)); go_step)
        refine wl_step (st_val rfl (v_moveT (.inl rfl) rfl) ?_)
        simp only [Act.put, List.setIfInBounds_toArray, List.set_cons_zero, List.set_cons_succ]
        refine wl_step (st_val rfl (v_sub (n := 1) rfl rfl rfl (by first | exact w_i64s (by omega) (by omega) | exact w_i64I (by omega) (by omega))) ?_)
        simp only [Act.put, List.setIfInBounds_toArray, List.set_cons_zero, List.set_cons_succ]
        refine wl_step (st_val rfl (v_moveT (.inr rfl) rfl) ?_)
        simp only [Act.put, List.setIfInBounds_toArray, List.set_cons_zero, List.set_cons_succ]
        go_wp2
        go_roundw
        case rel => exact ⟨j, by omega, rfl, by rw [Hn0.out]; exact hE5⟩
        case measure => simp [intOf]
theorem power_any {l : List Nat} (hl : Fe l) (bit : Nat → Bool) :
    ∃ c, Fe c ∧ fval c % pN = fval l ^ bitsVal bit 256 % pN ∧ ∀ (v : Value) (S : World → Prop), (∀ W w1 : World, Below W.heap.size W w1 → S W → S w1) → TellsBits v bit S → ∀ w, S w → Gives 67 #[elem l, v] w (elem c) := by
  obtain ⟨mulF, h⟩ := Mul_fun
  have hmul := fun l m hl hm => (⟨(h l m hl hm).1, (h l m hl hm).2.1⟩ : Fe (mulF l m) ∧ fval (mulF l m) % pN = fval l * fval m % pN)
  obtain ⟨h1, h2⟩ := powL_ok hmul hl bit 256
  exact ⟨_, h1, h2, fun v S hst hv => power_walk hmul (fun l m hl hm => (h l m hl hm).2.2) hl hst hv⟩
end Go.Proofs.Ytmebjoehmheknaa
