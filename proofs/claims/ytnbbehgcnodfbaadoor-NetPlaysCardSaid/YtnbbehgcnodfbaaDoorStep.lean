/-
  One operation at a time, whatever follows it; and a region that draws its order, whose operations write nothing that was there (but for those at its end, that come last): what only reads may be taken as soon as it may come up.
  No condition on the program. No program in sight.
-/
import Derived.Test.YtnbbehgcnodfbaaDoorEnv
import Derived.Test.YtnbbehgcnodfbaaDoorOwn
import Derived.Test.YtnbbehgcnodfbaaDoorNum
import Derived.Test.YtnbbehgcnodfbaaDoorHead
import Derived.OrdersHeld
import Derived.Deep.MidRow
import Derived.Laws.Bits64
import Derived.Laws.BitsLemmas
import Derived.Laws.BitsAllLaws
import Derived.Laws.Shifts
namespace Go.Proofs.YtnbbehgcnodfbaaDoor
open Go.RowKit
set_option maxRecDepth 100000
set_option linter.unusedVariables false
set_option linter.unusedSectionVars false
set_option linter.unusedSimpArgs false

section
variable {P : Program} {ops : Array Oper} {Q : Exit → Act → World → Prop} {a : Act} {w w0 : World} {l : List Blk} {o : Oper} {rest : List Oper} {v : Value} {K : Act → World → Prop}

/-- One operation, then K. -/
def Step (P : Program) (ops : Array Oper) (Q : Exit → Act → World → Prop) (o : Oper) (K : Act → World → Prop) (a : Act) (w : World) : Prop :=
  if Region.wanted o (yielded ops a.tmps) = true then o.wp P a w K Q else K (a.put o.dst undef) w

theorem Step.mono {K' : Act → World → Prop} (h : Step P ops Q o K a w) (hk : ∀ a w, K a w → K' a w) : Step P ops Q o K' a w := by
  unfold Step at *
  split
  · rename_i hw
    rw [if_pos hw] at h
    exact Oper.wp_mono hk h
  · rename_i hw
    rw [if_neg hw] at h
    exact hk _ _ h

theorem wl_step (h : Step P ops Q o (wpList P ops Q rest) a w) : wpList P ops Q (o :: rest) a w :=
  wpList_step fun _ hK => h.mono hK

/-- The operation gives v, here and in every world in which nothing that was there is written; and does nothing else. -/
def Val (P : Program) (o : Oper) (a : Act) (v : Value) (w : World) : Prop := ∀ w1, Below w.heap.size w w1 → (execOp a.eval o).run P w1 = .ok (.value v) w1

theorem st_val (hw : Region.wanted o (yielded ops a.tmps) = true) (h : Val P o a v w) (k : K (a.put o.dst v) w) : Step P ops Q o K a w := by
  unfold Step
  rw [if_pos hw]
  unfold Oper.wp
  rw [h w (Below.refl _ _)]
  exact k
theorem st_skip (hw : Region.wanted o (yielded ops a.tmps) = false) (k : K (a.put o.dst undef) w) : Step P ops Q o K a w := by
  unfold Step
  rw [if_neg (by rw [hw]; decide)]
  exact k
theorem st_run {w1 : World} (hw : Region.wanted o (yielded ops a.tmps) = true) (h : (execOp a.eval o).run P w = .ok (.value v) w1) (k : K (a.put o.dst v) w1) : Step P ops Q o K a w := by
  unfold Step
  rw [if_pos hw]
  unfold Oper.wp
  rw [h]
  exact k

/-- A call of a Go function enters it. -/
theorem run_call {f : FuncId} {L : List Operand} {ts : Array TypeId} (ho : o.op = .call { callee := .value (.func f), args := L.toArray, argTypes := ts }) (hc : ∀ (args : Array Value) (w : World), (callFunc f args).run P w = .ok (.enter f args) w) :
    (execOp a.eval o).run P w = .ok (.enter f (L.map a.eval).toArray) w := by
  unfold execOp
  simp only [ho, resolve, Act.eval, Deferred.ofValue, Sem.run_bind, Sem.run_pure, Result.andThen_ok, invoke]
  simp [hc, Sem.run_pure]
/-- A call of a Go function enters it. -/
theorem run_enter {f : FuncId} {args : Array Operand} {ts : Array TypeId} {vs : Array Value} {fn : Func} (ho : o.op = .call { callee := .value (.func f), args := args, argTypes := ts }) (hv : args.map a.eval = vs) (hf : P.funcs[f]? = some fn)
    (hn : (fn.name == "runtime.NumGoroutine") = false) (hb : fn.body.isNone = false) : (execOp a.eval o).run P w = .ok (.enter f vs) w := by
  subst hv
  unfold execOp
  simp only [ho, resolve, Act.eval, Deferred.ofValue, Sem.run_bind, Sem.run_pure, Result.andThen_ok, invoke]
  have hn' : ¬ fn.name = "runtime.NumGoroutine" := by simpa using hn
  have hb' : ¬ fn.body = none := fun h => by rw [h] at hb; cases hb
  simp [callFunc, program, Sem.run, hf, hn', hb', bind, Sem.bind, pure]

theorem st_calls {f : FuncId} {vs : Array Value} {R : Ending → World → Prop} (hw : Region.wanted o (yielded ops a.tmps) = true) (h : (execOp a.eval o).run P w = .ok (.enter f vs) w) (hc : Calls P f vs w R)
    (k : ∀ e w1, R e w1 → ∃ v, e = .returned v ∧ K (a.put o.dst v) w1) : Step P ops Q o K a w := by
  unfold Step
  rw [if_pos hw]
  unfold Oper.wp
  rw [h]
  refine hc.mono fun e w1 he => ?_
  obtain ⟨v, rfl, hk⟩ := k e w1 he
  exact hk

theorem st_gives {f : FuncId} {vs : Array Value} (hE : Env w0 l w) (hw : Region.wanted o (yielded ops a.tmps) = true) (h : (execOp a.eval o).run P w = .ok (.enter f vs) w)
    (hc : Calls P f vs w fun e w' => e = .returned v ∧ Below w.heap.size w w') (k : ∀ w1, Below w.heap.size w w1 → Env w0 l w1 → K (a.put o.dst v) w1) : Step P ops Q o K a w :=
  st_calls hw h hc fun e w1 ⟨he, hb⟩ => ⟨v, he, k w1 hb (hE.call hb)⟩

theorem st_new {f : FuncId} {vs : Array Value} {v : Nat → Value} {T : TypeId} {cs : Array Value} (hE : Env w0 l w) (hw : Region.wanted o (yielded ops a.tmps) = true) (h : (execOp a.eval o).run P w = .ok (.enter f vs) w)
    (hc : Calls P f vs w fun e w' => ∃ g, e = .returned (v g) ∧ Below w.heap.size w w' ∧ w.heap.size ≤ g ∧ w'.heap[g]? = some (.cells cs T (0, 0)))
    (k : ∀ g w1, Below w.heap.size w w1 → Env w0 (⟨g, T, cs⟩ :: l) w1 → K (a.put o.dst (v g)) w1) : Step P ops Q o K a w :=
  st_calls hw h hc fun e w1 ⟨g, he, hb, hg, hcs⟩ => ⟨v g, he, k g w1 hb ((hE.call hb).add hcs (Nat.le_trans hE.below.size hg) fun b hm => Nat.ne_of_gt (Nat.lt_of_lt_of_le (hE.lt hm) hg))⟩

theorem st_alloc {T : TypeId} {zs : Array Value} (hE : Env w0 l w) (hw : Region.wanted o (yielded ops a.tmps) = true) (ho : o.op = .alloc T)
    (hz : ∀ w, (Instr.alloc T true (.tuple #[])).run P w = .ok (.pointer (some ⟨w.heap.size, 0, none⟩)) (w.alloc (.cells zs T)))
    (k : ∀ g w1, Below w.heap.size w w1 → Env w0 (⟨g, T, zs⟩ :: l) w1 → K (a.put o.dst (.pointer (some ⟨g, 0, none⟩))) w1) : Step P ops Q o K a w := by
  refine st_run (w1 := w.alloc (.cells zs T)) (v := .pointer (some ⟨w.heap.size, 0, none⟩)) hw ?_ (k _ _ ((Below.refl _ _).alloc (Nat.le_refl _) _) (hE.alloc T zs))
  unfold execOp
  simp only [ho, Sem.run_bind, hz, Result.andThen_ok, Sem.run_pure]

theorem st_box {T : TypeId} {x : Operand} {cs : Array Value} (hE : Env w0 l w) (hw : Region.wanted o (yielded ops a.tmps) = true) (ho : o.op = .box T x) (hx : (a.eval x).cells = cs)
    (k : ∀ g w1, Below w.heap.size w w1 → Env w0 (⟨g, T, cs⟩ :: l) w1 → K (a.put o.dst (.pointer (some ⟨g, 0, none⟩))) w1) : Step P ops Q o K a w := by
  refine st_run (w1 := w.alloc (.cells cs T)) (v := .pointer (some ⟨w.heap.size, 0, none⟩)) hw ?_ (k _ _ ((Below.refl _ _).alloc (Nat.le_refl _) _) (hE.alloc T cs))
  unfold execOp
  simp only [ho, Sem.run_bind, run_box, Result.andThen_ok, Sem.run_pure, hx]

theorem st_boxA {T : TypeId} {x : Operand} {cs : Array Value} (hE : Env w0 l w) (hw : Region.wanted o (yielded ops a.tmps) = true) (ho : o.op = .box T x) (hx : a.eval x = .agg cs)
    (k : ∀ g w1, Below w.heap.size w w1 → Env w0 (⟨g, T, cs⟩ :: l) w1 → K (a.put o.dst (.pointer (some ⟨g, 0, none⟩))) w1) : Step P ops Q o K a w := st_box hE hw ho (by rw [hx]; rfl) k
theorem st_make {t e : TypeId} {k : IntKind} {x y : Operand} {n b : Nat} (hE : Env w0 l w) (hw : Region.wanted o (yielded ops a.tmps) = true) (ho : o.op = .makeSlice t x y) (hx : a.eval x = .int .i64 (n : Int)) (hy : a.eval y = .int .i64 (n : Int)) (ht : P.underlying t = some (.slice e))
    (hi : (P.info? e).map (fun i => (i.zero, i.size, i.bytes)) = some (some (.int k 0), 1, b)) (hn : b * n ≤ 281474976710656) (h63 : n ≤ 9223372036854775807)
    (kk : ∀ g w1, Below w.heap.size w w1 → Env w0 (⟨g, e, ints k (List.replicate n 0)⟩ :: l) w1 → K (a.put o.dst (.slice (some ⟨g, 0, none⟩) n n)) w1) : Step P ops Q o K a w := by
  obtain ⟨i, hi0, hz, hs, hb⟩ := info_parts hi
  have hr := run_make (P := P) w t e i _ ht hi0 hz .i64 .i64 (n : Int) (n : Int) (by omega) (by omega) (by
    have h : ((b * n : Nat) : Int) ≤ 281474976710656 := Int.ofNat_le.2 hn
    rw [hb]
    rwa [Int.natCast_mul] at h) (by omega)
  have hc : madeCells (Value.int k 0).cells ((n : Int).toNat * i.size) = ints k (List.replicate n 0) := by
    rw [hs, ints_replicate]
    apply Array.ext'
    show (madeCells #[Value.int k 0] _).toList = _
    rw [toList_madeCells_one]
    simp
  rw [hc] at hr
  refine st_run (w1 := w.alloc (.cells (ints k (List.replicate n 0)) e)) (v := .slice (some ⟨w.heap.size, 0, none⟩) n n) hw ?_ (kk _ _ ((Below.refl _ _).alloc (Nat.le_refl _) _) (hE.alloc e _))
  unfold execOp
  simp only [ho, hx, hy, Sem.run_bind, hr, Result.andThen_ok, Sem.run_pure]
  rfl

theorem st_skipRun {w1 : World} (hw : Region.wanted o (yielded ops a.tmps) = true) (h : (execOp a.eval o).run P w = .ok .skip w1) (k : K (a.put o.dst undef) w1) : Step P ops Q o K a w := by
  unfold Step
  rw [if_pos hw]
  unfold Oper.wp
  rw [h]
  exact k

/-- A store of a whole block. -/
theorem st_store {ty : TypeId} {x y : Operand} {g i : Nat} {T : TypeId} {cs cs' : Array Value} (hE : Env w0 l w) (hw : Region.wanted o (yielded ops a.tmps) = true) (ho : o.op = .store ty x y) (hx : a.eval x = .pointer (some ⟨g, 0, none⟩)) (hy : a.eval y = .agg cs')
    (hi : l[i]? = some ⟨g, T, cs⟩) (hs : (P.info? ty).map (·.size) = some cs'.size) (hsz : cs.size = cs'.size) (h1 : cs'.all (·.oneCell') = true)
    (k : ∀ w1, Env w0 (l.set i ⟨g, T, cs'⟩) w1 → K (a.put o.dst undef) w1) : Step P ops Q o K a w := by
  refine st_skipRun (w1 := w.setRow g cs') hw ?_ (k _ (hE.store hi cs'))
  unfold execOp
  simp only [ho, hx, hy, Instr.storeAt, Instr.sureAddr, Sem.run_bind, Sem.run_pure, Result.andThen_ok, run_storeVar_row w g T ty cs cs' (hE.get hi) hs hsz h1]

/-- A store into one cell. -/
theorem st_cell {g i j : Nat} {T : TypeId} {cs : Array Value} {v : Value} (hE : Env w0 l w) (hw : Region.wanted o (yielded ops a.tmps) = true) (hi : l[i]? = some ⟨g, T, cs⟩)
    (h : (execOp a.eval o).run P w = .ok .skip (w.setCell ⟨g, j, none⟩ v))
    (k : ∀ w1, Env w0 (l.set i ⟨g, T, cs.setIfInBounds j v⟩) w1 → K (a.put o.dst undef) w1) : Step P ops Q o K a w :=
  st_skipRun hw h (k _ (hE.setCell hi j v))

/-! ### What only reads -/
theorem v_run (h : ∀ w, (execOp a.eval o).run P w = .ok (.value v) w) : Val P o a v w := fun w1 _ => h w1
theorem v_move {x : Operand} (ho : o.op = .move x ∨ o.op = .assign x) (hx : a.eval x = v) : Val P o a v w := v_run fun w => by
  unfold execOp
  rcases ho with ho | ho <;> simp only [ho, hx, Sem.run_pure]
theorem v_moveT {t : Tmp} {tl : List Value} (ho : o.op = .move (.tmp t) ∨ o.op = .assign (.tmp t)) (hx : a.tmps.toList.drop t = v :: tl) : Val P o a v w := by
  have h : a.eval (.tmp t) = v := by
    have : (a.tmps.toList.drop t)[0]? = some v := by rw [hx]; rfl
    rw [List.getElem?_drop] at this
    show a.tmps.getD t undef = v
    rw [Array.getD_eq_getD_getElem?, ← Array.getElem?_toList]
    simp only [Nat.add_zero] at this
    rw [this]
    rfl
  exact v_move ho h
theorem v_moveC (ho : o.op = .move (.const v) ∨ o.op = .assign (.const v)) : Val P o a v w := v_move ho rfl
theorem v_load {ty : TypeId} {x : Operand} {g i : Nat} {T : TypeId} {cs : Array Value} {d : TypeDesc} (hE : Env w0 l w) (ho : o.op = .load ty x) (hx : a.eval x = .pointer (some ⟨g, 0, none⟩))
    (hi : l[i]? = some ⟨g, T, cs⟩) (hu : P.underlying ty = some d) (hd : (match d with | .struct _ | .array _ _ => true | _ => false) = true) (hs : (P.info? ty).map (·.size) = some cs.size) : Val P o a (.agg cs) w := fun w1 hb => by
  unfold execOp
  simp only [ho, hx, Instr.loadAt, Instr.sureAddr, Sem.run_bind, Sem.run_pure, Result.andThen_ok, run_loadVar_row w1 g T ty cs (0, 0) d ((hE.call hb).get hi) hu hd hs]
theorem v_bin {op : BinOp} {t t' : TypeId} {x y : Operand} {k k' : IntKind} {m n : Int} (ho : o.op = .binOp op t x y t') (hx : a.eval x = .int k m) (hy : a.eval y = .int k' n) (h : ∀ w, (binOp op t (.int k m) (.int k' n)).run P w = .ok v w) : Val P o a v w := v_run fun w => by
  unfold execOp
  simp only [ho, hx, hy, eqGuard, Sem.run_bind, Sem.run_pure]
  split <;> simp [Sem.run_bind, Sem.run_pure, h]

theorem v_add {t t' : TypeId} {x y : Operand} {k : IntKind} {m n r : Nat} (ho : o.op = .binOp .add t x y t') (hx : a.eval x = .int k (m : Int)) (hy : a.eval y = .int k (n : Int)) (hr : k.wrap ((m + n : Nat) : Int) = (r : Int)) : Val P o a (.int k (r : Int)) w :=
  v_bin ho hx hy fun w => by simp [binOp, Op.intArith, Sem.run_pure, ← hr]
theorem v_mul {t t' : TypeId} {x y : Operand} {k : IntKind} {m n r : Nat} (ho : o.op = .binOp .mul t x y t') (hx : a.eval x = .int k (m : Int)) (hy : a.eval y = .int k (n : Int)) (hr : k.wrap ((m * n : Nat) : Int) = (r : Int)) : Val P o a (.int k (r : Int)) w :=
  v_bin ho hx hy fun w => by simp [binOp, Op.intArith, Sem.run_pure, ← hr]
theorem v_sub {t t' : TypeId} {x y : Operand} {k : IntKind} {m n : Nat} {r : Int} (ho : o.op = .binOp .sub t x y t') (hx : a.eval x = .int k (m : Int)) (hy : a.eval y = .int k (n : Int)) (hr : k.wrap ((m : Int) - (n : Int)) = r) : Val P o a (.int k r) w :=
  v_bin ho hx hy fun w => by simp [binOp, Op.intArith, Sem.run_pure, ← hr]
theorem v_addI {t t' : TypeId} {x y : Operand} {k : IntKind} {m n r : Int} (ho : o.op = .binOp .add t x y t') (hx : a.eval x = .int k m) (hy : a.eval y = .int k n) (hr : k.wrap (m + n) = r) : Val P o a (.int k r) w :=
  v_bin ho hx hy fun w => by simp [binOp, Op.intArith, Sem.run_pure, ← hr]
theorem v_subI {t t' : TypeId} {x y : Operand} {k : IntKind} {m n r : Int} (ho : o.op = .binOp .sub t x y t') (hx : a.eval x = .int k m) (hy : a.eval y = .int k n) (hr : k.wrap (m - n) = r) : Val P o a (.int k r) w :=
  v_bin ho hx hy fun w => by simp [binOp, Op.intArith, Sem.run_pure, ← hr]
theorem v_quo {t t' : TypeId} {x y : Operand} {k : IntKind} {m n r : Nat} (ho : o.op = .binOp .quo t x y t') (hx : a.eval x = .int k (m : Int)) (hy : a.eval y = .int k (n : Int)) (h0 : 0 < n) (hr : k.wrap ((m / n : Nat) : Int) = (r : Int)) : Val P o a (.int k (r : Int)) w :=
  v_bin ho hx hy fun w => by
    have : ¬ (n : Int) = 0 := by omega
    simp only [binOp, Op.intDiv, this, if_false, ne_eq, not_true_eq_false, Sem.run_pure]
    rw [Int.tdiv_eq_ediv_of_nonneg (by omega), ← hr]
    simp
theorem v_rem {t t' : TypeId} {x y : Operand} {k : IntKind} {m n : Nat} (ho : o.op = .binOp .rem t x y t') (hx : a.eval x = .int k (m : Int)) (hy : a.eval y = .int k (n : Int)) (h0 : 0 < n) : Val P o a (.int k ((m % n : Nat) : Int)) w :=
  v_bin ho hx hy fun w => by
    have : ¬ (n : Int) = 0 := by omega
    simp only [binOp, Op.intDiv, this, if_false, ne_eq, not_true_eq_false, Sem.run_pure]
    rw [Int.tmod_eq_emod_of_nonneg (by omega)]
    simp
theorem v_lss {t t' : TypeId} {x y : Operand} {k : IntKind} {m n : Nat} (ho : o.op = .binOp .lss t x y t') (hx : a.eval x = .int k (m : Int)) (hy : a.eval y = .int k (n : Int)) : Val P o a (.bool (decide (m < n))) w :=
  v_bin ho hx hy fun w => by simp [binOp, Op.intCmp, Sem.run_pure]
theorem v_leq {t t' : TypeId} {x y : Operand} {k : IntKind} {m n : Nat} (ho : o.op = .binOp .leq t x y t') (hx : a.eval x = .int k (m : Int)) (hy : a.eval y = .int k (n : Int)) : Val P o a (.bool (decide (m ≤ n))) w :=
  v_bin ho hx hy fun w => by simp [binOp, Op.intCmp, Sem.run_pure]
theorem v_gtr {t t' : TypeId} {x y : Operand} {k : IntKind} {m n : Nat} (ho : o.op = .binOp .gtr t x y t') (hx : a.eval x = .int k (m : Int)) (hy : a.eval y = .int k (n : Int)) : Val P o a (.bool (decide (n < m))) w :=
  v_bin ho hx hy fun w => by simp [binOp, Op.intCmp, Sem.run_pure]
theorem v_geq {t t' : TypeId} {x y : Operand} {k : IntKind} {m n : Nat} (ho : o.op = .binOp .geq t x y t') (hx : a.eval x = .int k (m : Int)) (hy : a.eval y = .int k (n : Int)) : Val P o a (.bool (decide (n ≤ m))) w :=
  v_bin ho hx hy fun w => by simp [binOp, Op.intCmp, Sem.run_pure]
theorem v_eql {t t' : TypeId} {x y : Operand} {k : IntKind} {m n : Nat} (ho : o.op = .binOp .eql t x y t') (hx : a.eval x = .int k (m : Int)) (hy : a.eval y = .int k (n : Int)) : Val P o a (.bool (decide (m = n))) w :=
  v_bin ho hx hy fun w => by
    have : ((m : Int) == (n : Int)) = decide (m = n) := by rw [Bool.eq_iff_iff]; simp; omega
    simp [binOp, Op.intCmp, Sem.run_pure, this]
theorem v_neq {t t' : TypeId} {x y : Operand} {k : IntKind} {m n : Nat} (ho : o.op = .binOp .neq t x y t') (hx : a.eval x = .int k (m : Int)) (hy : a.eval y = .int k (n : Int)) : Val P o a (.bool (decide (m ≠ n))) w :=
  v_bin ho hx hy fun w => by
    have : ((m : Int) != (n : Int)) = decide (m ≠ n) := by rw [Bool.eq_iff_iff]; simp; omega
    simp [binOp, Op.intCmp, Sem.run_pure, this]
theorem v_lssI {t t' : TypeId} {x y : Operand} {k : IntKind} {m n : Int} (ho : o.op = .binOp .lss t x y t') (hx : a.eval x = .int k m) (hy : a.eval y = .int k n) : Val P o a (.bool (decide (m < n))) w :=
  v_bin ho hx hy fun w => by simp [binOp, Op.intCmp, Sem.run_pure]
theorem v_geqI {t t' : TypeId} {x y : Operand} {k : IntKind} {m n : Int} (ho : o.op = .binOp .geq t x y t') (hx : a.eval x = .int k m) (hy : a.eval y = .int k n) : Val P o a (.bool (decide (n ≤ m))) w :=
  v_bin ho hx hy fun w => by simp [binOp, Op.intCmp, Sem.run_pure]
theorem v_not {t : TypeId} {x : Operand} {b : Bool} (ho : o.op = .unOp .not t x) (hx : a.eval x = .bool b) : Val P o a (.bool (!b)) w := v_run fun w => by
  unfold execOp
  simp [ho, hx, Op.unary, Sem.run_bind, Sem.run_pure]
theorem v_and {c x : Operand} {p q : Bool} (ho : o.op = .pick c x (.const (.bool false))) (hc : a.eval c = .bool p) (hx : p = true → a.eval x = .bool q) : Val P o a (.bool (p && q)) w := v_run fun w => by
  unfold execOp
  have he : a.eval (.const (.bool false)) = .bool false := rfl
  cases p
  · simp [ho, hc, he, asBool, Sem.run_bind, Sem.run_pure]
  · simp [ho, hc, hx rfl, asBool, Sem.run_bind, Sem.run_pure]
theorem v_andF {c x : Operand} (ho : o.op = .pick c x (.const (.bool false))) (hc : a.eval c = .bool false) : Val P o a (.bool false) w := by
  have h := v_and (P := P) (w := w) (q := false) ho hc (fun h => by cases h)
  exact h
theorem v_orT {c x : Operand} (ho : o.op = .pick c (.const (.bool true)) x) (hc : a.eval c = .bool true) : Val P o a (.bool true) w := v_run fun w => by
  unfold execOp
  have he : a.eval (.const (.bool true)) = .bool true := rfl
  simp [ho, hc, he, asBool, Sem.run_bind, Sem.run_pure]
theorem v_or {c x : Operand} {p q : Bool} (ho : o.op = .pick c (.const (.bool true)) x) (hc : a.eval c = .bool p) (hx : p = false → a.eval x = .bool q) : Val P o a (.bool (p || q)) w := v_run fun w => by
  unfold execOp
  have he : a.eval (.const (.bool true)) = .bool true := rfl
  cases p
  · simp [ho, hc, hx rfl, asBool, Sem.run_bind, Sem.run_pure]
  · simp [ho, hc, he, asBool, Sem.run_bind, Sem.run_pure]
theorem v_extract {x : Operand} {i : Nat} {vs : Array Value} {tl : List Value} (ho : o.op = .extract x i) (hx : a.eval x = .tuple vs) (hv' : vs.toList.drop i = v :: tl) : Val P o a v w := v_run fun w => by
  have hv : vs[i]? = some v := by
    have : (vs.toList.drop i)[0]? = some v := by rw [hv']; rfl
    rw [List.getElem?_drop] at this
    simpa using this
  unfold execOp
  simp [ho, hx, Instr.extract, hv, Sem.run_bind, Sem.run_pure]
theorem v_convInt {s d : TypeId} {x : Operand} {k j : IntKind} {m r : Nat} {ds : TypeDesc} (ho : o.op = .convert s d x) (hx : a.eval x = .int k (m : Int)) (hs : P.underlying s = some ds) (hd : P.underlying d = some (.int j)) (hr : j.wrap (m : Int) = (r : Int)) : Val P o a (.int j (r : Int)) w := v_run fun w => by
  unfold execOp
  simp only [ho, hx, convert, Sem.run_bind, run_underlying hs, run_underlying hd, Result.andThen_ok]
  simp [Conv.intToInt, Sem.run_pure, hr]
theorem v_nil {x : Operand} {ad : Addr} (ho : o.op = .nilCheck x) (hx : a.eval x = .pointer (some ad)) : Val P o a (.pointer (some ad)) w := v_run fun w => by
  unfold execOp
  simp [ho, hx, Sem.run_pure]
theorem v_len {s : Operand} {t e : TypeId} {p : Option Addr} {n c : Nat} (ho : o.op = .call { callee := .builtin .len, args := #[s], argTypes := #[t] }) (hs : a.eval s = .slice p n c) (ht : P.underlying t = some (.slice e)) (hn : n < 9223372036854775808) : Val P o a (.int .i64 (n : Int)) w := v_run fun w => by
  have hg : goInt (n : Int) = .int .i64 (n : Int) := by
    unfold goInt
    first | rfl | (simp; rw [IntKind.wrap_i64]; omega)
  unfold execOp
  simp [ho, hs, resolve, invoke, builtin, Builtin.len_, run_underlying ht, Sem.run_bind, Sem.run_pure, hg]

theorem addr_add (g off n : Nat) : (⟨g, off, none⟩ : Addr).add n = ⟨g, off + n, none⟩ := by
  unfold Addr.add
  split
  · rename_i h; subst h; rfl
  · rfl
theorem v_cell {ty : TypeId} {x : Operand} {ad : Addr} {d : TypeDesc} (ho : o.op = .load ty x) (hx : a.eval x = .pointer (some ad)) (hu : P.underlying ty = some d) (hd : (match d with | .struct _ | .array _ _ => false | _ => true) = true)
    (hc : ∀ w1, Below w.heap.size w w1 → w1.cell? ad = some v) : Val P o a v w := fun w1 hb => by
  have hagg : (isAgg ty).run P w1 = .ok false w1 := by
    unfold isAgg
    simp only [Sem.run_bind, run_underlying hu, Result.andThen_ok]
    cases d <;> first | (simp at hd; done) | simp [Sem.run_pure]
  unfold execOp
  simp only [ho, hx, Instr.loadAt, Instr.sureAddr, Sem.run_bind, Sem.run_pure, Result.andThen_ok, loadVar, hagg]
  simp [load, Sem.run, hc w1 hb]
/-- A cell of a block that the call knows. -/
theorem Env.cellv {g i j : Nat} {T : TypeId} {cs : Array Value} (hE : Env w0 l w) (hi : l[i]? = some ⟨g, T, cs⟩) (hv : cs[j]? = some v) : ∀ w1, Below w.heap.size w w1 → w1.cell? ⟨g, j, none⟩ = some v := fun w1 hb => by
  rw [(hE.call hb).cell hi j, hv]
theorem size_run {e : TypeId} {s : Nat} (h : (P.info? e).map (·.size) = some s) (w : World) : (sizeOf e).run P w = .ok s w := by
  cases hi : P.info? e with
  | none => rw [hi] at h; cases h
  | some i =>
    rw [hi] at h
    injection h with h
    simp [sizeOf, typeInfo, hi, h]
theorem v_indexS {t e : TypeId} {x y : Operand} {g off n c j : Nat} {k : IntKind} (ho : o.op = .indexAddr t x y) (hx : a.eval x = .slice (some ⟨g, off, none⟩) n c) (hy : a.eval y = .int k (j : Int)) (ht : P.underlying t = some (.slice e))
    (hs : (P.info? e).map (·.size) = some 1) (hj : j < n) : Val P o a (.pointer (some ⟨g, off + j, none⟩)) w := v_run fun w => by
  have h1 : (0 : Int) ≤ (j : Int) ∧ (j : Int) < (n : Int) := by omega
  unfold execOp
  simp only [ho, hx, hy, Instr.indexAt, asIntOf, Sem.run_bind, Sem.run_pure, run_underlying ht, Result.andThen_ok, if_pos h1, size_run hs, Nat.mul_one, Int.toNat_natCast, addr_add]
theorem v_indexA {t e : TypeId} {x y : Operand} {g off n j s : Nat} {k : IntKind} (ho : o.op = .indexAddr t x y) (hx : a.eval x = .pointer (some ⟨g, off, none⟩)) (hy : a.eval y = .int k (j : Int)) (ht : P.underlying t = some (.array n e))
    (hs : (P.info? e).map (·.size) = some s) (hj : j < n) : Val P o a (.pointer (some ⟨g, off + j * s, none⟩)) w := v_run fun w => by
  have h1 : (0 : Int) ≤ (j : Int) ∧ (j : Int) < (n : Int) := by omega
  unfold execOp
  simp only [ho, hx, hy, Instr.indexAt, Instr.sureAddr, asIntOf, Sem.run_bind, Sem.run_pure, run_underlying ht, Result.andThen_ok, if_pos h1, size_run hs, Int.toNat_natCast, addr_add]
theorem v_indexS0 {t e : TypeId} {x y : Operand} {g n c j : Nat} {k : IntKind} (ho : o.op = .indexAddr t x y) (hx : a.eval x = .slice (some ⟨g, 0, none⟩) n c) (hy : a.eval y = .int k (j : Int)) (ht : P.underlying t = some (.slice e))
    (hs : (P.info? e).map (·.size) = some 1) (hj : j < n) : Val P o a (.pointer (some ⟨g, j, none⟩)) w := by
  have h := v_indexS (w := w) ho hx hy ht hs hj
  rwa [Nat.zero_add] at h
theorem v_indexA0 {t e : TypeId} {x y : Operand} {g n j : Nat} {k : IntKind} (ho : o.op = .indexAddr t x y) (hx : a.eval x = .pointer (some ⟨g, 0, none⟩)) (hy : a.eval y = .int k (j : Int)) (ht : P.underlying t = some (.array n e))
    (hs : (P.info? e).map (·.size) = some 1) (hj : j < n) : Val P o a (.pointer (some ⟨g, j, none⟩)) w := by
  have h := v_indexA (w := w) ho hx hy ht hs hj
  rwa [Nat.zero_add, Nat.mul_one] at h
theorem run_put {w : World} {ty g j : Nat} {v old : Value} (hs : (P.info? ty).map (·.size) = some 1) (hv : v.cells = #[v]) (h1 : v.oneCell' = true) (hc : w.cell? ⟨g, j, none⟩ = some old) (hf : w.frozen? ⟨g, j, none⟩ = false) :
    (storeVar ty ⟨g, j, none⟩ v).run P w = .ok () (w.setCell ⟨g, j, none⟩ v) := by
  unfold storeVar
  simp only [hv, Sem.run_bind, size_run hs, Result.andThen_ok]
  cases v <;> first | (simp [Value.oneCell'] at h1; done) | simp [storeCells, store, Sem.run, hc, hf, Addr.add]
/-- A store of one cell. -/
theorem st_put {ty : TypeId} {x y : Operand} {g i j : Nat} {T : TypeId} {cs : Array Value} {v : Value} (hE : Env w0 l w) (hw : Region.wanted o (yielded ops a.tmps) = true) (ho : o.op = .store ty x y) (hx : a.eval x = .pointer (some ⟨g, j, none⟩)) (hy : a.eval y = v)
    (hi : l[i]? = some ⟨g, T, cs⟩) (hs : (P.info? ty).map (·.size) = some 1) (hv : v.cells = #[v]) (h1 : v.oneCell' = true) (hj : j < cs.size)
    (k : ∀ w1, Env w0 (l.set i ⟨g, T, cs.setIfInBounds j v⟩) w1 → K (a.put o.dst undef) w1) : Step P ops Q o K a w := by
  refine st_cell (j := j) (v := v) hE hw hi ?_ k
  have hc := hE.cell hi j
  rw [Array.getElem?_eq_getElem hj] at hc
  unfold execOp
  simp only [ho, hx, hy, Instr.storeAt, Instr.sureAddr, Sem.run_bind, Sem.run_pure, Result.andThen_ok, run_put hs hv h1 hc (hE.frozen hi j)]
theorem v_indexSs {t e : TypeId} {x y : Operand} {g off n c j s : Nat} {k : IntKind} (ho : o.op = .indexAddr t x y) (hx : a.eval x = .slice (some ⟨g, off, none⟩) n c) (hy : a.eval y = .int k (j : Int)) (ht : P.underlying t = some (.slice e))
    (hs : (P.info? e).map (·.size) = some s) (hj : j < n) : Val P o a (.pointer (some ⟨g, off + j * s, none⟩)) w := v_run fun w => by
  have h1 : (0 : Int) ≤ (j : Int) ∧ (j : Int) < (n : Int) := by omega
  unfold execOp
  simp only [ho, hx, hy, Instr.indexAt, asIntOf, Sem.run_bind, Sem.run_pure, run_underlying ht, Result.andThen_ok, if_pos h1, size_run hs, Int.toNat_natCast, addr_add]
/-- A load of a row in the midst of a block. -/
theorem v_loadMid {ty : TypeId} {x : Operand} {b off : Nat} {cs : Array Value} {d : TypeDesc} (ho : o.op = .load ty x) (hx : a.eval x = .pointer (some ⟨b, off, none⟩)) (hc : ∀ w1, Below w.heap.size w w1 → w1.rangeAt b off cs.toList)
    (hu : P.underlying ty = some d) (hd : d.isRow = true) (hs : (P.info? ty).map (·.size) = some cs.size) : Val P o a (.agg cs) w := fun w1 hb => by
  have h := run_loadVar_mid (P := P) w1 b off ty cs.toList d (hc w1 hb) hu hd (by simpa using hs)
  unfold execOp
  simp only [ho, hx, Instr.loadAt, Instr.sureAddr, Sem.run_bind, Sem.run_pure, Result.andThen_ok, h, Array.toArray_toList]
theorem range_below {W w1 : World} {b off : Nat} {cs : List Value} (h : W.rangeAt b off cs) (hb : Below W.heap.size W w1) : w1.rangeAt b off cs := fun j v hv => by
  have h1 := h j v hv
  exact (hb.cell (World.block_lt_of_cell? _ _ h1)).trans h1
/-- A store of a number into a row of numbers. -/
theorem st_putN {ty : TypeId} {x y : Operand} {g i j n : Nat} {T : TypeId} {X : List Nat} {k : IntKind} (hE : Env w0 l w) (hw : Region.wanted o (yielded ops a.tmps) = true) (ho : o.op = .store ty x y) (hx : a.eval x = .pointer (some ⟨g, j, none⟩)) (hy : a.eval y = .int k (n : Int))
    (hi : l[i]? = some ⟨g, T, ints k X⟩) (hs : (P.info? ty).map (·.size) = some 1) (hj : j < X.length)
    (kk : ∀ w1, Env w0 (l.set i ⟨g, T, ints k (X.set j n)⟩) w1 → K (a.put o.dst undef) w1) : Step P ops Q o K a w :=
  st_put (v := .int k (n : Int)) hE hw ho hx hy hi hs rfl rfl (by rw [ints_size]; exact hj) (by rw [ints_set]; exact kk)
theorem v_field {t : TypeId} {x : Operand} {g off f s : Nat} {fs : Array Field} {fd : Field} (ho : o.op = .fieldAddr t x f) (hx : a.eval x = .pointer (some ⟨g, off, none⟩)) (ht : P.underlying t = some (.struct fs)) (hf : fs[f]? = some fd)
    (hs : (P.info? fd.type).map (·.size) = some (s + 1)) : Val P o a (.pointer (some ⟨g, off + fd.offset, none⟩)) w := v_run fun w => by
  unfold execOp
  simp only [ho, hx, Instr.fieldAt, Instr.sureAddr, fieldPlace, Sem.run_bind, Sem.run_pure, run_underlying ht, Result.andThen_ok, hf, size_run hs, addr_add]
  simp [Sem.run_pure]
/-- A field's address. -/
theorem v_fieldK {t : TypeId} {x : Operand} {g off f s k : Nat} {fs : Array Field} {fd : Field} {tl : List Field} (ho : o.op = .fieldAddr t x f) (hx : a.eval x = .pointer (some ⟨g, off, none⟩)) (ht : P.underlying t = some (.struct fs)) (hf' : fs.toList.drop f = fd :: tl)
    (hs : (P.info? fd.type).map (·.size) = some (s + 1)) (hk : fd.offset = k) : Val P o a (.pointer (some ⟨g, off + k, none⟩)) w := by
  subst hk
  have hf : fs[f]? = some fd := by
    have : (fs.toList.drop f)[0]? = some fd := by rw [hf']; rfl
    rw [List.getElem?_drop] at this
    simpa using this
  exact v_field ho hx ht hf hs
theorem v_field0 {t : TypeId} {x : Operand} {g off f s : Nat} {fs : Array Field} {fd : Field} {tl : List Field} (ho : o.op = .fieldAddr t x f) (hx : a.eval x = .pointer (some ⟨g, off, none⟩)) (ht : P.underlying t = some (.struct fs)) (hf' : fs.toList.drop f = fd :: tl)
    (hs : (P.info? fd.type).map (·.size) = some (s + 1)) (hk : fd.offset = 0) : Val P o a (.pointer (some ⟨g, off, none⟩)) w := v_fieldK ho hx ht hf' hs hk
theorem v_fieldB {t : TypeId} {x : Operand} {g f s k : Nat} {fs : Array Field} {fd : Field} {tl : List Field} (ho : o.op = .fieldAddr t x f) (hx : a.eval x = .pointer (some ⟨g, 0, none⟩)) (ht : P.underlying t = some (.struct fs)) (hf' : fs.toList.drop f = fd :: tl)
    (hs : (P.info? fd.type).map (·.size) = some (s + 1)) (hk : fd.offset = k) : Val P o a (.pointer (some ⟨g, k, none⟩)) w := by
  have h := v_fieldK (w := w) ho hx ht hf' hs hk
  rwa [Nat.zero_add] at h
theorem v_indexAs {t e : TypeId} {x y : Operand} {g n j s : Nat} {k : IntKind} (ho : o.op = .indexAddr t x y) (hx : a.eval x = .pointer (some ⟨g, 0, none⟩)) (hy : a.eval y = .int k (j : Int)) (ht : P.underlying t = some (.array n e))
    (hs : (P.info? e).map (·.size) = some s) (hj : j < n) : Val P o a (.pointer (some ⟨g, j * s, none⟩)) w := by
  have h := v_indexA (w := w) ho hx hy ht hs hj
  rwa [Nat.zero_add] at h
/-- A call of a function that the model stands in for. -/
theorem v_extern {f : FuncId} {L : List Operand} {ts : Array TypeId} (ho : o.op = .call { callee := .value (.func f), args := L.toArray, argTypes := ts }) (h : ∀ w, (callFunc f (L.map a.eval).toArray).run P w = .ok (.value v) w) : Val P o a v w := v_run fun w => by
  unfold execOp
  simp only [ho, resolve, Act.eval, Deferred.ofValue, Sem.run_bind, Sem.run_pure, Result.andThen_ok, invoke]
  simp [h]
/-- A part of a block of numbers. -/
theorem v_loadPart {ty : TypeId} {x : Operand} {g i k n : Nat} {T : TypeId} {X : List Nat} {kd : IntKind} {d : TypeDesc} (hE : Env w0 l w) (ho : o.op = .load ty x) (hx : a.eval x = .pointer (some ⟨g, k, none⟩)) (hi : l[i]? = some ⟨g, T, ints kd X⟩)
    (hu : P.underlying ty = some d) (hd : d.isRow = true) (hs : (P.info? ty).map (·.size) = some n) (hn : k + n ≤ X.length) : Val P o a (.agg (ints kd ((X.drop k).take n))) w :=
  v_loadMid ho hx (fun w1 hb => by
    have h := World.rangeAt_of_block ((hE.call hb).get hi) k n
    have e : ((ints kd X).extract k (k + n)).toList = (ints kd ((X.drop k).take n)).toList := by simp [ints, List.map_take, List.map_drop]
    rwa [e] at h) hu hd (sz_of hs (by simp [ints]; omega))
theorem Env.setCells : ∀ (vs : List Value) {w : World} {l : List Blk} {g i : Nat} {T : TypeId} {cs : Array Value} (o : Nat), Env w0 l w → l[i]? = some ⟨g, T, cs⟩ →
    Env w0 (l.set i ⟨g, T, (vs.zipIdx o).foldl (fun c x => c.setIfInBounds x.2 x.1) cs⟩) (w.setCells g o vs)
  | [], w, l, g, i, T, cs, o, h, hi => by
    obtain ⟨hil, hli⟩ := List.getElem?_eq_some_iff.1 hi
    rw [List.zipIdx_nil, List.foldl_nil, ← hli, List.set_getElem_self]
    exact h
  | v :: vs, w, l, g, i, T, cs, o, h, hi => by
    have hil := (List.getElem?_eq_some_iff.1 hi).1
    have h1 := Env.setCells vs (o + 1) (h.setCell hi o v) (i := i) (g := g) (T := T) (cs := cs.setIfInBounds o v) (by rw [List.getElem?_set_self hil])
    rw [List.set_set] at h1
    exact h1
theorem fold_ints (kd : IntKind) : ∀ (Y X : List Nat) (o : Nat), o + Y.length ≤ X.length → ((ints kd Y).toList.zipIdx o).foldl (fun (c : Array Value) x => c.setIfInBounds x.2 x.1) (ints kd X) = ints kd (X.take o ++ Y ++ X.drop (o + Y.length))
  | [], X, o, _ => by simp [ints]
  | y :: Y, X, o, h => by
    rw [List.length_cons] at h
    have e : (ints kd (y :: Y)).toList = .int kd (y : Int) :: (ints kd Y).toList := rfl
    rw [e, List.zipIdx_cons, List.foldl_cons]
    simp only []
    rw [ints_set, fold_ints kd Y (X.set o y) (o + 1) (by simp; omega)]
    congr 1
    have h1 : (X.set o y).take (o + 1) = X.take o ++ [y] := by
      rw [List.take_succ_eq_append_getElem (by simp; omega), List.take_set, List.getElem_set_self, List.set_eq_of_length_le (by simp; omega)]
    have h2 : (X.set o y).drop (o + 1 + Y.length) = X.drop (o + (Y.length + 1)) := by
      rw [List.drop_set_of_lt (by omega)]
      congr 1
      omega
    rw [h1, h2]
    simp
/-- A store of a part of a block of numbers. -/
theorem st_putPart {ty : TypeId} {x y : Operand} {g i k n : Nat} {T : TypeId} {X Y : List Nat} {kd : IntKind} (hE : Env w0 l w) (hw : Region.wanted o (yielded ops a.tmps) = true) (ho : o.op = .store ty x y) (hx : a.eval x = .pointer (some ⟨g, k, none⟩)) (hy : a.eval y = .agg (ints kd Y))
    (hi : l[i]? = some ⟨g, T, ints kd X⟩) (hs : (P.info? ty).map (·.size) = some n) (hY : Y.length = n) (hn : k + n ≤ X.length)
    (kk : ∀ w1, Env w0 (l.set i ⟨g, T, ints kd (X.take k ++ Y ++ X.drop (k + n))⟩) w1 → K (a.put o.dst undef) w1) : Step P ops Q o K a w := by
  subst hY
  have hth : w.there g k (ints kd Y).size := fun j hj => by
    rw [ints_size] at hj
    refine ⟨?_, hE.frozen hi _⟩
    rw [hE.cell hi, ints_get? _ _ _ (by omega)]
    rfl
  have h := run_storeVar_mid (P := P) w g k ty (ints kd Y) hth (sz_of hs (ints_size _ _)) (ints_one _ _)
  refine st_skipRun (w1 := w.setCells g k (ints kd Y).toList) hw ?_ (kk _ ?_)
  · unfold execOp
    simp only [ho, hx, hy, Instr.storeAt, Instr.sureAddr, Sem.run_bind, Sem.run_pure, Result.andThen_ok, h]
  · have h2 := Env.setCells (ints kd Y).toList k hE hi
    rwa [fold_ints kd Y X k hn] at h2
/-- A part of a value of numbers. -/
theorem v_fieldV {t : TypeId} {x : Operand} {f n : Nat} {kd : IntKind} {X : List Nat} {fs : Array Field} {fd : Field} {tl : List Field} {k : Nat} (ho : o.op = .field t x f) (hx : a.eval x = .agg (ints kd X)) (ht : P.underlying t = some (.struct fs)) (hf' : fs.toList.drop f = fd :: tl) (hk : fd.offset = k)
    (hag : ∀ w, (isAgg fd.type).run P w = .ok true w) (hs : (P.info? fd.type).map (·.size) = some n) (hn : k + n ≤ X.length) : Val P o a (.agg (ints kd ((X.drop k).take n))) w := v_run fun w => by
  subst hk
  have hf : fs[f]? = some fd := by
    have : (fs.toList.drop f)[0]? = some fd := by rw [hf']; rfl
    rw [List.getElem?_drop] at this
    simpa using this
  unfold execOp
  have e : (ints kd X).extract fd.offset (fd.offset + n) = ints kd ((X.drop fd.offset).take n) := by
    apply Array.ext'
    simp [ints, List.map_take, List.map_drop]
  simp only [ho, hx, Instr.field, Sem.run_bind, run_underlying ht, Result.andThen_ok, hf, asAgg, Sem.run_pure, part, hag, if_true, size_run hs, e]
theorem v_fieldW {t : TypeId} {x : Operand} {f n : Nat} {kd : IntKind} {X : List Nat} {fs : Array Field} {fd : Field} {tl : List Field} (ho : o.op = .field t x f) (hx : a.eval x = .agg (ints kd X)) (ht : P.underlying t = some (.struct fs)) (hf' : fs.toList.drop f = fd :: tl) (hk : fd.offset = 0)
    (hag : ∀ w, (isAgg fd.type).run P w = .ok true w) (hs : (P.info? fd.type).map (·.size) = some n) (hn : X.length = n) : Val P o a (.agg (ints kd X)) w := by
  have h := v_fieldV (w := w) ho hx ht hf' hk hag hs (by omega)
  rwa [List.drop_zero, List.take_of_length_le (by omega)] at h
theorem v_idx {t e : TypeId} {x y : Operand} {n : Nat} {k kj : IntKind} {cs : List Nat} {j : Nat} {i : TypeInfo} (ho : o.op = .index t x y) (hx : a.eval x = .agg (ints k cs)) (hy : a.eval y = .int kj (j : Int)) (ht : P.underlying t = some (.array n e))
    (hi : P.info? e = some i) (hs : i.size = 1) (hu : P.underlying e = some (.int k)) (hl : cs.length = n) (hj : j < n) : Val P o a (.int k (cs.getD j 0 : Nat)) w := v_run fun w => by
  have hv := ints_get? k cs j (by omega)
  unfold execOp
  simp [ho, hx, hy, Instr.index, asIntOf, run_underlying ht, part, isAgg, run_underlying hu, sizeOf, typeInfo, hi, hs, hj, hv]
theorem v_sliceAll {t e : TypeId} {x : Operand} {g n : Nat} (ho : o.op = .slice t x none none none) (hx : a.eval x = .pointer (some ⟨g, 0, none⟩)) (ht : P.underlying t = some (.array n e)) (hs : ((P.info? e).map (·.size)).isSome = true) : Val P o a (.slice (some ⟨g, 0, none⟩) n n) w := v_run fun w => by
  obtain ⟨s, hs⟩ := Option.isSome_iff_exists.1 hs
  unfold execOp
  simp [ho, hx, Instr.sliceAt, Instr.sliceBounds, Instr.sureAddr, run_underlying ht, size_run hs, Sem.run_bind, Sem.run_pure, Addr.add]

theorem shr_nat (k : IntKind) (m s : Nat) (hs : s ≤ k.bits) (yk : IntKind) (w : World) : (Op.shift .shr k (m : Int) yk (s : Int)).run P w = .ok (.int k ((m / 2 ^ s : Nat) : Int)) w := by
  have h0 : ¬ ((s : Nat) : Int) < 0 := by omega
  unfold Op.shift
  rw [if_neg h0]
  simp only [Int.toNat_natCast, Nat.min_eq_left hs, Sem.run_pure]
  rw [Int.fdiv_eq_ediv_of_nonneg _ (by exact_mod_cast Nat.zero_le _)]
  simp
theorem v_shr {t t' : TypeId} {x y : Operand} {k k' : IntKind} {m s : Nat} (ho : o.op = .binOp .shr t x y t') (hx : a.eval x = .int k (m : Int)) (hy : a.eval y = .int k' (s : Int)) (hs : s ≤ k.bits) : Val P o a (.int k ((m / 2 ^ s : Nat) : Int)) w :=
  v_bin ho hx hy fun w => by
    simp only [binOp]
    exact shr_nat k m s hs k' w
theorem v_shl {t t' : TypeId} {x y : Operand} {k k' : IntKind} {m s r : Nat} (ho : o.op = .binOp .shl t x y t') (hx : a.eval x = .int k (m : Int)) (hy : a.eval y = .int k' (s : Int)) (hs : s ≤ k.bits) (hr : k.wrap ((m * 2 ^ s : Nat) : Int) = (r : Int)) : Val P o a (.int k (r : Int)) w :=
  v_bin ho hx hy fun w => by
    have h0 : ¬ ((s : Nat) : Int) < 0 := by omega
    simp only [binOp]
    unfold Op.shift
    rw [if_neg h0]
    simp only [Int.toNat_natCast, Nat.min_eq_left hs, Sem.run_pure, ← hr]
    simp
theorem v_shrC {t t' : TypeId} {x y : Operand} {k k' : IntKind} {m s d : Nat} (ho : o.op = .binOp .shr t x y t') (hx : a.eval x = .int k (m : Int)) (hy : a.eval y = .int k' (s : Int)) (hs : s ≤ k.bits) (hd : 2 ^ s = d) : Val P o a (.int k ((m / d : Nat) : Int)) w := by
  subst hd
  exact v_shr ho hx hy hs
theorem v_shlC {t t' : TypeId} {x y : Operand} {k k' : IntKind} {m s d r : Nat} (ho : o.op = .binOp .shl t x y t') (hx : a.eval x = .int k (m : Int)) (hy : a.eval y = .int k' (s : Int)) (hs : s ≤ k.bits) (hd : 2 ^ s = d) (hr : k.wrap ((m * d : Nat) : Int) = (r : Int)) : Val P o a (.int k (r : Int)) w := by
  subst hd
  exact v_shl ho hx hy hs hr
theorem ofInt_nat {b m : Nat} (h : m < 2 ^ b) : (BitVec.ofInt b (m : Int)).toNat = m := by
  rw [BitVec.ofInt_natCast, BitVec.toNat_ofNat, Nat.mod_eq_of_lt h]
theorem v_band {t t' : TypeId} {x y : Operand} {k : IntKind} {m n : Nat} (ho : o.op = .binOp .and t x y t') (hx : a.eval x = .int k (m : Int)) (hy : a.eval y = .int k (n : Int)) (hm : m < 2 ^ k.bits) (hn : n < 2 ^ k.bits)
    (hw : k.wrap ((m &&& n : Nat) : Int) = ((m &&& n : Nat) : Int)) : Val P o a (.int k ((m &&& n : Nat) : Int)) w :=
  v_bin ho hx hy fun w => by
    simp only [binOp, ne_eq, not_true_eq_false, if_false, Op.intBits, BitVec.toNat_and, ofInt_nat hm, ofInt_nat hn, hw, Sem.run_pure]
theorem v_bor {t t' : TypeId} {x y : Operand} {k : IntKind} {m n : Nat} (ho : o.op = .binOp .or t x y t') (hx : a.eval x = .int k (m : Int)) (hy : a.eval y = .int k (n : Int)) (hm : m < 2 ^ k.bits) (hn : n < 2 ^ k.bits)
    (hw : k.wrap ((m ||| n : Nat) : Int) = ((m ||| n : Nat) : Int)) : Val P o a (.int k ((m ||| n : Nat) : Int)) w :=
  v_bin ho hx hy fun w => by
    simp only [binOp, ne_eq, not_true_eq_false, if_false, Op.intBits, BitVec.toNat_or, ofInt_nat hm, ofInt_nat hn, hw, Sem.run_pure]
theorem v_bxor {t t' : TypeId} {x y : Operand} {k : IntKind} {m n : Nat} (ho : o.op = .binOp .xor t x y t') (hx : a.eval x = .int k (m : Int)) (hy : a.eval y = .int k (n : Int)) (hm : m < 2 ^ k.bits) (hn : n < 2 ^ k.bits)
    (hw : k.wrap ((m ^^^ n : Nat) : Int) = ((m ^^^ n : Nat) : Int)) : Val P o a (.int k ((m ^^^ n : Nat) : Int)) w :=
  v_bin ho hx hy fun w => by
    simp only [binOp, ne_eq, not_true_eq_false, if_false, Op.intBits, BitVec.toNat_xor, ofInt_nat hm, ofInt_nat hn, hw, Sem.run_pure]
/-- The mark of a kind without sign: what fits stays. -/
theorem w_uns {k : IntKind} (hk : k.signed = false) {n : Nat} (h : n < 2 ^ k.bits) : k.wrap (n : Int) = (n : Int) := by
  cases k <;> first | (cases hk; done) | (simp only [IntKind.bits] at h; first | (rw [IntKind.wrap_u8]; omega) | (rw [IntKind.wrap_u64]; omega) | (simp [IntKind.wrap, IntKind.bits, IntKind.signed]; omega))
/-- The lowest bits. -/
theorem v_mask {t t' : TypeId} {x y : Operand} {k : IntKind} {m c s d : Nat} (ho : o.op = .binOp .and t x y t') (hx : a.eval x = .int k (m : Int)) (hy : a.eval y = .int k (c : Int)) (hc : c = 2 ^ s - 1) (hd : 2 ^ s = d) (hk : k.signed = false) (hm : m < 2 ^ k.bits) (hn : c < 2 ^ k.bits) : Val P o a (.int k ((m % d : Nat) : Int)) w := by
  have h := v_band (P := P) (w := w) ho hx hy hm hn (w_uns hk (Nat.lt_of_le_of_lt Nat.and_le_left hm))
  subst hc hd
  rwa [Nat.and_two_pow_sub_one_eq_mod] at h
theorem w_and {k : IntKind} (hk : k.signed = false) {m n : Nat} (h : m < 2 ^ k.bits) : k.wrap ((m &&& n : Nat) : Int) = ((m &&& n : Nat) : Int) := w_uns hk (Nat.lt_of_le_of_lt Nat.and_le_left h)
theorem w_or {k : IntKind} (hk : k.signed = false) {m n : Nat} (h : m < 2 ^ k.bits) (h' : n < 2 ^ k.bits) : k.wrap ((m ||| n : Nat) : Int) = ((m ||| n : Nat) : Int) := w_uns hk (Nat.or_lt_two_pow h h')
theorem w_xor {k : IntKind} (hk : k.signed = false) {m n : Nat} (h : m < 2 ^ k.bits) (h' : n < 2 ^ k.bits) : k.wrap ((m ^^^ n : Nat) : Int) = ((m ^^^ n : Nat) : Int) := w_uns hk (Nat.xor_lt_two_pow h h')

theorem w_i64 {n : Nat} (h : n < 9223372036854775808) : IntKind.i64.wrap (n : Int) = (n : Int) := by rw [IntKind.wrap_i64]; omega
theorem w_u64 {n : Nat} (h : n < 18446744073709551616) : IntKind.u64.wrap (n : Int) = (n : Int) := by rw [IntKind.wrap_u64]; omega
theorem w_u64m (n : Nat) : IntKind.u64.wrap (n : Int) = ((n % 18446744073709551616 : Nat) : Int) := by rw [IntKind.wrap_u64]; omega
theorem w_u8 {n : Nat} (h : n < 256) : IntKind.u8.wrap (n : Int) = (n : Int) := by rw [IntKind.wrap_u8]; omega
theorem w_u8m (n : Nat) : IntKind.u8.wrap (n : Int) = ((n % 256 : Nat) : Int) := by rw [IntKind.wrap_u8]; omega
theorem w_i64s {m n : Nat} (h : n ≤ m) (hm : m < 9223372036854775808) : IntKind.i64.wrap ((m : Int) - (n : Int)) = ((m - n : Nat) : Int) := by rw [IntKind.wrap_i64]; omega
theorem w_i64I {n : Int} (h : -9223372036854775808 ≤ n) (h' : n < 9223372036854775808) : IntKind.i64.wrap n = n := by rw [IntKind.wrap_i64]; omega
theorem w_u64s {m n : Nat} (h : n ≤ m) (hm : m < 18446744073709551616) : IntKind.u64.wrap ((m : Int) - (n : Int)) = ((m - n : Nat) : Int) := by rw [IntKind.wrap_u64]; omega
end

/-! ### Rows of bytes, 32 each -/
/-- Bytes of 32. -/
def IsB32 (a : List Nat) : Prop := a.length = 32 ∧ Digs 256 a
/-- v is a slice of arrays of 32 bytes. -/
def RdRows (rows : List (List Nat)) (v : Value) (w : World) : Prop :=
  ((∃ p cap, v = .slice p 0 cap) ∧ rows = []) ∨ ∃ b off cap, v = .slice (some ⟨b, off, none⟩) rows.length cap ∧ ∀ j, (h : j < rows.length) → w.rangeAt b (off + j * 32) (ints .u8 rows[j]).toList
theorem RdRows.below {rows : List (List Nat)} {v : Value} {w w1 : World} (h : RdRows rows v w) (hb : Below w.heap.size w w1) : RdRows rows v w1 := by
  rcases h with h | ⟨b, off, cap, h1, h2⟩
  · exact .inl h
  · exact .inr ⟨b, off, cap, h1, fun j hj => range_below (h2 j hj) hb⟩
theorem RdRows.len {rows : List (List Nat)} {v : Value} {w : World} (h : RdRows rows v w) : ∃ p cap, v = .slice p rows.length cap := by
  rcases h with ⟨⟨p, cap, rfl⟩, rfl⟩ | ⟨b, off, cap, rfl, -⟩
  · exact ⟨_, _, rfl⟩
  · exact ⟨_, _, rfl⟩
theorem flatten_part {n : Nat} : ∀ (rows : List (List Nat)) (j : Nat) (h : j < rows.length), (∀ r ∈ rows, r.length = n) → (rows.flatten.drop (j * n)).take n = rows[j]
  | r :: rows, 0, _, hr => by
    rw [Nat.zero_mul, List.drop_zero, List.flatten_cons, List.take_left' (hr r (List.mem_cons_self ..))]
    rfl
  | r :: rows, j + 1, h, hr => by
    have e : (j + 1) * n = r.length + j * n := by rw [hr r (List.mem_cons_self ..), Nat.add_mul, Nat.one_mul, Nat.add_comm]
    rw [e, List.flatten_cons, List.drop_length_add_append]
    exact flatten_part rows j (by simpa using h) fun r' h' => hr r' (List.mem_cons_of_mem _ h')
theorem rows_of_block {w : World} {g : Nat} {T : TypeId} {fr : Nat × Nat} {rows : List (List Nat)} (hg : w.heap[g]? = some (.cells (ints .u8 rows.flatten) T fr)) (hr : ∀ r ∈ rows, r.length = 32) : RdRows rows (.slice (some ⟨g, 0, none⟩) rows.length rows.length) w := by
  refine .inr ⟨g, 0, _, rfl, fun j hj => ?_⟩
  have h := World.rangeAt_of_block hg (0 + j * 32) 32
  have e : ((ints .u8 rows.flatten).extract (0 + j * 32) (0 + j * 32 + 32)).toList = (ints .u8 rows[j]).toList := by
    rw [← flatten_part rows j hj hr]
    simp [ints, List.map_take, List.map_drop]
  rwa [e] at h

theorem foldl_put (off : Nat) : ∀ (v : List Value) (k : Nat) (acc : Array Value), off + k + v.length ≤ acc.size →
    ((v.zipIdx k).foldl (fun (acc : Array Value) (x : Value × Nat) => acc.setIfInBounds (off + x.2) x.1) acc).toList = acc.toList.take (off + k) ++ v ++ acc.toList.drop (off + k + v.length)
  | [], k, acc, _ => by simp
  | c :: v, k, acc, h => by
    rw [List.length_cons] at h
    rw [List.zipIdx_cons, List.foldl_cons, foldl_put off v (k + 1) _ (by simp; omega)]
    simp only [Array.toList_setIfInBounds, List.length_cons]
    have h1 : (acc.toList.set (off + k) c).take (off + (k + 1)) = acc.toList.take (off + k) ++ [c] := by
      rw [← Nat.add_assoc, List.take_succ_eq_append_getElem (by simp; omega), List.take_set, List.getElem_set_self, List.set_eq_of_length_le (by simp; omega)]
    have h2 : (acc.toList.set (off + k) c).drop (off + (k + 1) + v.length) = acc.toList.drop (off + k + (v.length + 1)) := by
      rw [List.drop_set_of_lt (by omega)]
      congr 1
      omega
    rw [h1, h2]
    simp

theorem fill_rows (s : Nat) : ∀ (vs : List (Array Value)) (k : Nat) (cells : Array Value), (∀ v ∈ vs, v.size = s) → cells.size = (k + vs.length) * s →
    ∃ r, Instr.fill (fun i => some (i * s, s)) cells ((vs.zipIdx k).map fun x => (x.2, Value.agg x.1)) = some r ∧ r.toList = cells.toList.take (k * s) ++ (vs.map (·.toList)).flatten
  | [], k, cells, _, h => by
    refine ⟨cells, rfl, ?_⟩
    simp at h
    simp only [List.map_nil, List.flatten_nil, List.append_nil]
    rw [← h, List.take_of_length_le (by simp)]
  | v :: vs, k, cells, hv, h => by
    have hs : v.size = s := hv v (List.mem_cons_self ..)
    have h' : cells.size = k * s + s + vs.length * s := by rw [h, List.length_cons, Nat.add_mul, Nat.add_mul]; omega
    have hput := foldl_put (k * s) v.toList 0 cells (by simp; omega)
    have hfold : v.zipIdx.foldl (fun cs (x : Value × Nat) => cs.setIfInBounds (k * s + x.2) x.1) cells = (v.toList.zipIdx 0).foldl (fun (acc : Array Value) (x : Value × Nat) => acc.setIfInBounds (k * s + x.2) x.1) cells := by
      rw [← Array.foldl_toList]
      simp
    obtain ⟨r, h1, h2⟩ := fill_rows s vs (k + 1) (v.zipIdx.foldl (fun cs (x : Value × Nat) => cs.setIfInBounds (k * s + x.2) x.1) cells) (fun v' h' => hv v' (List.mem_cons_of_mem _ h')) (by
      rw [hfold, ← Array.length_toList, hput]
      simp [List.length_append, List.length_take, List.length_drop, hs]
      rw [h', Nat.add_mul (k + 1), Nat.add_mul k 1]
      omega)
    refine ⟨r, ?_, ?_⟩
    · rw [List.zipIdx_cons, List.map_cons, Instr.fill]
      have hc : ¬ (((Value.agg v).cells.size ≠ s || decide (k * s + (Value.agg v).cells.size > cells.size)) = true) := by
        simp [Value.cells, hs]; omega
      simp only []
      rw [if_neg hc]
      exact h1
    · rw [h2, hfold, hput]
      have e2 : (cells.toList.take (k * s + 0) ++ v.toList).length = (k + 1) * s := by
        rw [List.length_append, List.length_take, Array.length_toList, Array.length_toList, hs, Nat.add_mul, Nat.one_mul]
        omega
      rw [List.take_left' e2, Nat.add_zero]
      simp

section
variable {P : Program} {ops : Array Oper} {Q : Exit → Act → World → Prop} {a : Act} {w w0 : World} {l : List Blk} {o : Oper} {K : Act → World → Prop}
theorem st_buildRows {t e : TypeId} {n : Nat} {parts : List (Nat × Operand)} {z : Value} (rows : List (List Nat)) (hE : Env w0 l w) (hw : Region.wanted o (yielded ops a.tmps) = true) (ho : o.op = .buildSlice t n parts.toArray)
    (hp : parts.map (fun p => (p.1, a.eval p.2)) = (rows.map (ints .u8)).zipIdx.map fun x => (x.2, Value.agg x.1)) (hn : rows.length = n) (h0 : 0 < n) (h24 : n * 32 ≤ 2 ^ 24) (ht : P.underlying t = some (.slice e)) (hs : (P.info? e).map (·.size) = some 32)
    (hz : ∀ w, (zeroValue e).run P w = .ok z w) (hr : ∀ r ∈ rows, r.length = 32)
    (k : ∀ g w1, Below w.heap.size w w1 → Env w0 (⟨g, e, ints .u8 rows.flatten⟩ :: l) w1 → K (a.put o.dst (.slice (some ⟨g, 0, none⟩) n n)) w1) : Step P ops Q o K a w := by
  obtain ⟨r, hf, hl⟩ := fill_rows 32 (rows.map (ints .u8)) 0 ((Array.range (n * 32)).map fun i => z.cells[i % z.cells.size]!) (fun v hv => by
    obtain ⟨x, hx, rfl⟩ := List.mem_map.1 hv
    rw [ints_size, hr x hx]) (by simp [hn])
  have hre : r = ints .u8 rows.flatten := by
    apply Array.ext'
    rw [hl]
    simp [ints, List.map_flatten, Function.comp_def]
  subst hre
  refine st_run (w1 := w.alloc (.cells (ints .u8 rows.flatten) e)) (v := .slice (some ⟨w.heap.size, 0, none⟩) n n) hw ?_ (k _ _ ((Below.refl _ _).alloc (Nat.le_refl _) _) (hE.alloc e _))
  have h1 : ¬ n * 32 > 2 ^ 24 := by omega
  have h2 : ¬ n * 32 = 0 := by omega
  unfold execOp
  simp only [ho, List.map_toArray, hp, Instr.buildSlice, Sem.run_bind, run_underlying ht, size_run hs, Result.andThen_ok, if_neg h1, if_neg h2, hz, Sem.run_pure]
  rw [hf]
  simp [newRow, newObj, Sem.run, Sem.run_bind, Sem.run_pure]
end

/-! ### A region that draws its order -/
section drawn
variable {P : Program} {ops : Array Oper} {Q : Exit → Act → World → Prop} {m : Nat}

/-- Whatever order is picked from here on; the first m operations write nothing that was there. -/
def wpB (P : Program) (ops : Array Oper) (Q : Exit → Act → World → Prop) (m : Nat) : Nat → Array Bool → Act → World → Prop
  | 0, L, a, w => Region.ready .any ops L = [] ∧ Q .normal a w
  | n + 1, L, a, w => (Region.ready .any ops L = [] → Q .normal a w) ∧
      ∀ i ∈ Region.ready .any ops L, wpOp P ops Q i (fun a' w' => (i < m → Below w.heap.size w w') ∧ wpB P ops Q m n (L.setIfInBounds i true) a' w') a w

theorem wpB_any : ∀ (n : Nat) (L : Array Bool) (a : Act) (w : World), wpB P ops Q m n L a w → wpAny P .any ops Q n L a w
  | 0, _, _, _, h => h
  | n + 1, _, _, _, h => ⟨h.1, fun i hi => wpOp_mono (fun a' w' h' => wpB_any n _ a' w' h'.2) (h.2 i hi)⟩

/-- Those behind the first m wait for all that stand before them. -/
def tailOk (ops : Array Oper) (m : Nat) : Bool :=
  let b := befL ops.toList []
  Region.noSelect ops && (List.range ops.size).all fun i => decide (i < m) || (List.range i).all fun j => (b.getD i 0).testBit j

def closedB (ops : Array Oper) (L : Array Bool) : Bool :=
  L.size == ops.size && (List.range ops.size).all fun i => !L.getD i false || match ops[i]? with
    | none => true
    | some o => o.after.toList.all fun e => !Region.binds .any e || L.getD e.on false

theorem tailOk_spec (h : tailOk ops m = true) : Region.noSelect ops = true ∧ ∀ (i : Nat) (o : Oper), ops[i]? = some o → m ≤ i → ∀ L, Closed ops L → (∀ e ∈ o.after, Region.binds .any e = true → L e.on = true) → ∀ j, j < i → L j = true := by
  have good : GoodMasks ops (befL ops.toList []) := befL_good ops ops.toList [] (fun i o hi => by simp at hi) (fun i => by simp)
  have len : ∀ (l : List Oper) (acc : List Nat), (befL l acc).length = acc.length + l.length := by
    intro l
    induction l with
    | nil => intro acc; rfl
    | cons o l ih => intro acc; rw [befL, ih]; simp; omega
  have hlen : (befL ops.toList []).length = ops.size := by rw [len]; simp
  unfold tailOk at h
  simp only [Bool.and_eq_true, List.all_eq_true, List.mem_range, Bool.or_eq_true, decide_eq_true_eq] at h
  refine ⟨h.1, fun i o ho hm L hL hd j hj => ?_⟩
  have hi := (Array.getElem?_eq_some_iff.1 ho).1
  have h3 := (h.2 i hi).resolve_left (by omega) j hj
  exact good i o (by rw [hlen]; exact hi) ho L hL hd j h3

theorem closedB_spec {L : Array Bool} (h : closedB ops L = true) : L.size = ops.size ∧ Closed ops (fun i => L.getD i false) := by
  unfold closedB at h
  simp only [Bool.and_eq_true, beq_iff_eq, List.all_eq_true, List.mem_range, Bool.or_eq_true, Bool.not_eq_true'] at h
  refine ⟨h.1, fun i o ho hi e he hb => ?_⟩
  have hlt := (Array.getElem?_eq_some_iff.1 ho).1
  have hi' : L.getD i false = true := hi
  have h2 := (h.2 i hlt).resolve_left (by rw [hi']; decide)
  rw [ho] at h2
  simp only [List.all_eq_true, Bool.or_eq_true, Bool.not_eq_true'] at h2
  exact (h2 e (by simpa using he)).resolve_left (by rw [hb]; decide)

theorem wpB_first {i : Nat} {oi : Oper} {v : Value} (hi : ops[i]? = some oi) (him : i < m) (htl : tailOk ops m = true)
    (hQ : ∀ c a w, Q (.panic c) (a.put oi.dst v) w → Q (.panic c) a w) :
    ∀ (n : Nat) (L : Array Bool) (a : Act) (w : World), L.size = ops.size → Closed ops (fun i => L.getD i false) →
      (∀ j oj, ops[j]? = some oj → j ≠ i → L.getD j true = false → (∀ e ∈ oj.after, Region.binds .any e = true → e.on ≠ i) → oi.apart ops oj = true) →
      i ∈ Region.ready .any ops L → YieldsIf P ops (fun w1 => Below w.heap.size w w1) oi v a →
      wpB P ops Q m n (L.setIfInBounds i true) (a.put oi.dst v) w → wpB P ops Q m (n + 1) L a w := by
  obtain ⟨hsel, htail⟩ := tailOk_spec htl
  have hsel := Region.noSelect_spec hsel
  have now : ∀ (n : Nat) (L : Array Bool) (a : Act) (w : World), YieldsIf P ops (fun w1 => Below w.heap.size w w1) oi v a → wpB P ops Q m n (L.setIfInBounds i true) (a.put oi.dst v) w →
      wpOp P ops Q i (fun a' w' => (i < m → Below w.heap.size w w') ∧ wpB P ops Q m n (L.setIfInBounds i true) a' w') a w := fun n L a w hy H =>
    hy.wpOp hi (Below.refl _ _) ⟨fun _ => Below.refl _ _, H⟩
  intro n
  induction n with
  | zero =>
    intro L a w _ _ _ hr hy H
    refine ⟨fun h => (by rw [h] at hr; cases hr), fun j hj => ?_⟩
    by_cases hji : j = i
    · subst hji; exact now _ _ _ _ hy H
    · have := ready_mono hj hji
      rw [H.1] at this
      cases this
  | succ n ih =>
    intro L a w hs hcl hfree hr hy H
    refine ⟨fun h => (by rw [h] at hr; cases hr), fun j hj => ?_⟩
    by_cases hji : j = i
    · subst hji; exact now _ _ _ _ hy H
    · obtain ⟨hj1, hj2, oj, hoj, hjall⟩ := ready_spec hj hs
      obtain ⟨hi1, hi2, oi', hoi', hiall⟩ := ready_spec hr hs
      have hjm : j < m := by
        rcases Nat.lt_or_ge j m with h1 | h1
        · exact h1
        · have := htail j oj hoj h1 _ hcl hjall i (by omega)
          rw [hi2] at this; cases this
      have h1 := H.2 j (ready_mono hj hji)
      obtain ⟨hjun, _⟩ := mem_ready.1 hj
      have hnot : ∀ e ∈ oj.after, Region.binds .any e = true → e.on ≠ i := fun e he hb heq => by
        have h1 := hjall e he hb
        rw [heq, hi2] at h1
        cases h1
      have h2 := wpOp_putIf hoj (hfree j oj hoj hji hjun hnot) (fun cs b => hsel i oi cs b hi) (fun cs b => hsel j oj cs b hoj) hQ hy h1
      have hfree' : ∀ k ok, ops[k]? = some ok → k ≠ i → (L.setIfInBounds j true).getD k true = false →
          (∀ e ∈ ok.after, Region.binds .any e = true → e.on ≠ i) → oi.apart ops ok = true := fun k ok hk hki hun hno => by
        refine hfree k ok hk hki ?_ hno
        by_cases hjk : j = k
        · subst hjk; exact hjun
        · rw [getD_set_ne true hjk] at hun; exact hun
      refine wpOp_mono (fun a' w' h3 => ?_) h2
      have hb := h3.2.1 hjm
      refine ⟨fun _ => hb, ih (L.setIfInBounds j true) a' w' (by simp [hs]) (Inv.closed' hs hcl hj1 hoj hjall) hfree' (ready_mono hr (Ne.symm hji)) ?_ ?_⟩
      · exact h3.1.imp (fun ⟨x, y⟩ => ⟨x, fun w1 hb1 => y w1 (hb.trans (hb1.mono hb.size))⟩) id
      · rw [Array.setIfInBounds_comm _ _ hji]
        exact h3.2.2

def takeOk (ops : Array Oper) (m : Nat) (L : Array Bool) (i : Nat) : Bool :=
  decide (i < m) && closedB ops L && Region.free .any ops L i && (Region.ready .any ops L).contains i

theorem drop_get {i : Nat} {o : Oper} {tl : List Oper} (h : ops.toList.drop i = o :: tl) : ops[i]? = some o := by
  have : (ops.toList.drop i)[0]? = some o := by rw [h]; rfl
  rw [List.getElem?_drop] at this
  simpa using this

/-- What only reads may be taken first. -/
theorem wpB_take {i n : Nat} {oi : Oper} {v : Value} {L : Array Bool} {a : Act} {w : World} {tl : List Oper} (htl : tailOk ops m = true) (hi' : ops.toList.drop i = oi :: tl) (hok : takeOk ops m L i = true)
    (hQ : ∀ c a w, Q (.panic c) (a.put oi.dst v) w → Q (.panic c) a w) (hw : Region.wanted oi (yielded ops a.tmps) = true) (h : Val P oi a v w)
    (k : wpB P ops Q m n (L.setIfInBounds i true) (a.put oi.dst v) w) : wpB P ops Q m (n + 1) L a w := by
  have hi := drop_get hi'
  unfold takeOk at hok
  simp only [Bool.and_eq_true, decide_eq_true_eq] at hok
  obtain ⟨⟨⟨h1, h2⟩, h3⟩, h4⟩ := hok
  obtain ⟨h5, h6⟩ := closedB_spec h2
  exact wpB_first hi h1 htl hQ n L a w h5 h6 (Region.free_spec hi h3) (by simpa using h4) (.inl ⟨hw, h⟩) k
/-- What is not wanted may be passed by first. -/
theorem wpB_pass {i n : Nat} {oi : Oper} {L : Array Bool} {a : Act} {w : World} {tl : List Oper} (htl : tailOk ops m = true) (hi' : ops.toList.drop i = oi :: tl) (hok : takeOk ops m L i = true)
    (hQ : ∀ c a w, Q (.panic c) (a.put oi.dst undef) w → Q (.panic c) a w) (hw : Region.wanted oi (yielded ops a.tmps) = false)
    (k : wpB P ops Q m n (L.setIfInBounds i true) (a.put oi.dst undef) w) : wpB P ops Q m (n + 1) L a w := by
  have hi := drop_get hi'
  unfold takeOk at hok
  simp only [Bool.and_eq_true, decide_eq_true_eq] at hok
  obtain ⟨⟨⟨h1, h2⟩, h3⟩, h4⟩ := hok
  obtain ⟨h5, h6⟩ := closedB_spec h2
  exact wpB_first hi h1 htl hQ n L a w h5 h6 (Region.free_spec hi h3) (by simpa using h4) (.inr ⟨hw, rfl⟩) k

theorem wpB_of_step {i : Nat} {o : Oper} {K : Act → World → Prop} {a : Act} {w : World} (hi : ops[i]? = some o) (h : Step P ops Q o K a w) : wpOp P ops Q i K a w := by
  unfold wpOp
  simp only [hi]
  unfold Step at h
  split
  · rename_i hw
    rw [if_pos hw] at h
    exact .inl h
  · rename_i hw
    rw [if_neg hw] at h
    exact h
/-- The one operation that may come up. -/
theorem wpB_step {i n : Nat} {o : Oper} {L : Array Bool} {a : Act} {w : World} {tl : List Oper} (hr : Region.ready .any ops L = [i]) (hi' : ops.toList.drop i = o :: tl)
    (h : Step P ops Q o (fun a' w' => (i < m → Below w.heap.size w w') ∧ wpB P ops Q m n (L.setIfInBounds i true) a' w') a w) : wpB P ops Q m (n + 1) L a w :=
  ⟨fun h0 => (by rw [h0] at hr; cases hr), fun j hj => by
    rw [hr] at hj
    obtain rfl : j = i := by simpa using hj
    exact wpB_of_step (drop_get hi') h⟩
/-- One of two that may come up. -/
theorem wpB_step2 {i j n : Nat} {o o' : Oper} {L : Array Bool} {a : Act} {w : World} {tl tl' : List Oper} (hr : Region.ready .any ops L = [i, j]) (hi : ops.toList.drop i = o :: tl) (hj : ops.toList.drop j = o' :: tl')
    (h : Step P ops Q o (fun a' w' => (i < m → Below w.heap.size w w') ∧ wpB P ops Q m n (L.setIfInBounds i true) a' w') a w)
    (h' : Step P ops Q o' (fun a' w' => (j < m → Below w.heap.size w w') ∧ wpB P ops Q m n (L.setIfInBounds j true) a' w') a w) : wpB P ops Q m (n + 1) L a w :=
  ⟨fun h0 => (by rw [h0] at hr; cases hr), fun k hk => by
    rw [hr] at hk
    simp only [List.mem_cons, List.not_mem_nil, or_false] at hk
    rcases hk with rfl | rfl
    · exact wpB_of_step (drop_get hi) h
    · exact wpB_of_step (drop_get hj) h'⟩
theorem wpB_done {L : Array Bool} {a : Act} {w : World} (hr : Region.ready .any ops L = []) (h : Q .normal a w) : ∀ n, wpB P ops Q m n L a w
  | 0 => ⟨hr, h⟩
  | _ + 1 => ⟨fun _ => h, by rw [hr]; simp⟩

/-- **The beginning.** -/
theorem wp_region_B {id n : Nat} {a : Act} {w w0 : World} {l : List Blk} (m : Nat) (hf : P.follows .mixedOrders = true) (hn : ops.size = n) (hE : Env w0 l w)
    (h : ∀ w1, Below w.heap.size w w1 → Env w0 l w1 → wpB P ops Q m n (Array.replicate n false) a w1) : (Code.region id ops true).wp P Q a w := by
  subst hn
  exact wp_region_any hf (wpB_any _ _ _ _ (h w.drew (Below.refl _ _).drew hE.drew))
end drawn
end Go.Proofs.YtnbbehgcnodfbaaDoor
