/-
  Rows of numbers, compared; arrays, and structs that hold one array.
-/
import Derived.Test.YtnbbehgcnodfbaaDoorProg
import Derived.Test.YtnbbehgcnodfbaaDoorStep
import Derived.Laws.StructEq
namespace Go.Proofs.YtnbbehgcnodfbaaDoor
open Go.RowKit
set_option maxRecDepth 100000
set_option linter.unusedVariables false
set_option linter.unusedSimpArgs false

theorem all_eq_nat : ∀ (x y : List Nat), x.length = y.length → ((List.range x.length).all fun i => x.getD i 0 == y.getD i 0) = decide (x = y)
  | [], [], _ => rfl
  | a :: x, b :: y, h => by
    have ih := all_eq_nat x y (by simpa using h)
    rw [List.length_cons, List.range_succ_eq_map, List.all_cons, List.all_map]
    simp only [List.getD_cons_zero, Function.comp_def, List.getD_cons_succ, ih]
    rw [Bool.eq_iff_iff]
    simp
  | [], _ :: _, h => by simp at h
  | _ :: _, [], h => by simp at h

section
variable {P : Program} {a : Act} {w : World} {o : Oper} {v : Value}

theorem run_equalIn_ints (d : Nat) {t e n : Nat} {k : IntKind} (ht : P.underlying t = some (.array n e)) (he : P.underlying e = some (.int k)) (hsz : ∀ w, (sizeOf e).run P w = .ok 1 w) {x y : List Nat} (hx : x.length = n) (hy : y.length = n) (w : World) :
    (Op.equalIn (d + 2) t (.agg (ints k x)) (.agg (ints k y))).run P w = .ok (decide (x = y)) w := by
  rw [← all_eq_nat x y (hx.trans hy.symm), hx, List.range_eq_range', Op.equalIn]
  simp only [Sem.run_bind, run_underlying ht, Result.andThen_ok, hsz, Std.Legacy.Range.forIn_eq_forIn_range', Std.Legacy.Range.size, Nat.sub_zero, Nat.add_sub_cancel, Nat.div_one]
  have hl : ∀ i ∈ List.range' 0 n 1, i < n := fun i hi => by simpa using (List.mem_range'_1.1 hi).2
  generalize List.range' 0 n 1 = l at hl ⊢
  induction l with
  | nil => simp
  | cons i l ih =>
    have hi : i < n := hl i (by simp)
    have px : (part e (ints k x) (i * 1)).run P w = .ok (.int k (x.getD i 0 : Nat)) w := by
      simp [part, isAgg, run_underlying he, ints_get? k x i (by omega)]
    have py : (part e (ints k y) (i * 1)).run P w = .ok (.int k (y.getD i 0 : Nat)) w := by
      simp [part, isAgg, run_underlying he, ints_get? k y i (by omega)]
    have pe : (Op.equalIn (d + 1) e (.int k (x.getD i 0 : Nat)) (.int k (y.getD i 0 : Nat))).run P w = .ok (x.getD i 0 == y.getD i 0) w := by
      rw [run_equalIn_int w d e k k _ _ he]
      congr 1
      rw [Bool.eq_iff_iff, beq_iff_eq, beq_iff_eq]
      omega
    simp only [List.forIn_cons, Sem.run_bind, px, py, pe, Result.andThen_ok, List.all_cons]
    cases hb : (x.getD i 0 == y.getD i 0)
    · simp
    · simp only [Bool.not_true, Bool.false_eq_true, if_false, Sem.run_pure, Result.andThen_ok, Bool.true_and]
      exact ih fun j hj => hl j (by simp [hj])

/-- A struct that holds one array of numbers, and nothing else. -/
theorem run_equalIn_one (d : Nat) {t u e n : Nat} {k : IntKind} {f : Field} (ht : P.underlying t = some (.struct (P.fieldsOf t))) (hf : P.fieldsOf t = #[f]) (hp : P.stoodInHeld t = false) (hn : f.name ≠ "_") (hft : f.type = u) (ho : f.offset = 0)
    (hu : P.underlying u = some (.array n e)) (he : P.underlying e = some (.int k)) (hag : ∀ w, (isAgg u).run P w = .ok true w) (hsu : ∀ w, (sizeOf u).run P w = .ok n w) (hsz : ∀ w, (sizeOf e).run P w = .ok 1 w) {x y : List Nat} (hx : x.length = n) (hy : y.length = n) (w : World) :
    (Op.equalIn (d + 3) t (.agg (ints k x)) (.agg (ints k y))).run P w = .ok (decide (x = y)) w := by
  have hpt : ∀ (z : List Nat), z.length = n → ∀ w, (part u (ints k z) 0).run P w = .ok (.agg (ints k z)) w := fun z hz w => by
    have e1 : (ints k z).extract 0 (0 + n) = ints k z := by
      apply Array.ext'
      rw [Nat.zero_add, Array.toList_extract, List.extract_eq_take_drop, List.drop_zero, Nat.sub_zero]
      exact List.take_of_length_le (by simp [ints, hz])
    unfold part
    simp only [Sem.run_bind, hag, Result.andThen_ok, if_true, hsu, e1, Sem.run_pure]
  rw [run_equalIn_struct w (d + 2) t _ _ ht hp, hf]
  unfold Op.eqFields
  simp only [hn, ne_eq, not_false_eq_true, if_true, hft, ho, Sem.run_bind, hpt x hx, hpt y hy, Result.andThen_ok, run_equalIn_ints d hu he hsz hx hy]
  cases hb : decide (x = y) <;> simp [Op.eqFields]

theorem v_eqAgg {t t' : TypeId} {x y : Operand} {c d : Array Value} {b : Bool} (ho : o.op = .binOp .eql t x y t') (hx : a.eval x = .agg c) (hy : a.eval y = .agg d) (hg : P.eqGuardType P.depth t = false)
    (h : ∀ w, (Op.equalIn 10000 t (.agg c) (.agg d)).run P w = .ok b w) : Val P o a (.bool b) w := v_run fun w => by
  unfold execOp
  simp only [ho, hx, hy, eqGuard]
  have hp : ∀ w, (program).run P w = .ok P w := fun _ => rfl
  simp [Sem.run_bind, Sem.run_pure, hp, hg, binOp, Op.equal, Op.maxDepth, h]
theorem v_neAgg {t t' : TypeId} {x y : Operand} {c d : Array Value} {b : Bool} (ho : o.op = .binOp .neq t x y t') (hx : a.eval x = .agg c) (hy : a.eval y = .agg d) (hg : P.eqGuardType P.depth t = false)
    (h : ∀ w, (Op.equalIn 10000 t (.agg c) (.agg d)).run P w = .ok b w) : Val P o a (.bool (!b)) w := v_run fun w => by
  unfold execOp
  simp only [ho, hx, hy, eqGuard]
  have hp : ∀ w, (program).run P w = .ok P w := fun _ => rfl
  simp [Sem.run_bind, Sem.run_pure, hp, hg, binOp, Op.equal, Op.maxDepth, h]
theorem run_eq_bool {t : TypeId} (ht : P.underlying t = some .bool) (b c : Bool) (w : World) : (Op.equalIn 10000 t (.bool b) (.bool c)).run P w = .ok (b == c) w := by
  show (Op.equalIn (9999 + 1) t (.bool b) (.bool c)).run P w = _
  unfold Op.equalIn
  simp only [Sem.run_bind, run_underlying ht, Result.andThen_ok, Sem.run_pure]
theorem v_eqB {t t' : TypeId} {x y : Operand} {b c : Bool} (ho : o.op = .binOp .eql t x y t') (hx : a.eval x = .bool b) (hy : a.eval y = .bool c) (ht : P.underlying t = some .bool) : Val P o a (.bool (b == c)) w := v_run fun w => by
  unfold execOp
  simp only [ho, hx, hy, eqGuard]
  simp [Sem.run_bind, Sem.run_pure, binOp, Op.equal, Op.maxDepth, run_eq_bool ht]
theorem v_eqBs {t t' : TypeId} {x y : Operand} {b : Bool} (ho : o.op = .binOp .eql t x y t') (hx : a.eval x = .bool b) (hy : a.eval y = .bool b) (ht : P.underlying t = some .bool) : Val P o a (.bool true) w := by
  have h := v_eqB (w := w) ho hx hy ht
  rwa [beq_self_eq_true] at h
theorem v_neB {t t' : TypeId} {x y : Operand} {b c : Bool} (ho : o.op = .binOp .neq t x y t') (hx : a.eval x = .bool b) (hy : a.eval y = .bool c) (ht : P.underlying t = some .bool) : Val P o a (.bool (!(b == c))) w := v_run fun w => by
  unfold execOp
  simp only [ho, hx, hy, eqGuard]
  simp [Sem.run_bind, Sem.run_pure, binOp, Op.equal, Op.maxDepth, run_eq_bool ht]
/-- Arrays of numbers, compared. -/
theorem v_eqInts {t t' e n : Nat} {x y : Operand} {k : IntKind} {l m : List Nat} (ho : o.op = .binOp .eql t x y t') (hx : a.eval x = .agg (ints k l)) (hy : a.eval y = .agg (ints k m)) (hg : P.eqGuardType P.depth t = false) (ht : P.underlying t = some (.array n e)) (he : P.underlying e = some (.int k))
    (hsz : ∀ w, (sizeOf e).run P w = .ok 1 w) (hl : l.length = n) (hm : m.length = n) : Val P o a (.bool (decide (l = m))) w :=
  v_eqAgg ho hx hy hg fun w => run_equalIn_ints 9998 ht he hsz hl hm w
theorem v_eqIntsS {t t' e n : Nat} {x y : Operand} {k : IntKind} {l : List Nat} (ho : o.op = .binOp .eql t x y t') (hx : a.eval x = .agg (ints k l)) (hy : a.eval y = .agg (ints k l)) (hg : P.eqGuardType P.depth t = false) (ht : P.underlying t = some (.array n e)) (he : P.underlying e = some (.int k))
    (hsz : ∀ w, (sizeOf e).run P w = .ok 1 w) (hl : l.length = n) : Val P o a (.bool true) w := by
  have h := v_eqInts (w := w) ho hx hy hg ht he hsz hl hl
  rwa [decide_eq_true rfl] at h
theorem v_neInts {t t' e n : Nat} {x y : Operand} {k : IntKind} {l m : List Nat} (ho : o.op = .binOp .neq t x y t') (hx : a.eval x = .agg (ints k l)) (hy : a.eval y = .agg (ints k m)) (hg : P.eqGuardType P.depth t = false) (ht : P.underlying t = some (.array n e)) (he : P.underlying e = some (.int k))
    (hsz : ∀ w, (sizeOf e).run P w = .ok 1 w) (hl : l.length = n) (hm : m.length = n) : Val P o a (.bool (!decide (l = m))) w :=
  v_neAgg ho hx hy hg fun w => run_equalIn_ints 9998 ht he hsz hl hm w
end

section
variable {a : Act} {w : World} {o : Oper}
theorem v_built {t : TypeId} {ps : List (Nat × Operand)} {k : IntKind} {l : List Nat} (ho : o.op = .build t ps.toArray) (h : ∀ w, (Instr.build t (ps.map fun p => (p.1, a.eval p.2)).toArray).run Tryd.prog w = .ok (.agg (ints k l)) w) : Val Tryd.prog o a (.agg (ints k l)) w := v_run fun w => by
  unfold execOp
  simp only [ho, Sem.run_bind, List.map_toArray]
  rw [h]
  rfl
end
end Go.Proofs.YtnbbehgcnodfbaaDoor
