/-
  A region that draws its order of evaluation and holds calls: its head may be taken in the order of the text, if all that is called writes nothing that was there; what it makes is told by its first cells, not by its place.
  No condition on the program. No program in sight.
-/
import Derived.WalkKit
import Derived.OrdersHeld
namespace Go.Proofs.YtnbbehgcnodfbaaDoor
open Go.RowKit
set_option maxRecDepth 100000
set_option linter.unusedVariables false

/-! ### Frames into which some operations have put their values -/
section frames
variable (a : Act) (dst : Nat → Option Tmp) (val : Nat → Value)

/-- The frame behind those of the first k operations that L names. -/
def fr (L : Nat → Bool) : Nat → Act
  | 0 => a
  | k + 1 => if L k then (fr L k).put (dst k) (val k) else fr L k

/-- No two of the first m operations write one slot. -/
def Distinct (m : Nat) : Prop := ∀ i j t, i < m → j < m → dst i = some t → dst j = some t → i = j

variable {a dst val}

theorem put_size (b : Act) (d : Option Tmp) (v : Value) : (b.put d v).tmps.size = b.tmps.size := by cases d <;> simp [Act.put]
theorem put_defers (b : Act) (d : Option Tmp) (v : Value) : (b.put d v).defers = b.defers := by cases d <;> rfl
theorem fr_size (L : Nat → Bool) (k : Nat) : (fr a dst val L k).tmps.size = a.tmps.size := by
  induction k with
  | zero => rfl
  | succ k ih => unfold fr; split; rw [put_size, ih]; exact ih
theorem fr_congr {L L' : Nat → Bool} {val' : Nat → Value} (k : Nat) (hL : ∀ j, j < k → L j = L' j) (hv : ∀ j, j < k → L j = true → val j = val' j) : fr a dst val L k = fr a dst val' L' k := by
  induction k with
  | zero => rfl
  | succ k ih =>
    unfold fr
    rw [ih (fun j hj => hL j (by omega)) (fun j hj => hv j (by omega)), ← hL k (by omega)]
    split
    · rename_i h; rw [hv k (by omega) h]
    · rfl
theorem fr_set {m : Nat} (hd : Distinct dst m) {L : Nat → Bool} {i : Nat} (hi : i < m) (hLi : L i = false) : ∀ k, k ≤ m → fr a dst val (fun j => j == i || L j) k = if i < k then (fr a dst val L k).put (dst i) (val i) else fr a dst val L k := by
  intro k
  induction k with
  | zero => intro _; simp [fr]
  | succ k ih =>
    intro hk
    have ih := ih (by omega)
    by_cases hik : i = k
    · subst hik
      have e : fr a dst val (fun j => j == i || L j) i = fr a dst val L i := by rw [ih, if_neg (by omega)]
      simp [fr, e, hLi]
    · have hne : (k == i) = false := by simpa using fun h => hik h.symm
      simp only [fr, hne, Bool.false_or]
      rw [ih]
      by_cases hlt : i < k
      · have h1 : i < k + 1 := by omega
        simp only [hlt, h1, if_true]
        by_cases hLk : L k = true
        · simp only [hLk, if_true]
          exact Act.put_comm _ _ _ (fun d h1 h2 => hik (hd i k d hi (by omega) h1 h2))
        · simp only [hLk]; rfl
      · have h1 : ¬ i < k + 1 := by omega
        simp only [hlt, h1, if_false]

theorem fr_slot_none {L : Nat → Bool} {t : Tmp} (k : Nat) (h : ∀ j, j < k → L j = true → dst j ≠ some t) : (fr a dst val L k).tmps.getD t undef = a.tmps.getD t undef := by
  induction k with
  | zero => rfl
  | succ k ih =>
    unfold fr
    split
    · rename_i hL
      have hne := h k (by omega) hL
      rw [← ih (fun j hj => h j (by omega))]
      cases hdk : dst k with
      | none => rfl
      | some d =>
        have : d ≠ t := fun e => hne (by rw [hdk, e])
        simp [Act.put, Array.getElem?_setIfInBounds_ne this]
    · exact ih (fun j hj => h j (by omega))

theorem fr_slot_some {m : Nat} (hd : Distinct dst m) {L : Nat → Bool} {t : Tmp} {i : Nat} (ht : t < a.tmps.size) (hdi : dst i = some t) (hLi : L i = true) : ∀ k, k ≤ m → i < k → (fr a dst val L k).tmps.getD t undef = val i := by
  intro k
  induction k with
  | zero => intro _ h; omega
  | succ k ih =>
    intro hk hik
    unfold fr
    by_cases he : i = k
    · subst he
      have hs : t < (fr a dst val L i).tmps.size := by rw [fr_size]; exact ht
      simp [hLi, hdi, Act.put, hs]
    · have ih := ih (by omega) (by omega)
      split
      · cases hdk : dst k with
        | none => exact ih
        | some d =>
          have : d ≠ t := fun e => he (hd i k t (by omega) (by omega) hdi (by rw [hdk, e]))
          rw [← ih]
          simp [Act.put, Array.getElem?_setIfInBounds_ne this]
      · exact ih
end frames

/-! ### What hangs on what -/
/-- The operations that L names are closed: what one of them waits for is named too. -/
def Closed (ops : Array Oper) (L : Nat → Bool) : Prop := ∀ (i : Nat) (o : Oper), ops[i]? = some o → L i = true → ∀ e ∈ o.after, Region.binds .any e = true → L e.on = true

def maskOf (acc : List Nat) (o : Oper) : Nat := o.after.toList.foldl (fun s e => if Region.binds .any e then s ||| (2 ^ e.on ||| acc.getD e.on 0) else s) 0
def befL : List Oper → List Nat → List Nat
  | [], acc => acc
  | o :: r, acc => befL r (acc ++ [maskOf acc o])

theorem mask_bit (acc : List Nat) (l : List Edge) (s j : Nat) (h : (l.foldl (fun s e => if Region.binds .any e then s ||| (2 ^ e.on ||| acc.getD e.on 0) else s) s).testBit j = true) :
    s.testBit j = true ∨ ∃ e ∈ l, Region.binds .any e = true ∧ (e.on = j ∨ (acc.getD e.on 0).testBit j = true) := by
  induction l generalizing s with
  | nil => exact .inl h
  | cons e l ih =>
    rcases ih _ h with h1 | ⟨e', he', h1⟩
    · dsimp only at h1
      split at h1
      · rename_i hb
        rw [Nat.testBit_or, Nat.testBit_or, Nat.testBit_two_pow] at h1
        simp only [Bool.or_eq_true, decide_eq_true_eq] at h1
        rcases h1 with h1 | h1 | h1
        · exact .inl h1
        · exact .inr ⟨e, List.mem_cons_self .., hb, .inl h1⟩
        · exact .inr ⟨e, List.mem_cons_self .., hb, .inr h1⟩
      · exact .inl h1
    · exact .inr ⟨e', List.mem_cons_of_mem _ he', h1⟩

/-- Each mask tells only of operations that must have come up. -/
def GoodMasks (ops : Array Oper) (acc : List Nat) : Prop := ∀ (i : Nat) (o : Oper), i < acc.length → ops[i]? = some o → ∀ L, Closed ops L → (∀ e ∈ o.after, Region.binds .any e = true → L e.on = true) → ∀ j, (acc.getD i 0).testBit j = true → L j = true

theorem befL_good (ops : Array Oper) : ∀ (l : List Oper) (acc : List Nat), GoodMasks ops acc → (∀ i, l[i]? = ops[acc.length + i]?) → GoodMasks ops (befL l acc) := by
  intro l
  induction l with
  | nil => intro acc h _; exact h
  | cons o l ih =>
    intro acc h hl
    refine ih _ ?_ (fun i => by have := hl (i + 1); simp only [List.getElem?_cons_succ] at this; rw [this]; simp; congr 1; omega)
    intro i o' hi ho' L hL hd j hj
    rw [List.length_append] at hi
    by_cases hlt : i < acc.length
    · rw [List.getD_eq_getElem?_getD, List.getElem?_append_left hlt, ← List.getD_eq_getElem?_getD] at hj
      exact h i o' hlt ho' L hL hd j hj
    · have hie : i = acc.length := by simp at hi; omega
      subst hie
      have h0 := hl 0
      simp only [List.getElem?_cons_zero, Nat.add_zero] at h0
      rw [ho'] at h0
      injection h0 with h0
      subst h0
      rw [List.getD_eq_getElem?_getD, List.getElem?_append_right (Nat.le_refl _)] at hj
      simp only [Nat.sub_self, List.getElem?_cons_zero, Option.getD_some] at hj
      rcases mask_bit _ _ _ _ hj with h1 | ⟨e, he, hb, h1 | h1⟩
      · simp at h1
      · rw [← h1]; exact hd e (by simpa using he) hb
      · have hLe := hd e (by simpa using he) hb
        have hlt : e.on < acc.length := by
          rcases Nat.lt_or_ge e.on acc.length with hlt | hge
          · exact hlt
          · rw [List.getD_eq_getElem?_getD, List.getElem?_eq_none hge] at h1; simp at h1
        cases hoe : ops[e.on]? with
        | none =>
          exfalso
          have h1 : e.on ≥ ops.size := by simpa using hoe
          have h2 : acc.length < ops.size := (Array.getElem?_eq_some_iff.1 ho').1
          omega
        | some oe => exact h e.on oe hlt hoe L hL (fun e' he' hb' => hL e.on oe hoe hLe e' he' hb') j h1

/-! ### The check -/
def isAllocAt (ops : Array Oper) (j : Nat) : Bool := match (ops[j]?).map (·.op) with | some (Op.alloc _) => true | _ => false
def dstAt (ops : Array Oper) (j : Nat) : Option Tmp := (ops[j]?).bind (·.dst)

/-- An operation that hangs on its operands alone. -/
def isFloatOp : Op → Bool
  | .extract _ _ | .move _ => true
  | _ => false
def isFloatAt (ops : Array Oper) (j : Nat) : Bool := match ops[j]? with | some o => isFloatOp o.op | none => false

def headOk (ops : Array Oper) (m N : Nat) : Bool :=
  let b := befL ops.toList []
  Region.noSelect ops && decide (m ≤ ops.size) &&
  (List.range ops.size).all fun i => match ops[i]? with
    | none => false
    | some o =>
      o.after.toList.all (fun e => !Region.binds .any e || decide (e.on < i)) &&
      (if i < m then
         o.guard.isNone &&
         (match o.dst with | none => true | some d => decide (d < N) && (List.range m).all fun j => j == i || dstAt ops j != some d) &&
         ((o.looksAt ops).all fun t => (List.range m).all fun j => dstAt ops j != some t || (decide (j < i) && (b.getD i 0).testBit j && !isAllocAt ops j)) &&
         (!isFloatOp o.op || (List.range ops.size).all fun j => j == i || (b.getD i 0).testBit j || match ops[j]? with
           | some oj => oj.after.toList.any (fun e => Region.binds .any e && e.on == i) || o.apart ops oj
           | none => true)
       else (List.range i).all fun j => (b.getD i 0).testBit j || (decide (j < m) && isFloatAt ops j))

structure HeadOk (ops : Array Oper) (m N : Nat) : Prop where
  sel : Region.noSelect ops = true
  le : m ≤ ops.size
  back : ∀ (i : Nat) (o : Oper), ops[i]? = some o → ∀ e ∈ o.after, Region.binds .any e = true → e.on < i
  guard : ∀ (i : Nat) (o : Oper), ops[i]? = some o → i < m → o.guard = none
  lt : ∀ (i : Nat) (d : Tmp), i < m → dstAt ops i = some d → d < N
  dist : Distinct (dstAt ops) m
  looks : ∀ (i : Nat) (o : Oper), ops[i]? = some o → i < m → ∀ t ∈ o.looksAt ops, ∀ j, j < m → dstAt ops j = some t → j < i ∧ isAllocAt ops j = false ∧
    ∀ L, Closed ops L → (∀ e ∈ o.after, Region.binds .any e = true → L e.on = true) → L j = true
  float : ∀ (i : Nat) (o : Oper), ops[i]? = some o → i < m → isFloatOp o.op = true → ∀ L, Closed ops L → (∀ e ∈ o.after, Region.binds .any e = true → L e.on = true) →
    ∀ (j : Nat) (oj : Oper), ops[j]? = some oj → j ≠ i → L j = false → (∀ e ∈ oj.after, Region.binds .any e = true → e.on ≠ i) → o.apart ops oj = true
  tail : ∀ (i : Nat) (o : Oper), ops[i]? = some o → m ≤ i → ∀ j, j < i → (j < m → isFloatAt ops j = false) → ∀ L, Closed ops L → (∀ e ∈ o.after, Region.binds .any e = true → L e.on = true) → L j = true

theorem headOk_spec {ops : Array Oper} {m N : Nat} (h : headOk ops m N = true) : HeadOk ops m N := by
  have good : GoodMasks ops (befL ops.toList []) := befL_good ops ops.toList [] (fun i o hi => by simp at hi) (fun i => by simp)
  have len : ∀ (l : List Oper) (acc : List Nat), (befL l acc).length = acc.length + l.length := by
    intro l
    induction l with
    | nil => intro acc; rfl
    | cons o l ih => intro acc; rw [befL, ih]; simp; omega
  have hlen : (befL ops.toList []).length = ops.size := by rw [len]; simp
  unfold headOk at h
  simp only [Bool.and_eq_true, decide_eq_true_eq, List.all_eq_true, List.mem_range] at h
  obtain ⟨⟨h1, h2⟩, h3⟩ := h
  have at_ : ∀ (i : Nat) (o : Oper), ops[i]? = some o → i < ops.size := fun i o ho => (Array.getElem?_eq_some_iff.1 ho).1
  have mk : ∀ (i : Nat) (o : Oper), ops[i]? = some o → ∀ j, ((befL ops.toList []).getD i 0).testBit j = true → ∀ L, Closed ops L → (∀ e ∈ o.after, Region.binds .any e = true → L e.on = true) → L j = true :=
    fun i o ho j hj L hL hd => good i o (by rw [hlen]; exact at_ i o ho) ho L hL hd j hj
  refine ⟨h1, h2, ?_, ?_, ?_, ?_, ?_, ?_, ?_⟩
  · intro i o ho e he hb
    have h4 := h3 i (at_ i o ho)
    rw [ho] at h4
    simp only [Bool.and_eq_true, List.all_eq_true] at h4
    have := h4.1 e (by simpa using he)
    simpa [hb] using this
  · intro i o ho hi
    have h4 := h3 i (at_ i o ho)
    rw [ho] at h4
    simp only [Bool.and_eq_true, hi, if_true] at h4
    simpa using h4.2.1.1.1
  · intro i d hi hd
    have hs : i < ops.size := by omega
    have h4 := h3 i hs
    have ho : ops[i]? = some ops[i] := Array.getElem?_eq_getElem hs
    rw [ho] at h4
    simp only [Bool.and_eq_true, hi, if_true] at h4
    have h5 := h4.2.1.1.2
    simp only [dstAt, ho, Option.bind_some] at hd
    rw [hd] at h5
    simp only [Bool.and_eq_true, decide_eq_true_eq] at h5
    exact h5.1
  · intro i j t hi hj hdi hdj
    have hs : i < ops.size := by omega
    have h4 := h3 i hs
    have ho : ops[i]? = some ops[i] := Array.getElem?_eq_getElem hs
    rw [ho] at h4
    simp only [Bool.and_eq_true, hi, if_true] at h4
    have h5 := h4.2.1.1.2
    simp only [dstAt, ho, Option.bind_some] at hdi
    rw [hdi] at h5
    simp only [Bool.and_eq_true, decide_eq_true_eq, List.all_eq_true, List.mem_range] at h5
    have h6 := h5.2 j hj
    rw [hdj] at h6
    simp at h6
    exact h6.symm
  · intro i o ho hi t ht j hj hdj
    have h4 := h3 i (at_ i o ho)
    rw [ho] at h4
    simp only [Bool.and_eq_true, hi, if_true, List.all_eq_true, List.mem_range] at h4
    have h5 := h4.2.1.2 t ht j hj
    rw [hdj] at h5
    simp at h5
    exact ⟨h5.1.1, by simpa using h5.2, mk i o ho j h5.1.2⟩
  · intro i o ho hi hfl L hL hd j oj hoj hji hLj hno
    have h4 := h3 i (at_ i o ho)
    rw [ho] at h4
    simp only [Bool.and_eq_true, hi, if_true, hfl, Bool.not_true, Bool.false_or, List.all_eq_true, List.mem_range] at h4
    have h5 := h4.2.2 j (at_ j oj hoj)
    rw [hoj] at h5
    simp only [Bool.or_eq_true, beq_iff_eq, hji, false_or] at h5
    rcases h5 with h5 | h5 | h5
    · have := mk i o ho j h5 L hL hd
      rw [hLj] at this; cases this
    · rw [List.any_eq_true] at h5
      obtain ⟨e, he, hb⟩ := h5
      simp only [Bool.and_eq_true, beq_iff_eq] at hb
      exact absurd hb.2 (hno e (by simpa using he) hb.1)
    · exact h5
  · intro i o ho hi j hj hjf
    have h4 := h3 i (at_ i o ho)
    rw [ho] at h4
    have hn : ¬ i < m := by omega
    simp only [Bool.and_eq_true, hn, if_false, List.all_eq_true, List.mem_range] at h4
    have h5 := h4.2 j hj
    rw [Bool.or_eq_true, Bool.and_eq_true, decide_eq_true_eq] at h5
    rcases h5 with h5 | ⟨h5, h6⟩
    · exact mk i o ho j h5
    · rw [hjf h5] at h6; cases h6


/-! ### The run of the head, in the order of the text, over a world of which S alone is known -/
/-- In the state a and the world w the operation gives v, and writes nothing that was there. -/
def Gets (P : Program) (o : Oper) (a : Act) (v : Value) (w : World) : Prop :=
  (execOp a.eval o).run P w = .ok (.value v) w ∨
  ∃ f args, (execOp a.eval o).run P w = .ok (.enter f args) w ∧ Calls P f args w fun e w' => e = .returned v ∧ Below w.heap.size w w'

/-- A variable that the region makes: its slot, its first cells, its type. -/
structure MadeVar where
  dst : Tmp
  zs : Array Value
  ty : TypeId

def headRun (P : Program) (S : World → Prop) (K : Act → List MadeVar → Prop) : List Oper → Act → List MadeVar → Prop
  | [], a, ms => K a ms
  | o :: rest, a, ms => (∃ v, (∀ w, S w → Gets P o a v w) ∧ headRun P S K rest (a.put o.dst v) ms) ∨
      (∃ d zs T, o.dst = some d ∧ o.op = .alloc T ∧ (∀ w, (Instr.alloc T true (.tuple #[])).run P w = .ok (.pointer (some ⟨w.heap.size, 0, none⟩)) (w.alloc (.cells zs T))) ∧ headRun P S K rest a (ms ++ [⟨d, zs, T⟩]))

/-- What one operation of the head does. -/
def Does (P : Program) (S : World → Prop) (o : Oper) (a : Act) (isV : Bool) (v : Value) (mk : MadeVar) : Prop :=
  match isV with
  | true => ∀ w, S w → Gets P o a v w
  | false => o.dst = some mk.dst ∧ o.op = .alloc mk.ty ∧ ∀ w, (Instr.alloc mk.ty true (.tuple #[])).run P w = .ok (.pointer (some ⟨w.heap.size, 0, none⟩)) (w.alloc (.cells mk.zs mk.ty))

theorem headRun_mono {P : Program} {S : World → Prop} {K K' : Act → List MadeVar → Prop} (hk : ∀ a ms, K a ms → K' a ms) : ∀ (l : List Oper) (a : Act) (ms : List MadeVar), headRun P S K l a ms → headRun P S K' l a ms
  | [], a, ms, h => hk a ms h
  | o :: rest, a, ms, h => by
    rcases h with ⟨v, hv, h⟩ | ⟨d, zs, T, h1, h2, h3, h⟩
    · exact .inl ⟨v, hv, headRun_mono hk rest _ _ h⟩
    · exact .inr ⟨d, zs, T, h1, h2, h3, headRun_mono hk rest _ _ h⟩

theorem headRun_spec {P : Program} {S : World → Prop} {K : Act → List MadeVar → Prop} {ops : Array Oper} {m : Nat} {a : Act} (hd : Distinct (dstAt ops) m) (hm : m ≤ ops.size) :
    ∀ (k i : Nat), i + k = m → ∀ (l : List Oper) (val : Nat → Value) (isV : Nat → Bool) (mk : Nat → MadeVar) (ms : List MadeVar), (∀ j, j < k → l[j]? = ops[i + j]?) → l.length = k →
      headRun P S K l (fr a (dstAt ops) val (fun j => decide (j < i) && isV j) m) ms →
      ∃ (val' : Nat → Value) (isV' : Nat → Bool) (mk' : Nat → MadeVar), (∀ j, j < i → val' j = val j ∧ isV' j = isV j ∧ mk' j = mk j) ∧
        (∀ j o, i ≤ j → j < m → ops[j]? = some o → Does P S o (fr a (dstAt ops) val' (fun x => decide (x < j) && isV' x) m) (isV' j) (val' j) (mk' j)) ∧
        K (fr a (dstAt ops) val' (fun x => decide (x < m) && isV' x) m) (ms ++ ((List.range' i k).filter (fun x => !isV' x)).map mk') := by
  intro k
  induction k with
  | zero =>
    intro i hi l val isV mk ms hl hlen h
    have : l = [] := List.eq_nil_of_length_eq_zero hlen
    subst this
    obtain rfl : i = m := by omega
    exact ⟨val, isV, mk, fun j hj => ⟨rfl, rfl, rfl⟩, fun j o h1 h2 => by omega, by simpa [headRun] using h⟩
  | succ k ih =>
    intro i hi l val isV mk ms hl hlen h
    match l, hlen with
    | o :: rest, hlen =>
      have ho : ops[i]? = some o := by have := hl 0 (by omega); simpa using this.symm
      have hdst : dstAt ops i = o.dst := by simp [dstAt, ho]
      have hrest : ∀ j, j < k → rest[j]? = ops[i + 1 + j]? := fun j hj => by
        have := hl (j + 1) (by omega)
        simp only [List.getElem?_cons_succ] at this
        rw [this]; congr 1; omega
      rcases h with ⟨v, hv, h⟩ | ⟨d, zs, T, h1, h2, h3, h⟩
      · -- a value
        have e : fr a (dstAt ops) (fun j => if j = i then v else val j) (fun j => decide (j < i + 1) && (if j = i then true else isV j)) m =
            (fr a (dstAt ops) val (fun j => decide (j < i) && isV j) m).put o.dst v := by
          have hs := fr_set (a := a) (val := fun j => if j = i then v else val j) hd (L := fun j => decide (j < i) && isV j) (i := i) (by omega) (by simp) m (Nat.le_refl _)
          rw [if_pos (by omega)] at hs
          rw [if_pos rfl, hdst] at hs
          have e1 : fr a (dstAt ops) (fun j => if j = i then v else val j) (fun j => decide (j < i) && isV j) m = fr a (dstAt ops) val (fun j => decide (j < i) && isV j) m :=
            fr_congr m (fun _ _ => rfl) (fun j _ hL => by
              simp only [Bool.and_eq_true, decide_eq_true_eq] at hL
              rw [if_neg (by omega)])
          rw [e1] at hs
          rw [← hs]
          refine fr_congr m (fun j _ => ?_) (fun _ _ _ => rfl)
          by_cases hji : j = i
          · subst hji; simp
          · have : decide (j < i + 1) = decide (j < i) := by rw [Bool.eq_iff_iff]; simp; omega
            simp [hji, this]
        rw [← e] at h
        obtain ⟨val', isV', mk', hk, hr, hK⟩ := ih (i + 1) (by omega) rest _ _ mk ms hrest (by simpa using hlen) h
        have ki := hk i (by omega)
        simp only [if_true] at ki
        refine ⟨val', isV', mk', fun j hj => ?_, fun j o' hij hjm ho' => ?_, ?_⟩
        · have := hk j (by omega)
          simp only [show j ≠ i by omega, if_false] at this
          exact this
        · by_cases hji : j = i
          · subst hji
            rw [ho] at ho'
            injection ho' with ho'
            subst ho'
            unfold Does
            rw [ki.2.1, ki.1]
            have e2 : fr a (dstAt ops) val' (fun x => decide (x < j) && isV' x) m = fr a (dstAt ops) val (fun x => decide (x < j) && isV x) m :=
              fr_congr m (fun x _ => by
                by_cases hx : x < j
                · have := (hk x (by omega)).2.1; simp only [show x ≠ j by omega, if_false] at this; simp [hx, this]
                · simp [hx]) (fun x _ hL => by
                simp only [Bool.and_eq_true, decide_eq_true_eq] at hL
                have := (hk x (by omega)).1
                simp only [show x ≠ j by omega, if_false] at this
                exact this)
            rw [e2]
            exact hv
          · exact hr j o' (by omega) hjm ho'
        · rw [List.range'_succ, List.filter_cons]
          simpa [ki.2.1] using hK
      · -- a new variable
        have e : fr a (dstAt ops) val (fun j => decide (j < i + 1) && (if j = i then false else isV j)) m = fr a (dstAt ops) val (fun j => decide (j < i) && isV j) m :=
          fr_congr m (fun j _ => by
            by_cases hji : j = i
            · subst hji; simp
            · have : decide (j < i + 1) = decide (j < i) := by rw [Bool.eq_iff_iff]; simp; omega
              simp [hji, this]) (fun _ _ _ => rfl)
        rw [← e] at h
        obtain ⟨val', isV', mk', hk, hr, hK⟩ := ih (i + 1) (by omega) rest _ _ (fun j => if j = i then ⟨d, zs, T⟩ else mk j) _ hrest (by simpa using hlen) h
        have ki := hk i (by omega)
        simp only [if_true] at ki
        refine ⟨val', isV', mk', fun j hj => ?_, fun j o' hij hjm ho' => ?_, ?_⟩
        · have := hk j (by omega)
          simp only [show j ≠ i by omega, if_false] at this
          exact this
        · by_cases hji : j = i
          · subst hji
            rw [ho] at ho'
            injection ho' with ho'
            subst ho'
            unfold Does
            rw [ki.2.1, ki.2.2]
            exact ⟨h1, h2, h3⟩
          · exact hr j o' (by omega) hjm ho'
        · rw [List.range'_succ, List.filter_cons]
          simpa [ki.2.1, ki.2.2, List.append_assoc] using hK


/-! ### Whatever order is picked -/
def putAll : Act → List MadeVar → List Nat → Act
  | a, m :: ms, g :: gs => putAll (a.put (some m.dst) (.pointer (some ⟨g, 0, none⟩))) ms gs
  | a, _, _ => a

/-- The region's new variables: each in a block of its own that was not there, holding its first cells. -/
def MadeFacts (w0 w' : World) : List MadeVar → List Nat → Prop
  | [], [] => True
  | m :: ms, g :: gs => (w0.heap.size ≤ g ∧ g < w'.heap.size ∧ w'.heap[g]? = some (.cells m.zs m.ty (0, 0)) ∧ g ∉ gs) ∧ MadeFacts w0 w' ms gs
  | _, _ => False

section main
variable {P : Program} {ops : Array Oper} {m N : Nat} {Q : Exit → Act → World → Prop} {S : World → Prop} {a : Act} {w0 : World} {val : Nat → Value} {isV : Nat → Bool} {mk : Nat → MadeVar}

def fv (val : Nat → Value) (isV : Nat → Bool) (γ : Nat → Nat) (j : Nat) : Value := if isV j then val j else .pointer (some ⟨γ j, 0, none⟩)

structure Inv (ops : Array Oper) (m : Nat) (S : World → Prop) (a : Act) (w0 : World) (val : Nat → Value) (isV : Nat → Bool) (mk : Nat → MadeVar) (L : Array Bool) (γ : Nat → Nat) (b : Act) (u : World) : Prop where
  size : L.size = ops.size
  closed : Closed ops (fun i => L.getD i false)
  frame : b = fr a (dstAt ops) (fv val isV γ) (fun j => L.getD j false) m
  st : S u
  below : Below w0.heap.size w0 u
  made : ∀ j, j < m → L.getD j false = true → isV j = false → w0.heap.size ≤ γ j ∧ γ j < u.heap.size ∧ u.heap[γ j]? = some (.cells (mk j).zs (mk j).ty (0, 0))
  dist : ∀ j j', j < m → j' < m → L.getD j false = true → L.getD j' false = true → isV j = false → isV j' = false → γ j = γ j' → j = j'

theorem getD_set (L : Array Bool) (i j : Nat) (hi : i < L.size) : (L.setIfInBounds i true).getD j false = (j == i || L.getD j false) := by
  by_cases h : i = j
  · subst h; simp [hi]
  · have : (j == i) = false := by simpa using fun e => h e.symm
    rw [getD_set_ne false h, this, Bool.false_or]

theorem getD_default {L : Array Bool} {i : Nat} (hi : i < L.size) : L.getD i true = L.getD i false := by simp [hi]

theorem ready_spec {i : Nat} {L : Array Bool} (h : i ∈ Region.ready .any ops L) (hs : L.size = ops.size) : i < ops.size ∧ L.getD i false = false ∧ ∃ o, ops[i]? = some o ∧ ∀ e ∈ o.after, Region.binds .any e = true → L.getD e.on false = true := by
  obtain ⟨h0, o, ho, hall⟩ := mem_ready.1 h
  have hi := (Array.getElem?_eq_some_iff.1 ho).1
  exact ⟨hi, by rw [← getD_default (by omega)]; exact h0, o, ho, hall⟩

theorem Inv.closed' {L : Array Bool} {i : Nat} {o : Oper} (hs : L.size = ops.size) (hc : Closed ops (fun i => L.getD i false)) (hi : i < ops.size) (ho : ops[i]? = some o) (hall : ∀ e ∈ o.after, Region.binds .any e = true → L.getD e.on false = true) :
    Closed ops (fun j => (L.setIfInBounds i true).getD j false) := by
  intro j oj hoj hj e he hb
  simp only [getD_set L i _ (by omega : i < L.size)] at hj ⊢
  rcases Bool.or_eq_true_iff.1 hj with h1 | h1
  · have : j = i := by simpa using h1
    subst this
    rw [ho] at hoj
    injection hoj with hoj
    subst hoj
    rw [hall e he hb, Bool.or_true]
  · have h2 : L.getD e.on false = true := hc j oj hoj h1 e he hb
    rw [h2, Bool.or_true]

theorem Inv.eval {L : Array Bool} {γ : Nat → Nat} {b : Act} {u : World} (hok : HeadOk ops m N) (hN : a.tmps.size = N) (h : Inv ops m S a w0 val isV mk L γ b u)
    (hdo : ∀ j o, j < m → ops[j]? = some o → Does P S o (fr a (dstAt ops) val (fun x => decide (x < j) && isV x) m) (isV j) (val j) (mk j))
    {i : Nat} {o : Oper} (hi : i < m) (ho : ops[i]? = some o) (hall : ∀ e ∈ o.after, Region.binds .any e = true → L.getD e.on false = true) :
    execOp b.eval o = execOp (fr a (dstAt ops) val (fun x => decide (x < i) && isV x) m).eval o := by
  refine execOp_congr o (fun cs b => Region.noSelect_spec hok.sel i o cs b ho) fun x hx => ?_
  cases x with
  | tmp t =>
    have ht : t ∈ o.looksAt ops := List.mem_append_left _ (List.mem_filterMap.2 ⟨.tmp t, by simpa using hx, rfl⟩)
    show b.tmps.getD t undef = (fr a (dstAt ops) val (fun x => decide (x < i) && isV x) m).tmps.getD t undef
    rw [h.frame]
    by_cases hw : ∃ j, j < m ∧ dstAt ops j = some t
    · obtain ⟨j, hj, hdj⟩ := hw
      obtain ⟨hji, hal, hL⟩ := hok.looks i o ho hi t ht j hj hdj
      have hLj : L.getD j false = true := hL _ h.closed hall
      have hoj : ops[j]? = some (ops[j]'(by have := hok.le; omega)) := Array.getElem?_eq_getElem _
      have hvj : isV j = true := by
        cases hv : isV j with
        | true => rfl
        | false =>
          have hd := hdo j _ hj hoj
          unfold Does at hd
          rw [hv] at hd
          unfold isAllocAt at hal
          rw [hoj] at hal
          simp only [Option.map_some, hd.2.1] at hal
          cases hal
      have htN : t < a.tmps.size := by rw [hN]; exact hok.lt j t hj hdj
      rw [fr_slot_some hok.dist htN hdj hLj m (Nat.le_refl _) hj, fr_slot_some hok.dist htN hdj (by simp [hji, hvj]) m (Nat.le_refl _) hj]
      simp [fv, hvj]
    · have hno : ∀ j, j < m → dstAt ops j ≠ some t := fun j hj hd => hw ⟨j, hj, hd⟩
      rw [fr_slot_none m (fun j hj _ => hno j hj), fr_slot_none m (fun j hj _ => hno j hj)]
  | const v => rfl
  | global g => rfl
  | func f => rfl

/-- How many of the first k have not come up. -/
def cnt (L : Array Bool) : Nat → Nat
  | 0 => 0
  | k + 1 => cnt L k + if L.getD k true then 0 else 1
theorem cnt_set (L : Array Bool) (i : Nat) (hi : i < L.size) (hf : L.getD i true = false) : ∀ k, cnt (L.setIfInBounds i true) k + (if i < k then 1 else 0) = cnt L k := by
  intro k
  induction k with
  | zero => simp [cnt]
  | succ k ih =>
    simp only [cnt]
    by_cases hik : i = k
    · subst hik
      have h1 : (L.setIfInBounds i true).getD i true = true := by simp
      rw [h1, hf]
      simp at ih ⊢
      omega
    · rw [getD_set_ne true hik]
      have : (if i < k + 1 then 1 else 0) = (if i < k then 1 else 0) := by
        by_cases h : i < k
        · rw [if_pos h, if_pos (by omega)]
        · rw [if_neg h, if_neg (by omega)]
      rw [this]
      omega
theorem cnt_pos {L : Array Bool} {i k : Nat} (hi : i < k) (hf : L.getD i true = false) : 0 < cnt L k := by
  induction k with
  | zero => omega
  | succ k ih =>
    simp only [cnt]
    by_cases hik : i = k
    · subst hik; rw [hf]; simp
    · have := ih (by omega); omega

/-- The tail: one operation behind the other. -/
theorem tail_run (hok : HeadOk ops m N) : ∀ (r k : Nat), k + r = ops.size → m ≤ k → ∀ (fuel : Nat) (L : Array Bool) (b : Act) (u : World), L.size = ops.size → Closed ops (fun i => L.getD i false) →
    (∀ j, j < ops.size → (L.getD j false = true ↔ j < k)) → r ≤ fuel → wpList P ops Q (ops.toList.drop k) b u → wpAny P .any ops Q fuel L b u := by
  intro r
  induction r with
  | zero =>
    intro k hk hm fuel L b u hs hc hL _ h
    have hr : Region.ready .any ops L = [] := by
      rw [List.eq_nil_iff_forall_not_mem]
      intro i hi
      obtain ⟨h1, h2, _⟩ := ready_spec hi hs
      rw [(hL i h1).2 (by omega)] at h2
      cases h2
    have hq : Q .normal b u := by
      rw [List.drop_eq_nil_of_le (by simp; omega)] at h
      exact h
    exact wpAny_done hr hq fuel
  | succ r ih =>
    intro k hk hm fuel L b u hs hc hL hf h
    match fuel, hf with
    | fuel + 1, hf =>
      have hks : k < ops.size := by omega
      have hok' : ops[k]? = some ops[k] := Array.getElem?_eq_getElem hks
      have hLk : L.getD k false = false := by
        cases hx : L.getD k false with
        | false => rfl
        | true => have := (hL k hks).1 hx; omega
      have hall : ∀ e ∈ ops[k].after, Region.binds .any e = true → L.getD e.on false = true := fun e he hb => by
        have := hok.back k _ hok' e he hb
        exact (hL e.on (by omega)).2 this
      have hmem : k ∈ Region.ready .any ops L := mem_ready.2 ⟨by rw [getD_default (by omega)]; exact hLk, _, hok', hall⟩
      refine ⟨fun h0 => (by rw [h0] at hmem; cases hmem), fun i hi => ?_⟩
      obtain ⟨hi1, hi2, o, ho, hio⟩ := ready_spec hi hs
      have hik : i = k := by
        have h1 : ¬ i < k := fun h' => by rw [(hL i hi1).2 h'] at hi2; cases hi2
        rcases Nat.lt_or_ge k i with h2 | h2
        · have := hok.tail i o ho (by omega) k h2 (fun h' => by omega) _ hc hio
          rw [hLk] at this; cases this
        · omega
      subst hik
      rw [List.drop_eq_getElem_cons (by simpa using hks)] at h
      have e : ops.toList[i]'(by simpa using hks) = ops[i] := by simp
      rw [e] at h
      have hnext : ∀ b' u', wpList P ops Q (ops.toList.drop (i + 1)) b' u' → wpAny P .any ops Q fuel (L.setIfInBounds i true) b' u' := fun b' u' h' =>
        ih (i + 1) (by omega) (by omega) fuel _ b' u' (by simp [hs]) (Inv.closed' hs hc hks hok' hall) (fun j hj => by
          rw [getD_set L i j (by omega), Bool.or_eq_true, beq_iff_eq, hL j hj]; omega) (by omega) h'
      unfold wpOp
      rw [hok']
      simp only [wpList] at h
      by_cases hw : Region.wanted ops[i] (yielded ops b.tmps) = true
      · simp only [hw, if_true] at h ⊢
        exact h.imp (Oper.wp_mono hnext) id
      · simp only [hw] at h ⊢
        exact hnext _ _ h

/-- What hangs on its operands alone gives the same in every world. -/
theorem float_yields {o : Oper} {b : Act} {v : Value} {u : World} (hfl : isFloatOp o.op = true) (hg : Gets P o b v u) (hw : Region.wanted o (yielded ops b.tmps) = true) : Yields P ops o v b := by
  refine .inl ⟨hw, fun w => ?_⟩
  obtain ⟨dst, op, type, pos, after, guard⟩ := o
  cases op <;> simp only [isFloatOp] at hfl <;> try (cases hfl)
  case move x =>
    rcases hg with hg | ⟨f, args, hg, _⟩ <;> simp only [execOp, Sem.run_pure] at hg ⊢
    · injection hg with hg; injection hg with hg; rw [hg]
    · injection hg with hg; cases hg
  case extract x i =>
    rcases hg with hg | ⟨f, args, hg, _⟩ <;> unfold execOp at hg ⊢ <;> simp only [Instr.extract] at hg ⊢ <;> revert hg <;> split <;> intro hg
    all_goals first
      | (split at hg <;> simp_all [stuck, Sem.run] ; done)
      | (simp_all [stuck, Sem.run]; done)

/-- The head: whatever order is picked. -/
theorem head_run (hok : HeadOk ops m N) (hN : a.tmps.size = N) (hQ : ∀ c a d v w, Q (.panic c) (a.put d v) w → Q (.panic c) a w) (hst : ∀ W w1 : World, Below W.heap.size W w1 → S W → S w1)
    (hdo : ∀ j o, j < m → ops[j]? = some o → Does P S o (fr a (dstAt ops) val (fun x => decide (x < j) && isV x) m) (isV j) (val j) (mk j))
    (hend : ∀ L γ b u, Inv ops m S a w0 val isV mk L γ b u → (∀ j, j < m → L.getD j false = true) → wpList P ops Q (ops.toList.drop m) b u) :
    ∀ (fuel : Nat) (L : Array Bool) (γ : Nat → Nat) (b : Act) (u : World), Inv ops m S a w0 val isV mk L γ b u → (∀ j, m ≤ j → j < ops.size → L.getD j false = false) → cnt L ops.size ≤ fuel → wpAny P .any ops Q fuel L b u := by
  intro fuel
  induction fuel with
  | zero =>
    intro L γ b u h hT hf
    have hz : ∀ j, j < ops.size → L.getD j false = true := fun j hj => by
      cases hx : L.getD j false with
      | true => rfl
      | false =>
        have := cnt_pos (L := L) hj (by rw [getD_default (by have := h.size; omega)]; exact hx)
        omega
    have hm : m = ops.size := by
      rcases Nat.lt_or_ge m ops.size with h1 | h1
      · have := hT m (Nat.le_refl _) h1; rw [hz m h1] at this; cases this
      · have := hok.le; omega
    refine tail_run hok 0 m (by omega) (Nat.le_refl _) 0 L b u h.size h.closed (fun j hj => ⟨fun _ => by omega, fun _ => hz j hj⟩) (Nat.le_refl _) (hend L γ b u h (fun j hj => hz j (by omega)))
  | succ fuel ih =>
    intro L γ b u h hT hf
    by_cases hall : ∀ j, j < m → L.getD j false = true
    · -- the head is done
      have hcm : ∀ k, cnt L k ≤ k - 0 := fun k => by
        induction k with
        | zero => simp [cnt]
        | succ k ihk => simp only [cnt]; split <;> omega
      have hcnt : ∀ k, m ≤ k → k ≤ ops.size → cnt L k = k - m := by
        intro k
        induction k with
        | zero => intro h1 _; simp [cnt]
        | succ k ihk =>
          intro h1 h2
          simp only [cnt]
          by_cases hk : m ≤ k
          · rw [ihk hk (by omega), getD_default (by have := h.size; omega), hT k hk (by omega)]
            simp; omega
          · have hkm : k + 1 = m := by omega
            have hz : ∀ k', k' ≤ m → cnt L k' = 0 := by
              intro k'
              induction k' with
              | zero => intro _; rfl
              | succ k' ihk' =>
                intro hk'
                simp only [cnt]
                rw [ihk' (by omega), getD_default (by have := h.size; omega), hall k' (by omega)]
                simp
            have := hz (k + 1) (by omega)
            simp only [cnt] at this
            omega
      have hc := hcnt ops.size hok.le (Nat.le_refl _)
      refine tail_run hok (ops.size - m) m (by have := hok.le; omega) (Nat.le_refl _) (fuel + 1) L b u h.size h.closed (fun j hj => ⟨fun hx => ?_, fun hx => hall j hx⟩) (by omega) (hend L γ b u h hall)
      rcases Nat.lt_or_ge j m with h1 | h1
      · exact h1
      · rw [hT j h1 hj] at hx; cases hx
    · by_cases hfl : ∃ i, i < m ∧ isFloatAt ops i = true ∧ i ∈ Region.ready .any ops L
      · -- one that hangs on its operands alone is taken first
        obtain ⟨i, him, hif, hi⟩ := hfl
        obtain ⟨hi1, hi2, o, ho, hio⟩ := ready_spec hi h.size
        have hof : isFloatOp o.op = true := by unfold isFloatAt at hif; rw [ho] at hif; exact hif
        have hsz : i < L.size := by rw [h.size]; exact hi1
        have hev := h.eval hok hN hdo him ho hio
        have hwant : Region.wanted o (yielded ops b.tmps) = true := by simp [Region.wanted, hok.guard i o ho him]
        have hdst : dstAt ops i = o.dst := by simp [dstAt, ho]
        have hd := hdo i o him ho
        have hv : isV i = true := by
          cases hv : isV i with
          | true => rfl
          | false =>
            unfold Does at hd
            rw [hv] at hd
            rw [hd.2.1] at hof
            cases hof
        unfold Does at hd
        rw [hv] at hd
        have hy : Yields P ops o (val i) b := float_yields (u := u) hof (by
          have := hd u h.st
          unfold Gets at this ⊢
          rw [hev]
          exact this) hwant
        have hfr : b.put o.dst (val i) = fr a (dstAt ops) (fv val isV γ) (fun j => (L.setIfInBounds i true).getD j false) m := by
          have hs := fr_set (a := a) (val := fv val isV γ) hok.dist (L := fun j => L.getD j false) (i := i) him hi2 m (Nat.le_refl _)
          rw [if_pos him, hdst, ← h.frame] at hs
          have e : fv val isV γ i = val i := by simp [fv, hv]
          rw [e] at hs
          rw [← hs]
          exact fr_congr m (fun j _ => (getD_set L i j hsz).symm) (fun _ _ _ => rfl)
        refine wpAny_first ho (Region.noSelect_spec hok.sel) (fun c a w hq => hQ c a _ _ w hq) fuel L b u (fun j oj hoj hji hLj hno => hok.float i o ho him hof _ h.closed hio j oj hoj hji (by
          have hj := (Array.getElem?_eq_some_iff.1 hoj).1
          rw [← getD_default (by rw [h.size]; exact hj)]; exact hLj) hno) hi hy ?_
        refine ih _ γ _ u ⟨by simp [h.size], Inv.closed' h.size h.closed hi1 ho hio, hfr, h.st, h.below, ?_, ?_⟩ ?_ ?_
        · intro j hj hL hvj
          rw [getD_set L i j hsz] at hL
          have hji : j ≠ i := fun e => by rw [e, hv] at hvj; cases hvj
          exact h.made j hj (by simpa [hji] using hL) hvj
        · intro j j' hj hj' hL hL' hvj hvj' he
          rw [getD_set L i j hsz] at hL
          rw [getD_set L i j' hsz] at hL'
          have hji : j ≠ i := fun e => by rw [e, hv] at hvj; cases hvj
          have hji' : j' ≠ i := fun e => by rw [e, hv] at hvj'; cases hvj'
          exact h.dist j j' hj hj' (by simpa [hji] using hL) (by simpa [hji'] using hL') hvj hvj' he
        · intro j h1 h2
          rw [getD_set L i j hsz, hT j h1 h2, Bool.or_false]
          simp; omega
        · have := cnt_set L i hsz (by rw [getD_default hsz]; exact hi2) ops.size
          rw [if_pos hi1] at this
          omega
      have hleast : ∀ k, k ≤ m → (∀ j, j < k → L.getD j false = true) ∨ ∃ j, j < k ∧ L.getD j false = false ∧ j ∈ Region.ready .any ops L := by
        intro k
        induction k with
        | zero => intro _; exact .inl fun j hj => by omega
        | succ k ihk =>
          intro hk
          rcases ihk (by omega) with h1 | ⟨j, h1, h2⟩
          · cases hx : L.getD k false with
            | true =>
              refine .inl (fun j hj => ?_)
              by_cases hjk : j < k
              · exact h1 j hjk
              · have hjk' : j = k := by omega
                rw [hjk']; exact hx
            | false =>
              have hjs : k < ops.size := by have := hok.le; omega
              have hoj : ops[k]? = some ops[k] := Array.getElem?_eq_getElem hjs
              exact .inr ⟨k, by omega, hx, mem_ready.2 ⟨by rw [getD_default (by have := h.size; omega)]; exact hx, _, hoj, fun e he hb => h1 e.on (hok.back k _ hoj e he hb)⟩⟩
          · exact .inr ⟨j, by omega, h2⟩
      refine ⟨fun h0 => ?_, fun i hi => ?_⟩
      · exfalso
        rcases hleast m (Nat.le_refl _) with h1 | ⟨j, _, _, h2⟩
        · exact hall h1
        · rw [h0] at h2; cases h2
      · obtain ⟨hi1, hi2, o, ho, hio⟩ := ready_spec hi h.size
        have him : i < m := by
          rcases Nat.lt_or_ge i m with h1 | h1
          · exact h1
          · exfalso
            rcases hleast m (Nat.le_refl _) with h2 | ⟨j, hj, hjL, hjr⟩
            · exact hall h2
            · have hjf : isFloatAt ops j = false := by
                cases hx : isFloatAt ops j with
                | false => rfl
                | true => exact absurd ⟨j, hj, hx, hjr⟩ hfl
              have := hok.tail i o ho h1 j (by omega) (fun _ => hjf) _ h.closed hio
              rw [hjL] at this; cases this
        have hsz : i < L.size := by rw [h.size]; exact hi1
        have hT' : ∀ j, m ≤ j → j < ops.size → (L.setIfInBounds i true).getD j false = false := fun j h1 h2 => by
          rw [getD_set L i j hsz, hT j h1 h2, Bool.or_false]
          simp; omega
        have hf' : cnt (L.setIfInBounds i true) ops.size ≤ fuel := by
          have := cnt_set L i hsz (by rw [getD_default hsz]; exact hi2) ops.size
          rw [if_pos hi1] at this
          omega
        have hcl := Inv.closed' h.size h.closed hi1 ho hio
        have hdst : dstAt ops i = o.dst := by simp [dstAt, ho]
        have hev := h.eval hok hN hdo him ho hio
        have hwant : Region.wanted o (yielded ops b.tmps) = true := by simp [Region.wanted, hok.guard i o ho him]
        have hfr : ∀ γ', (∀ j, j ≠ i → γ' j = γ j) → b.put o.dst (fv val isV γ' i) = fr a (dstAt ops) (fv val isV γ') (fun j => (L.setIfInBounds i true).getD j false) m := by
          intro γ' hγ
          have hs := fr_set (a := a) (val := fv val isV γ') hok.dist (L := fun j => L.getD j false) (i := i) him hi2 m (Nat.le_refl _)
          rw [if_pos him, hdst] at hs
          have e1 : fr a (dstAt ops) (fv val isV γ') (fun j => L.getD j false) m = b := by
            rw [h.frame]
            refine fr_congr m (fun _ _ => rfl) (fun j _ hL => ?_)
            have : j ≠ i := fun e => by rw [e, hi2] at hL; cases hL
            simp [fv, hγ j this]
          rw [e1] at hs
          rw [← hs]
          exact fr_congr m (fun j _ => (getD_set L i j hsz).symm) (fun _ _ _ => rfl)
        have hnext : ∀ u', Below u.heap.size u u' → isV i = true → wpAny P .any ops Q fuel (L.setIfInBounds i true) (b.put o.dst (val i)) u' := fun u' hb hv => by
          refine ih _ γ _ u' ⟨by simp [h.size], hcl, ?_, hst u u' hb h.st, h.below.trans (hb.mono h.below.size), ?_, ?_⟩ hT' hf'
          · rw [← hfr γ (fun _ _ => rfl)]
            simp [fv, hv]
          · intro j hj hL hvj
            rw [getD_set L i j hsz] at hL
            have hji : j ≠ i := fun e => by rw [e, hv] at hvj; cases hvj
            have hL' : L.getD j false = true := by simpa [hji] using hL
            obtain ⟨h1, h2, h3⟩ := h.made j hj hL' hvj
            exact ⟨h1, Nat.lt_of_lt_of_le h2 hb.size, (hb.block _ h2).trans h3⟩
          · intro j j' hj hj' hL hL' hvj hvj' he
            rw [getD_set L i j hsz] at hL
            rw [getD_set L i j' hsz] at hL'
            have hji : j ≠ i := fun e => by rw [e, hv] at hvj; cases hvj
            have hji' : j' ≠ i := fun e => by rw [e, hv] at hvj'; cases hvj'
            exact h.dist j j' hj hj' (by simpa [hji] using hL) (by simpa [hji'] using hL') hvj hvj' he
        have hd := hdo i o him ho
        unfold wpOp
        simp only [ho, hwant, if_true]
        refine .inl ?_
        unfold Oper.wp
        cases hv : isV i with
        | true =>
          unfold Does at hd
          rw [hv] at hd
          rcases hd u h.st with hg | ⟨f, args, hg, hcall⟩
          · rw [hev, hg]
            exact hnext u (Below.refl _ _) hv
          · rw [hev, hg]
            refine hcall.mono fun e w'' he => ?_
            obtain ⟨rfl, hb⟩ := he
            exact hnext w'' hb hv
        | false =>
          unfold Does at hd
          rw [hv] at hd
          obtain ⟨h1, h2, h3⟩ := hd
          have hrun : (execOp b.eval o).run P u = .ok (.value (.pointer (some ⟨u.heap.size, 0, none⟩))) (u.alloc (.cells (mk i).zs (mk i).ty)) := by
            unfold execOp
            simp only [h2, Sem.run_bind, h3, Result.andThen_ok, Sem.run_pure]
          rw [hrun]
          show wpAny P .any ops Q fuel (L.setIfInBounds i true) (b.put o.dst (.pointer (some ⟨u.heap.size, 0, none⟩))) (u.alloc (.cells (mk i).zs (mk i).ty))
          have hb : Below u.heap.size u (u.alloc (.cells (mk i).zs (mk i).ty)) := (Below.refl _ _).alloc (Nat.le_refl _) _
          refine ih _ (fun j => if j = i then u.heap.size else γ j) _ _ ⟨by simp [h.size], hcl, ?_, hst _ _ hb h.st, h.below.trans (hb.mono h.below.size), ?_, ?_⟩ hT' hf'
          · rw [← hfr _ (fun j hj => by simp [hj])]
            simp [fv, hv]
          · intro j hj hL hvj
            by_cases hji : j = i
            · subst hji
              simp only [if_true]
              exact ⟨h.below.size, by simp, heap_alloc_new u _⟩
            · rw [getD_set L i j hsz] at hL
              obtain ⟨h1, h2, h3⟩ := h.made j hj (by simpa [hji] using hL) hvj
              simp only [hji, if_false]
              exact ⟨h1, by simp; omega, (Below.heap_alloc u _ _ h2).trans h3⟩
          · intro j j' hj hj' hL hL' hvj hvj' he
            rw [getD_set L i j hsz] at hL
            rw [getD_set L i j' hsz] at hL'
            by_cases hji : j = i <;> by_cases hji' : j' = i
            · rw [hji, hji']
            · simp only [hji, if_true, hji', if_false] at he
              have := (h.made j' hj' (by simpa [hji'] using hL') hvj').2.1
              omega
            · simp only [hji, if_false, hji', if_true] at he
              have := (h.made j hj (by simpa [hji] using hL) hvj).2.1
              omega
            · simp only [hji, hji', if_false] at he
              exact h.dist j j' hj hj' (by simpa [hji] using hL) (by simpa [hji'] using hL') hvj hvj' he

/-- The new variables' slots, put one behind the other. -/
theorem putAll_fr (hd : Distinct (dstAt ops) m) (γ : Nat → Nat) : ∀ (js : List Nat) (L : Nat → Bool), js.Nodup → (∀ j ∈ js, j < m ∧ L j = false ∧ dstAt ops j = some (mk j).dst ∧ isV j = false) →
    putAll (fr a (dstAt ops) (fv val isV γ) L m) (js.map mk) (js.map γ) = fr a (dstAt ops) (fv val isV γ) (fun j => js.contains j || L j) m := by
  intro js
  induction js with
  | nil => intro L _ _; exact fr_congr m (fun j _ => by simp) (fun _ _ _ => rfl)
  | cons i js ih =>
    intro L hn h
    obtain ⟨hi, hLi, hdi, hvi⟩ := h i (List.mem_cons_self ..)
    have hn' := List.nodup_cons.1 hn
    have hs := fr_set (a := a) (val := fv val isV γ) hd (L := L) (i := i) hi hLi m (Nat.le_refl _)
    rw [if_pos hi, hdi] at hs
    have e : fv val isV γ i = .pointer (some ⟨γ i, 0, none⟩) := by simp [fv, hvi]
    rw [e] at hs
    show putAll ((fr a (dstAt ops) (fv val isV γ) L m).put (some (mk i).dst) (.pointer (some ⟨γ i, 0, none⟩))) (js.map mk) (js.map γ) = _
    rw [← hs, ih _ hn'.2 (fun j hj => by
      obtain ⟨h1, h2, h3, h4⟩ := h j (List.mem_cons_of_mem _ hj)
      refine ⟨h1, ?_, h3, h4⟩
      have : j ≠ i := fun e => hn'.1 (e ▸ hj)
      simp [this, h2])]
    refine fr_congr m (fun j _ => ?_) (fun _ _ _ => rfl)
    rw [List.contains_cons]
    cases js.contains j <;> cases (j == i) <;> rfl

theorem madeFacts_of {w' : World} {γ : Nat → Nat} : ∀ js : List Nat, js.Nodup → (∀ j ∈ js, w0.heap.size ≤ γ j ∧ γ j < w'.heap.size ∧ w'.heap[γ j]? = some (.cells (mk j).zs (mk j).ty (0, 0))) →
    (∀ j ∈ js, ∀ j' ∈ js, γ j = γ j' → j = j') → MadeFacts w0 w' (js.map mk) (js.map γ) := by
  intro js
  induction js with
  | nil => intro _ _ _; trivial
  | cons i js ih =>
    intro hn h hi
    have hn' := List.nodup_cons.1 hn
    obtain ⟨h1, h2, h3⟩ := h i (List.mem_cons_self ..)
    refine ⟨⟨h1, h2, h3, fun hm => ?_⟩, ih hn'.2 (fun j hj => h j (List.mem_cons_of_mem _ hj)) (fun j hj j' hj' => hi j (List.mem_cons_of_mem _ hj) j' (List.mem_cons_of_mem _ hj'))⟩
    obtain ⟨j, hj, he⟩ := List.mem_map.1 hm
    have := hi j (List.mem_cons_of_mem _ hj) i (List.mem_cons_self ..) he
    exact hn'.1 (this ▸ hj)

/-- **A REGION THAT DRAWS ITS ORDER, ITS FIRST m OPERATIONS TAKEN IN THE ORDER OF THE TEXT**: loads, calls that write nothing that was there, new variables; the others come one behind the other. -/
theorem wp_region_head {P : Program} {ops : Array Oper} {Q : Exit → Act → World → Prop} {a : Act} {w : World} {id : Nat} (m : Nat) (S : World → Prop) (hf : P.follows .mixedOrders = true) (hok : headOk ops m a.tmps.size = true) (hQ : ∀ c a d v w, Q (.panic c) (a.put d v) w → Q (.panic c) a w)
    (hst : ∀ W w1 : World, Below W.heap.size W w1 → S W → S w1) (hS : S w)
    (h : headRun P S (fun a' ms => ∀ (gs : List Nat) (w' : World), S w' → Below w.heap.size w w' → MadeFacts w w' ms gs → wpList P ops Q (ops.toList.drop m) (putAll a' ms gs) w') (ops.toList.take m) a []) :
    (Code.region id ops true).wp P Q a w := by
  have hk := headOk_spec hok
  refine wp_region_any hf ?_
  have e0 : a = fr a (dstAt ops) (fun _ => undef) (fun j => decide (j < 0) && false) m := by
    have : ∀ k, fr a (dstAt ops) (fun _ => undef) (fun j => decide (j < 0) && false) k = a := fun k => by
      induction k with
      | zero => rfl
      | succ k ih => simp only [fr]; rw [if_neg (by simp)]; exact ih
    exact (this m).symm
  have hlen : (ops.toList.take m).length = m := by simp [hk.le]
  have h' := h
  rw [e0] at h'
  obtain ⟨val, isV, mk, -, hdo, hK⟩ := headRun_spec (K := fun a' ms => ∀ (gs : List Nat) (w' : World), S w' → Below w.heap.size w w' → MadeFacts w w' ms gs → wpList P ops Q (ops.toList.drop m) (putAll a' ms gs) w')
    hk.dist hk.le m 0 (by omega) (ops.toList.take m) (fun _ => undef) (fun _ => false) (fun _ => ⟨0, #[], 0⟩) [] (fun j hj => by
      rw [List.getElem?_take_of_lt hj]; simp) hlen h'
  have hgo := head_run (P := P) (ops := ops) (m := m) (N := a.tmps.size) (Q := Q) (S := S) (a := a) (w0 := w) (val := val) (isV := isV) (mk := mk) hk rfl hQ hst (fun j o hj ho => hdo j o (Nat.zero_le _) hj ho) ?_ ops.size (Array.replicate ops.size false) (fun _ => 0) a w.drew ?_ ?_ ?_
  · exact hgo
  · -- the head is done
    intro L γ b u hI hall
    have hjs : ∀ j, j ∈ (List.range' 0 m).filter (fun x => !isV x) ↔ j < m ∧ isV j = false := fun j => by
      rw [List.mem_filter, List.mem_range']
      simp
    have hnd : ((List.range' 0 m).filter (fun x => !isV x)).Nodup := List.Pairwise.filter _ List.nodup_range'
    have hmade : ∀ j, j < m → isV j = false → dstAt ops j = some (mk j).dst := fun j hj hv => by
      have hjs : j < ops.size := by have := hk.le; omega
      have hoj : ops[j]? = some ops[j] := Array.getElem?_eq_getElem hjs
      have := hdo j _ (Nat.zero_le _) hj hoj
      unfold Does at this
      rw [hv] at this
      simp only [dstAt, hoj, Option.bind_some]
      exact this.1
    have hb : b = putAll (fr a (dstAt ops) val (fun x => decide (x < m) && isV x) m) (((List.range' 0 m).filter (fun x => !isV x)).map mk) (((List.range' 0 m).filter (fun x => !isV x)).map γ) := by
      have e1 : fr a (dstAt ops) val (fun x => decide (x < m) && isV x) m = fr a (dstAt ops) (fv val isV γ) (fun x => decide (x < m) && isV x) m :=
        fr_congr m (fun _ _ => rfl) (fun j _ hL => by
          simp only [Bool.and_eq_true] at hL
          simp [fv, hL.2])
      rw [e1, putAll_fr hk.dist γ _ _ hnd (fun j hj => by
        obtain ⟨h1, h2⟩ := (hjs j).1 hj
        exact ⟨h1, by simp [h2], hmade j h1 h2, h2⟩), hI.frame]
      refine fr_congr m (fun j hj => ?_) (fun _ _ _ => rfl)
      rw [hall j hj]
      symm
      rw [Bool.or_eq_true]
      cases hv : isV j with
      | true => exact .inr (by simp [hj])
      | false => exact .inl (by rw [List.contains_iff_mem]; exact (hjs j).2 ⟨hj, hv⟩)
    rw [hb]
    have := hK (((List.range' 0 m).filter (fun x => !isV x)).map γ) u hI.st hI.below (by
      rw [List.nil_append]
      exact madeFacts_of _ hnd (fun j hj => by
        obtain ⟨h1, h2⟩ := (hjs j).1 hj
        exact hI.made j h1 (hall j h1) h2) (fun j hj j' hj' he => by
        obtain ⟨h1, h2⟩ := (hjs j).1 hj
        obtain ⟨h3, h4⟩ := (hjs j').1 hj'
        exact hI.dist j j' h1 h3 (hall j h1) (hall j' h3) h2 h4 he))
    rw [List.nil_append] at this
    exact this
  · have hz : ∀ j, (Array.replicate ops.size false).getD j false = false := fun j => by
      simp only [Array.getD_eq_getD_getElem?, Array.getElem?_replicate]
      split <;> rfl
    refine ⟨by simp, fun i o _ hi => absurd (hz i ▸ hi : false = true) (by simp), ?_, hst _ _ (Below.refl _ _).drew hS, (Below.refl _ _).drew, fun j _ hL => absurd (hz j ▸ hL : false = true) (by simp), fun j j' _ _ hL => absurd (hz j ▸ hL : false = true) (by simp)⟩
    have : ∀ k, fr a (dstAt ops) (fv val isV fun _ => 0) (fun j => (Array.replicate ops.size false).getD j false) k = a := fun k => by
      induction k with
      | zero => rfl
      | succ k ih => simp only [fr]; rw [if_neg (by rw [hz]; simp)]; exact ih
    exact (this m).symm
  · intro j _ _
    simp only [Array.getD_eq_getD_getElem?, Array.getElem?_replicate]
    split <;> rfl
  · have : ∀ (L : Array Bool) k, cnt L k ≤ k := fun L k => by
      induction k with
      | zero => exact Nat.le_refl _
      | succ k ih => simp only [cnt]; split <;> omega
    exact this _ _
end main

section steps
variable {P : Program} {S : World → Prop} {K : Act → List MadeVar → Prop} {o : Oper} {rest : List Oper} {a : Act} {ms : List MadeVar} {v : Value}
theorem headRun_nil (h : K a ms) : headRun P S K [] a ms := h
theorem headRun_val (h : ∀ w, S w → (execOp a.eval o).run P w = .ok (.value v) w) (k : headRun P S K rest (a.put o.dst v) ms) : headRun P S K (o :: rest) a ms :=
  .inl ⟨v, fun w hw => .inl (h w hw), k⟩
theorem headRun_call {f : FuncId} {args : Array Value} (h : ∀ w, (execOp a.eval o).run P w = .ok (.enter f args) w) (h2 : ∀ w, S w → Calls P f args w fun e w' => e = .returned v ∧ Below w.heap.size w w')
    (k : headRun P S K rest (a.put o.dst v) ms) : headRun P S K (o :: rest) a ms :=
  .inl ⟨v, fun w hw => .inr ⟨f, args, h w, h2 w hw⟩, k⟩
theorem headRun_alloc {d : Tmp} {T : TypeId} {zs : Array Value} (hd : o.dst = some d) (ho : o.op = .alloc T)
    (hz : ∀ w, (Instr.alloc T true (.tuple #[])).run P w = .ok (.pointer (some ⟨w.heap.size, 0, none⟩)) (w.alloc (.cells zs T))) (k : headRun P S K rest a (ms ++ [⟨d, zs, T⟩])) : headRun P S K (o :: rest) a ms :=
  .inr ⟨d, zs, T, hd, ho, hz, k⟩
end steps

/-- One new variable: its block, and what is known of it. -/
theorem madeOne {w w' : World} {m : MadeVar} {gs : List Nat} (h : MadeFacts w w' ([] ++ [m]) gs) : ∃ g, gs = [g] ∧ w.heap.size ≤ g ∧ g < w'.heap.size ∧ (∀ j, w'.cell? ⟨g, j, none⟩ = m.zs[j]?) ∧ (∀ j, w'.frozen? ⟨g, j, none⟩ = false) ∧ w'.heap[g]? = some (.cells m.zs m.ty (0, 0)) := by
  match gs, h with
  | [g], h => exact ⟨g, rfl, h.1.1, h.1.2.1, fun j => cell_of_row w' g j _ _ _ h.1.2.2.1, fun j => frozen_of_row w' g j _ _ h.1.2.2.1, h.1.2.2.1⟩
theorem madeNone {w w' : World} {gs : List Nat} (h : MadeFacts w w' [] gs) : gs = [] := by
  match gs, h with
  | [], _ => rfl

end Go.Proofs.YtnbbehgcnodfbaaDoor
