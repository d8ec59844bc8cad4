/-
  A region that draws its order, in which something is written while other memory, that stays as it is, is still read.
  No condition on the program.
-/
import Derived.Test.YtnbbehgcnodfbaaDoorStp
namespace Go.Proofs.YtnbbehgcnodfbaaDoor
open Go.RowKit
set_option maxRecDepth 100000
set_option linter.unusedVariables false
section
variable {P : Program} {ops : Array Oper} {Q : Exit → Act → World → Prop} {I : World → Prop} {m : Nat}

/-- Whatever order is picked from here on; the first m operations leave I true. -/
def wpI (P : Program) (ops : Array Oper) (Q : Exit → Act → World → Prop) (I : World → Prop) (m : Nat) : Nat → Array Bool → Act → World → Prop
  | 0, L, a, w => Region.ready .any ops L = [] ∧ Q .normal a w
  | n + 1, L, a, w => (Region.ready .any ops L = [] → Q .normal a w) ∧
      ∀ i ∈ Region.ready .any ops L, wpOp P ops Q i (fun a' w' => (i < m → I w') ∧ wpI P ops Q I m n (L.setIfInBounds i true) a' w') a w

theorem wpI_any : ∀ (n : Nat) (L : Array Bool) (a : Act) (w : World), wpI P ops Q I m n L a w → wpAny P .any ops Q n L a w
  | 0, _, _, _, h => h
  | n + 1, _, _, _, h => ⟨h.1, fun i hi => wpOp_mono (fun a' w' h' => wpI_any n _ a' w' h'.2) (h.2 i hi)⟩

theorem wpI_first {i : Nat} {oi : Oper} {v : Value} (hi : ops[i]? = some oi) (him : i < m) (htl : tailOk ops m = true)
    (hQ : ∀ c a w, Q (.panic c) (a.put oi.dst v) w → Q (.panic c) a w) :
    ∀ (n : Nat) (L : Array Bool) (a : Act) (w : World), I w → L.size = ops.size → Closed ops (fun i => L.getD i false) →
      (∀ j oj, ops[j]? = some oj → j ≠ i → L.getD j true = false → (∀ e ∈ oj.after, Region.binds .any e = true → e.on ≠ i) → oi.apart ops oj = true) →
      i ∈ Region.ready .any ops L → YieldsIf P ops I oi v a →
      wpI P ops Q I m n (L.setIfInBounds i true) (a.put oi.dst v) w → wpI P ops Q I m (n + 1) L a w := by
  obtain ⟨hsel, htail⟩ := tailOk_spec htl
  have hsel := Region.noSelect_spec hsel
  have now : ∀ (n : Nat) (L : Array Bool) (a : Act) (w : World), I w → YieldsIf P ops I oi v a → wpI P ops Q I m n (L.setIfInBounds i true) (a.put oi.dst v) w →
      wpOp P ops Q i (fun a' w' => (i < m → I w') ∧ wpI P ops Q I m n (L.setIfInBounds i true) a' w') a w := fun n L a w hI hy H =>
    hy.wpOp hi hI ⟨fun _ => hI, H⟩
  intro n
  induction n with
  | zero =>
    intro L a w hI _ _ _ hr hy H
    refine ⟨fun h => (by rw [h] at hr; cases hr), fun j hj => ?_⟩
    by_cases hji : j = i
    · subst hji; exact now _ _ _ _ hI hy H
    · have := ready_mono hj hji
      rw [H.1] at this
      cases this
  | succ n ih =>
    intro L a w hI hs hcl hfree hr hy H
    refine ⟨fun h => (by rw [h] at hr; cases hr), fun j hj => ?_⟩
    by_cases hji : j = i
    · subst hji; exact now _ _ _ _ hI hy H
    · obtain ⟨hj1, hj2, oj, hoj, hjall⟩ := ready_spec hj hs
      obtain ⟨hi1, hi2, oi', hoi', hiall⟩ := ready_spec hr hs
      have hjm : j < m := by
        rcases Nat.lt_or_ge j m with h1 | h1
        · exact h1
        · have := htail j oj hoj h1 _ hcl hjall i (by omega)
          rw [hi2] at this; cases this
      have h1 := H.2 j (ready_mono hj hji)
      obtain ⟨hjun, _⟩ := mem_ready.1 hj
      have hnot : ∀ e ∈ oj.after, Region.binds .any e = true → e.on ≠ i := fun e he hb heq => by
        have h1 := hjall e he hb
        rw [heq, hi2] at h1
        cases h1
      have h2 := wpOp_putIf hoj (hfree j oj hoj hji hjun hnot) (fun cs b => hsel i oi cs b hi) (fun cs b => hsel j oj cs b hoj) hQ hy h1
      have hfree' : ∀ k ok, ops[k]? = some ok → k ≠ i → (L.setIfInBounds j true).getD k true = false →
          (∀ e ∈ ok.after, Region.binds .any e = true → e.on ≠ i) → oi.apart ops ok = true := fun k ok hk hki hun hno => by
        refine hfree k ok hk hki ?_ hno
        by_cases hjk : j = k
        · subst hjk; exact hjun
        · rw [getD_set_ne true hjk] at hun; exact hun
      refine wpOp_mono (fun a' w' h3 => ?_) h2
      have hb := h3.2.1 hjm
      refine ⟨fun _ => hb, ih (L.setIfInBounds j true) a' w' hb (by simp [hs]) (Inv.closed' hs hcl hj1 hoj hjall) hfree' (ready_mono hr (Ne.symm hji)) h3.1 ?_⟩
      rw [Array.setIfInBounds_comm _ _ hji]
      exact h3.2.2
/-- What only reads what stays may be taken first. -/
theorem wpI_take {i n : Nat} {oi : Oper} {v : Value} {L : Array Bool} {a : Act} {w : World} {tl : List Oper} (htl : tailOk ops m = true) (hi' : ops.toList.drop i = oi :: tl) (hok : takeOk ops m L i = true)
    (hQ : ∀ c a w, Q (.panic c) (a.put oi.dst v) w → Q (.panic c) a w) (hw : Region.wanted oi (yielded ops a.tmps) = true) (hI : I w) (h : ∀ w1, I w1 → Val P oi a v w1)
    (k : wpI P ops Q I m n (L.setIfInBounds i true) (a.put oi.dst v) w) : wpI P ops Q I m (n + 1) L a w := by
  have hi := drop_get hi'
  unfold takeOk at hok
  simp only [Bool.and_eq_true, decide_eq_true_eq] at hok
  obtain ⟨⟨⟨h1, h2⟩, h3⟩, h4⟩ := hok
  obtain ⟨h5, h6⟩ := closedB_spec h2
  exact wpI_first hi h1 htl hQ n L a w hI h5 h6 (Region.free_spec hi h3) (by simpa using h4) (.inl ⟨hw, fun w1 h9 => h w1 h9 w1 (Below.refl _ _)⟩) k
theorem wpI_step {i n : Nat} {o : Oper} {L : Array Bool} {a : Act} {w : World} {tl : List Oper} (hr : Region.ready .any ops L = [i]) (hi' : ops.toList.drop i = o :: tl)
    (h : Step P ops Q o (fun a' w' => (i < m → I w') ∧ wpI P ops Q I m n (L.setIfInBounds i true) a' w') a w) : wpI P ops Q I m (n + 1) L a w :=
  ⟨fun h0 => (by rw [h0] at hr; cases hr), fun j hj => by
    rw [hr] at hj
    obtain rfl : j = i := by simpa using hj
    exact wpB_of_step (drop_get hi') h⟩
theorem wpI_step2 {i j n : Nat} {o o' : Oper} {L : Array Bool} {a : Act} {w : World} {tl tl' : List Oper} (hr : Region.ready .any ops L = [i, j]) (hi : ops.toList.drop i = o :: tl) (hj : ops.toList.drop j = o' :: tl')
    (h : Step P ops Q o (fun a' w' => (i < m → I w') ∧ wpI P ops Q I m n (L.setIfInBounds i true) a' w') a w)
    (h' : Step P ops Q o' (fun a' w' => (j < m → I w') ∧ wpI P ops Q I m n (L.setIfInBounds j true) a' w') a w) : wpI P ops Q I m (n + 1) L a w :=
  ⟨fun h0 => (by rw [h0] at hr; cases hr), fun k hk => by
    rw [hr] at hk
    simp only [List.mem_cons, List.not_mem_nil, or_false] at hk
    rcases hk with rfl | rfl
    · exact wpB_of_step (drop_get hi) h
    · exact wpB_of_step (drop_get hj) h'⟩
theorem wpI_done {L : Array Bool} {a : Act} {w : World} (hr : Region.ready .any ops L = []) (h : Q .normal a w) : ∀ n, wpI P ops Q I m n L a w
  | 0 => ⟨hr, h⟩
  | _ + 1 => ⟨fun _ => h, by rw [hr]; simp⟩
theorem wp_region_I {id n : Nat} {a : Act} {w w0 : World} {l : List Blk} (I : World → Prop) (m : Nat) (hf : P.follows .mixedOrders = true) (hn : ops.size = n) (hE : Env w0 l w)
    (h : ∀ w1, Below w.heap.size w w1 → Env w0 l w1 → wpI P ops Q I m n (Array.replicate n false) a w1) : (Code.region id ops true).wp P Q a w := by
  subst hn
  exact wp_region_any hf (wpI_any _ _ _ _ (h w.drew (Below.refl _ _).drew hE.drew))
/-! ### What only reads may be taken first, if those that write wait for it -/
def tailOk1 (ops : Array Oper) (m i : Nat) : Bool :=
  let b := befL ops.toList []
  Region.noSelect ops && (List.range ops.size).all fun j => decide (j < m) || (decide (i < j) && (b.getD j 0).testBit i)
theorem tailOk1_spec {i : Nat} (h : tailOk1 ops m i = true) : Region.noSelect ops = true ∧ ∀ (j : Nat) (o : Oper), ops[j]? = some o → m ≤ j → ∀ L, Closed ops L → (∀ e ∈ o.after, Region.binds .any e = true → L e.on = true) → L i = true := by
  have good : GoodMasks ops (befL ops.toList []) := befL_good ops ops.toList [] (fun i o hi => by simp at hi) (fun i => by simp)
  have len : ∀ (l : List Oper) (acc : List Nat), (befL l acc).length = acc.length + l.length := by
    intro l
    induction l with
    | nil => intro acc; rfl
    | cons o l ih => intro acc; rw [befL, ih]; simp; omega
  have hlen : (befL ops.toList []).length = ops.size := by rw [len]; simp
  unfold tailOk1 at h
  simp only [Bool.and_eq_true, List.all_eq_true, List.mem_range, Bool.or_eq_true, decide_eq_true_eq] at h
  refine ⟨h.1, fun j o ho hm L hL hd => ?_⟩
  have hj := (Array.getElem?_eq_some_iff.1 ho).1
  have h3 := (h.2 j hj).resolve_left (by omega)
  exact good j o (by rw [hlen]; exact hj) ho L hL hd i h3.2
theorem wpB_first1 {i : Nat} {oi : Oper} {v : Value} (hi : ops[i]? = some oi) (him : i < m) (htl : tailOk1 ops m i = true)
    (hQ : ∀ c a w, Q (.panic c) (a.put oi.dst v) w → Q (.panic c) a w) :
    ∀ (n : Nat) (L : Array Bool) (a : Act) (w : World), L.size = ops.size → Closed ops (fun i => L.getD i false) →
      (∀ j oj, ops[j]? = some oj → j ≠ i → L.getD j true = false → (∀ e ∈ oj.after, Region.binds .any e = true → e.on ≠ i) → oi.apart ops oj = true) →
      i ∈ Region.ready .any ops L → YieldsIf P ops (fun w1 => Below w.heap.size w w1) oi v a →
      wpB P ops Q m n (L.setIfInBounds i true) (a.put oi.dst v) w → wpB P ops Q m (n + 1) L a w := by
  obtain ⟨hsel, htail⟩ := tailOk1_spec htl
  have hsel := Region.noSelect_spec hsel
  have now : ∀ (n : Nat) (L : Array Bool) (a : Act) (w : World), YieldsIf P ops (fun w1 => Below w.heap.size w w1) oi v a → wpB P ops Q m n (L.setIfInBounds i true) (a.put oi.dst v) w →
      wpOp P ops Q i (fun a' w' => (i < m → Below w.heap.size w w') ∧ wpB P ops Q m n (L.setIfInBounds i true) a' w') a w := fun n L a w hy H =>
    hy.wpOp hi (Below.refl _ _) ⟨fun _ => Below.refl _ _, H⟩
  intro n
  induction n with
  | zero =>
    intro L a w _ _ _ hr hy H
    refine ⟨fun h => (by rw [h] at hr; cases hr), fun j hj => ?_⟩
    by_cases hji : j = i
    · subst hji; exact now _ _ _ _ hy H
    · have := ready_mono hj hji
      rw [H.1] at this
      cases this
  | succ n ih =>
    intro L a w hs hcl hfree hr hy H
    refine ⟨fun h => (by rw [h] at hr; cases hr), fun j hj => ?_⟩
    by_cases hji : j = i
    · subst hji; exact now _ _ _ _ hy H
    · obtain ⟨hj1, hj2, oj, hoj, hjall⟩ := ready_spec hj hs
      obtain ⟨hi1, hi2, oi', hoi', hiall⟩ := ready_spec hr hs
      have hjm : j < m := by
        rcases Nat.lt_or_ge j m with h1 | h1
        · exact h1
        · have := htail j oj hoj h1 _ hcl hjall
          rw [hi2] at this; cases this
      have h1 := H.2 j (ready_mono hj hji)
      obtain ⟨hjun, _⟩ := mem_ready.1 hj
      have hnot : ∀ e ∈ oj.after, Region.binds .any e = true → e.on ≠ i := fun e he hb heq => by
        have h1 := hjall e he hb
        rw [heq, hi2] at h1
        cases h1
      have h2 := wpOp_putIf hoj (hfree j oj hoj hji hjun hnot) (fun cs b => hsel i oi cs b hi) (fun cs b => hsel j oj cs b hoj) hQ hy h1
      have hfree' : ∀ k ok, ops[k]? = some ok → k ≠ i → (L.setIfInBounds j true).getD k true = false →
          (∀ e ∈ ok.after, Region.binds .any e = true → e.on ≠ i) → oi.apart ops ok = true := fun k ok hk hki hun hno => by
        refine hfree k ok hk hki ?_ hno
        by_cases hjk : j = k
        · subst hjk; exact hjun
        · rw [getD_set_ne true hjk] at hun; exact hun
      refine wpOp_mono (fun a' w' h3 => ?_) h2
      have hb := h3.2.1 hjm
      refine ⟨fun _ => hb, ih (L.setIfInBounds j true) a' w' (by simp [hs]) (Inv.closed' hs hcl hj1 hoj hjall) hfree' (ready_mono hr (Ne.symm hji)) ?_ ?_⟩
      · exact h3.1.imp (fun ⟨x, y⟩ => ⟨x, fun w1 hb1 => y w1 (hb.trans (hb1.mono hb.size))⟩) id
      · rw [Array.setIfInBounds_comm _ _ hji]
        exact h3.2.2
theorem wpB_take1 {i n : Nat} {oi : Oper} {v : Value} {L : Array Bool} {a : Act} {w : World} {tl : List Oper} (htl : tailOk1 ops m i = true) (hi' : ops.toList.drop i = oi :: tl) (hok : takeOk ops m L i = true)
    (hQ : ∀ c a w, Q (.panic c) (a.put oi.dst v) w → Q (.panic c) a w) (hw : Region.wanted oi (yielded ops a.tmps) = true) (h : Val P oi a v w)
    (k : wpB P ops Q m n (L.setIfInBounds i true) (a.put oi.dst v) w) : wpB P ops Q m (n + 1) L a w := by
  have hi := drop_get hi'
  unfold takeOk at hok
  simp only [Bool.and_eq_true, decide_eq_true_eq] at hok
  obtain ⟨⟨⟨h1, h2⟩, h3⟩, h4⟩ := hok
  obtain ⟨h5, h6⟩ := closedB_spec h2
  exact wpB_first1 hi h1 htl hQ n L a w h5 h6 (Region.free_spec hi h3) (by simpa using h4) (.inl ⟨hw, h⟩) k
end
end Go.Proofs.YtnbbehgcnodfbaaDoor
