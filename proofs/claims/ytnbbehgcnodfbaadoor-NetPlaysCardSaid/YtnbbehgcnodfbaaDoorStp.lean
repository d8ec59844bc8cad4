/-
  A region that draws its order, with several operations that may come up: each of three, four or five; all ways end at one place.
  No condition on the program.
-/
import Derived.Test.YtnbbehgcnodfbaaDoorStep
namespace Go.Proofs.YtnbbehgcnodfbaaDoor
open Go.RowKit
set_option maxRecDepth 100000
set_option linter.unusedVariables false
section
variable {P : Program} {ops : Array Oper} {Q : Exit → Act → World → Prop} {m : Nat}
theorem wpB_step3 {i j k n : Nat} {o1 o2 o3 : Oper} {L : Array Bool} {a : Act} {w : World} {t1 t2 t3 : List Oper} (hr : Region.ready .any ops L = [i, j, k]) (h1 : ops.toList.drop i = o1 :: t1) (h2 : ops.toList.drop j = o2 :: t2) (h3 : ops.toList.drop k = o3 :: t3)
    (k1 : Step P ops Q o1 (fun a' w' => (i < m → Below w.heap.size w w') ∧ wpB P ops Q m n (L.setIfInBounds i true) a' w') a w)
    (k2 : Step P ops Q o2 (fun a' w' => (j < m → Below w.heap.size w w') ∧ wpB P ops Q m n (L.setIfInBounds j true) a' w') a w)
    (k3 : Step P ops Q o3 (fun a' w' => (k < m → Below w.heap.size w w') ∧ wpB P ops Q m n (L.setIfInBounds k true) a' w') a w) : wpB P ops Q m (n + 1) L a w :=
  ⟨fun h0 => (by rw [h0] at hr; cases hr), fun x hx => by
    rw [hr] at hx
    simp only [List.mem_cons, List.not_mem_nil, or_false] at hx
    rcases hx with rfl | rfl | rfl
    · exact wpB_of_step (drop_get h1) k1
    · exact wpB_of_step (drop_get h2) k2
    · exact wpB_of_step (drop_get h3) k3⟩
theorem wpB_step4 {i j k l n : Nat} {o1 o2 o3 o4 : Oper} {L : Array Bool} {a : Act} {w : World} {t1 t2 t3 t4 : List Oper} (hr : Region.ready .any ops L = [i, j, k, l]) (h1 : ops.toList.drop i = o1 :: t1) (h2 : ops.toList.drop j = o2 :: t2) (h3 : ops.toList.drop k = o3 :: t3) (h4 : ops.toList.drop l = o4 :: t4)
    (k1 : Step P ops Q o1 (fun a' w' => (i < m → Below w.heap.size w w') ∧ wpB P ops Q m n (L.setIfInBounds i true) a' w') a w)
    (k2 : Step P ops Q o2 (fun a' w' => (j < m → Below w.heap.size w w') ∧ wpB P ops Q m n (L.setIfInBounds j true) a' w') a w)
    (k3 : Step P ops Q o3 (fun a' w' => (k < m → Below w.heap.size w w') ∧ wpB P ops Q m n (L.setIfInBounds k true) a' w') a w)
    (k4 : Step P ops Q o4 (fun a' w' => (l < m → Below w.heap.size w w') ∧ wpB P ops Q m n (L.setIfInBounds l true) a' w') a w) : wpB P ops Q m (n + 1) L a w :=
  ⟨fun h0 => (by rw [h0] at hr; cases hr), fun x hx => by
    rw [hr] at hx
    simp only [List.mem_cons, List.not_mem_nil, or_false] at hx
    rcases hx with rfl | rfl | rfl | rfl
    · exact wpB_of_step (drop_get h1) k1
    · exact wpB_of_step (drop_get h2) k2
    · exact wpB_of_step (drop_get h3) k3
    · exact wpB_of_step (drop_get h4) k4⟩
theorem wpB_firstU {i : Nat} {oi : Oper} {v : Value} (hi : ops[i]? = some oi) (hsl : Region.noSelect ops = true)
    (hQ : ∀ c a w, Q (.panic c) (a.put oi.dst v) w → Q (.panic c) a w) :
    ∀ (n : Nat) (L : Array Bool) (a : Act) (w : World), L.size = ops.size → Closed ops (fun i => L.getD i false) →
      (∀ j oj, ops[j]? = some oj → j ≠ i → L.getD j true = false → (∀ e ∈ oj.after, Region.binds .any e = true → e.on ≠ i) → oi.apart ops oj = true) →
      i ∈ Region.ready .any ops L → YieldsIf P ops (fun _ => True) oi v a →
      wpB P ops Q m n (L.setIfInBounds i true) (a.put oi.dst v) w → wpB P ops Q m (n + 1) L a w := by
  have hsel := Region.noSelect_spec hsl
  have now : ∀ (n : Nat) (L : Array Bool) (a : Act) (w : World), YieldsIf P ops (fun _ => True) oi v a → wpB P ops Q m n (L.setIfInBounds i true) (a.put oi.dst v) w →
      wpOp P ops Q i (fun a' w' => (i < m → Below w.heap.size w w') ∧ wpB P ops Q m n (L.setIfInBounds i true) a' w') a w := fun n L a w hy H =>
    hy.wpOp hi trivial ⟨fun _ => Below.refl _ _, H⟩
  intro n
  induction n with
  | zero =>
    intro L a w _ _ _ hr hy H
    refine ⟨fun h => (by rw [h] at hr; cases hr), fun j hj => ?_⟩
    by_cases hji : j = i
    · subst hji; exact now _ _ _ _ hy H
    · have := ready_mono hj hji
      rw [H.1] at this
      cases this
  | succ n ih =>
    intro L a w hs hcl hfree hr hy H
    refine ⟨fun h => (by rw [h] at hr; cases hr), fun j hj => ?_⟩
    by_cases hji : j = i
    · subst hji; exact now _ _ _ _ hy H
    · obtain ⟨hj1, hj2, oj, hoj, hjall⟩ := ready_spec hj hs
      obtain ⟨hi1, hi2, oi', hoi', hiall⟩ := ready_spec hr hs
      have h1 := H.2 j (ready_mono hj hji)
      obtain ⟨hjun, _⟩ := mem_ready.1 hj
      have hnot : ∀ e ∈ oj.after, Region.binds .any e = true → e.on ≠ i := fun e he hb heq => by
        have h1 := hjall e he hb
        rw [heq, hi2] at h1
        cases h1
      have h2 := wpOp_putIf hoj (hfree j oj hoj hji hjun hnot) (fun cs b => hsel i oi cs b hi) (fun cs b => hsel j oj cs b hoj) hQ hy h1
      have hfree' : ∀ k ok, ops[k]? = some ok → k ≠ i → (L.setIfInBounds j true).getD k true = false →
          (∀ e ∈ ok.after, Region.binds .any e = true → e.on ≠ i) → oi.apart ops ok = true := fun k ok hk hki hun hno => by
        refine hfree k ok hk hki ?_ hno
        by_cases hjk : j = k
        · subst hjk; exact hjun
        · rw [getD_set_ne true hjk] at hun; exact hun
      refine wpOp_mono (fun a' w' h3 => ?_) h2
      refine ⟨h3.2.1, ih (L.setIfInBounds j true) a' w' (by simp [hs]) (Inv.closed' hs hcl hj1 hoj hjall) hfree' (ready_mono hr (Ne.symm hji)) h3.1 ?_⟩
      rw [Array.setIfInBounds_comm _ _ hji]
      exact h3.2.2
def takeOkU (ops : Array Oper) (L : Array Bool) (i : Nat) : Bool :=
  Region.noSelect ops && closedB ops L && Region.free .any ops L i && (Region.ready .any ops L).contains i
/-- What reads no memory may be taken first, whatever the others write. -/
theorem wpB_takeU {i n : Nat} {oi : Oper} {v : Value} {L : Array Bool} {a : Act} {w : World} {tl : List Oper} (hi' : ops.toList.drop i = oi :: tl) (hok : takeOkU ops L i = true)
    (hQ : ∀ c a w, Q (.panic c) (a.put oi.dst v) w → Q (.panic c) a w) (hw : Region.wanted oi (yielded ops a.tmps) = true) (h : ∀ w1, Val P oi a v w1)
    (k : wpB P ops Q m n (L.setIfInBounds i true) (a.put oi.dst v) w) : wpB P ops Q m (n + 1) L a w := by
  have hi := drop_get hi'
  unfold takeOkU at hok
  simp only [Bool.and_eq_true] at hok
  obtain ⟨⟨⟨h1, h2⟩, h3⟩, h4⟩ := hok
  obtain ⟨h5, h6⟩ := closedB_spec h2
  exact wpB_firstU hi h1 hQ n L a w h5 h6 (Region.free_spec hi h3) (by simpa using h4) (.inl ⟨hw, fun w1 _ => h w1 w1 (Below.refl _ _)⟩) k
/-- All ways end at one place: what follows is shown once. -/
theorem wp_region_C {id n : Nat} {a : Act} {w w0 : World} {l : List Blk} {A : Nat → Nat → Nat → Act} (EE : Nat → Nat → Nat → List Blk) (m : Nat) (hf : P.follows .mixedOrders = true) (hn : ops.size = n) (hE : Env w0 l w)
    (h : (∀ g1 g2 g3 w', Env w0 (EE g1 g2 g3) w' → Q .normal (A g1 g2 g3) w') → ∀ w1, Below w.heap.size w w1 → Env w0 l w1 → wpB P ops Q m n (Array.replicate n false) a w1)
    (hc : ∀ g1 g2 g3 w', Env w0 (EE g1 g2 g3) w' → Q .normal (A g1 g2 g3) w') : (Code.region id ops true).wp P Q a w :=
  wp_region_B m hf hn hE (h hc)
/-- Likewise, with values that are told (appends' results). -/
theorem wp_region_D {id n : Nat} {a : Act} {w w0 : World} {l : List Blk} {A : Nat → Nat → Nat → Value → Value → Value → Act} (EE : Nat → Nat → Nat → List Blk) (m : Nat) (hf : P.follows .mixedOrders = true) (hn : ops.size = n) (hE : Env w0 l w)
    (h : (∀ g1 g2 g3 v1 v2 v3 w', Env w0 (EE g1 g2 g3) w' → Q .normal (A g1 g2 g3 v1 v2 v3) w') → ∀ w1, Below w.heap.size w w1 → Env w0 l w1 → wpB P ops Q m n (Array.replicate n false) a w1)
    (hc : ∀ g1 g2 g3 v1 v2 v3 w', Env w0 (EE g1 g2 g3) w' → Q .normal (A g1 g2 g3 v1 v2 v3) w') : (Code.region id ops true).wp P Q a w :=
  wp_region_B m hf hn hE (h hc)
end
end Go.Proofs.YtnbbehgcnodfbaaDoor
