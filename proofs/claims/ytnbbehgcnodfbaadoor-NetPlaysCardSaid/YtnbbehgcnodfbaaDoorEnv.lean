/-
  A walk through straight code: the blocks that the call has made, by their cells; every other memory as it was. No program in sight.
-/
import Derived.Test.YtnbbehgcnodfbaaDoorHead
import Derived.Test.YtnbbehgcnodfbaaDoorVals
import Derived.Laws.OwnMore
import Derived.OwnWalk
import Derived.Laws.Tables
import Derived.Laws.Rows
import Derived.WalkKit
import Derived.Lib.Hide
namespace Go.Proofs.YtnbbehgcnodfbaaDoor
open Go.RowKit
set_option maxRecDepth 100000
set_option linter.unusedVariables false

/-- A block of cells that the call itself has made. -/
structure Blk where
  g : Nat
  T : TypeId
  cs : Array Value

/-- The world w is w0, but for new blocks, of which those of l hold just these cells. -/
structure Env (w0 : World) (l : List Blk) (w : World) : Prop where
  below : Below w0.heap.size w0 w
  holds : ∀ b ∈ l, w.heap[b.g]? = some (.cells b.cs b.T (0, 0))
  new : ∀ b ∈ l, w0.heap.size ≤ b.g
  dist : l.Pairwise fun a b => a.g ≠ b.g

section env
variable {w0 w w1 : World} {l : List Blk} {g i j : Nat} {T : TypeId} {cs cs' : Array Value}

theorem Env.nil (w0 : World) : Env w0 [] w0 := ⟨Below.refl _ _, fun _ h => (by cases h), fun _ h => (by cases h), List.Pairwise.nil⟩
theorem Env.mem (hi : l[i]? = some ⟨g, T, cs⟩) : (⟨g, T, cs⟩ : Blk) ∈ l := List.mem_of_getElem? hi
theorem Env.get (h : Env w0 l w) (hi : l[i]? = some ⟨g, T, cs⟩) : w.heap[g]? = some (.cells cs T (0, 0)) := h.holds _ (Env.mem hi)
theorem Env.cell (h : Env w0 l w) (hi : l[i]? = some ⟨g, T, cs⟩) (j : Nat) : w.cell? ⟨g, j, none⟩ = cs[j]? := cell_of_row w g j _ _ _ (h.get hi)
theorem Env.frozen (h : Env w0 l w) (hi : l[i]? = some ⟨g, T, cs⟩) (j : Nat) : w.frozen? ⟨g, j, none⟩ = false := frozen_of_row w g j _ _ (h.get hi)
theorem Env.lt (h : Env w0 l w) {b : Blk} (hb : b ∈ l) : b.g < w.heap.size := by
  have := h.holds b hb
  exact (Array.getElem?_eq_some_iff.1 this).1
theorem Env.call (h : Env w0 l w) (hb : Below w.heap.size w w1) : Env w0 l w1 :=
  ⟨h.below.trans (hb.mono h.below.size), fun b hm => (hb.block _ (h.lt hm)).trans (h.holds b hm), h.new, h.dist⟩
theorem Env.drew (h : Env w0 l w) : Env w0 l w.drew := h.call (Below.refl _ _).drew
theorem Env.stable : ∀ W w1 : World, Below W.heap.size W w1 → Env w0 l W → Env w0 l w1 := fun _ _ hb h => h.call hb
theorem Env.alloc (h : Env w0 l w) (T : TypeId) (zs : Array Value) : Env w0 (⟨w.heap.size, T, zs⟩ :: l) (w.alloc (.cells zs T)) := by
  have h1 := h.call ((Below.refl _ _).alloc (Nat.le_refl _) (.cells zs T))
  refine ⟨h1.below, fun b hb => ?_, fun b hb => ?_, List.Pairwise.cons (fun b hb => ?_) h.dist⟩
  · rcases List.mem_cons.1 hb with rfl | hb
    · exact heap_alloc_new w _
    · exact h1.holds b hb
  · rcases List.mem_cons.1 hb with rfl | hb
    · exact h.below.size
    · exact h.new b hb
  · have := h.lt hb
    show w.heap.size ≠ b.g
    omega
theorem Env.alloc' (h : Env w0 l w) (T : TypeId) (zs : Array Value) (hg : g = w.heap.size) : Env w0 (⟨g, T, zs⟩ :: l) (w.alloc (.cells zs T)) := by rw [hg]; exact h.alloc T zs
theorem Env.put_ (h : Env w0 l w) (hi : l[i]? = some ⟨g, T, cs⟩) {w1 : World} (hg : w1.heap[g]? = some (.cells cs' T (0, 0))) (ho : ∀ k, k ≠ g → w1.heap[k]? = w.heap[k]?)
    (hs : w1.heap.size = w.heap.size) (h1 : w1.os = w.os) (h2 : w1.tape = w.tape) (h3 : w1.output = w.output) : Env w0 (l.set i ⟨g, T, cs'⟩) w1 := by
  have hil : i < l.length := (List.getElem?_eq_some_iff.1 hi).1
  have hli : l[i] = ⟨g, T, cs⟩ := (List.getElem?_eq_some_iff.1 hi).2
  have hnew := h.new _ (Env.mem hi)
  have hgs : (l.set i ⟨g, T, cs'⟩).map (·.g) = l.map (·.g) := by
    rw [List.map_set]
    have : (l.map (·.g))[i]'(by simpa using hil) = g := by simp [hli]
    conv => rhs; rw [← List.set_getElem_self (as := l.map (·.g)) (i := i) (by simpa using hil)]
    rw [this]
  have hdist : ((l.set i ⟨g, T, cs'⟩).map (·.g)).Pairwise (· ≠ ·) := by rw [hgs]; exact List.pairwise_map.2 h.dist
  have hdist' := List.pairwise_map.1 hdist
  have hcase : ∀ b ∈ l.set i ⟨g, T, cs'⟩, b = ⟨g, T, cs'⟩ ∨ (b ∈ l ∧ b.g ≠ g) := fun b hb => by
    obtain ⟨k, hk, hkb⟩ := List.getElem_of_mem hb
    by_cases hki : k = i
    · subst hki; left; rw [← hkb]; simp
    · right
      have hkl : k < l.length := by simpa using hk
      have he : b = l[k] := by rw [← hkb, List.getElem_set_ne (Ne.symm hki)]
      refine ⟨he ▸ List.getElem_mem hkl, fun hbg => ?_⟩
      have hp := h.dist
      rw [List.pairwise_iff_getElem] at hp
      rcases Nat.lt_or_ge k i with h' | h'
      · exact hp k i hkl hil h' (by rw [← he, hbg, hli])
      · exact hp i k hil hkl (by omega) (by rw [← he, hbg, hli])
  refine ⟨h.below.trans ⟨h1, h2, h3, by omega, fun k hk => ho k (fun e => by have hn : w0.heap.size ≤ g := hnew; omega)⟩, fun b hb => ?_, fun b hb => ?_, hdist'⟩
  · rcases hcase b hb with rfl | ⟨hm, hne⟩
    · exact hg
    · exact (ho _ hne).trans (h.holds b hm)
  · rcases hcase b hb with rfl | ⟨hm, _⟩
    · exact hnew
    · exact h.new b hm
theorem Env.store (h : Env w0 l w) (hi : l[i]? = some ⟨g, T, cs⟩) (cs' : Array Value) : Env w0 (l.set i ⟨g, T, cs'⟩) (w.setRow g cs') :=
  h.put_ hi (setRow_heap w g cs cs' T (0, 0) (h.get hi)) (fun k hk => setRow_other w g k cs' hk) (by simp) rfl rfl rfl
theorem Env.setCell (h : Env w0 l w) (hi : l[i]? = some ⟨g, T, cs⟩) (j : Nat) (v : Value) : Env w0 (l.set i ⟨g, T, cs.setIfInBounds j v⟩) (w.setCell ⟨g, j, none⟩ v) := by
  rw [setCell_eq_setRow w g j cs T (0, 0) v (h.get hi)]
  exact h.store hi _
theorem Env.add (h : Env w0 l w) {g : Nat} (hg : w.heap[g]? = some (.cells cs T (0, 0))) (hn : w0.heap.size ≤ g) (hd : ∀ b ∈ l, g ≠ b.g) : Env w0 (⟨g, T, cs⟩ :: l) w :=
  ⟨h.below, fun b hb => by
    rcases List.mem_cons.1 hb with rfl | hb
    · exact hg
    · exact h.holds b hb, fun b hb => by
    rcases List.mem_cons.1 hb with rfl | hb
    · exact hn
    · exact h.new b hb, List.Pairwise.cons hd h.dist⟩
/-- Blocks that are of no further use. -/
theorem Env.sub (h : Env w0 l w) {l' : List Blk} (hs : l'.Sublist l) : Env w0 l' w := ⟨h.below, fun b hb => h.holds b (hs.subset hb), fun b hb => h.new b (hs.subset hb), h.dist.sublist hs⟩
end env

/-- The blocks of a region's new variables. -/
def madeBlks : List MadeVar → List Nat → List Blk
  | m :: ms, g :: gs => ⟨g, m.ty, m.zs⟩ :: madeBlks ms gs
  | _, _ => []

theorem madeBlks_mem : ∀ {ms : List MadeVar} {gs : List Nat} {w w' : World}, MadeFacts w w' ms gs → ∀ b ∈ madeBlks ms gs, w.heap.size ≤ b.g ∧ w'.heap[b.g]? = some (.cells b.cs b.T (0, 0)) ∧ b.g ∈ gs
  | [], [], _, _, _, b, hb => by cases hb
  | m :: ms, g :: gs, w, w', h, b, hb => by
    rcases List.mem_cons.1 hb with rfl | hb
    · exact ⟨h.1.1, h.1.2.2.1, List.mem_cons_self ..⟩
    · obtain ⟨h1, h2, h3⟩ := madeBlks_mem h.2 b hb
      exact ⟨h1, h2, List.mem_cons_of_mem _ h3⟩
  | [], _ :: _, _, _, h, _, _ => h.elim
  | _ :: _, [], _, _, h, _, _ => h.elim

theorem madeBlks_dist : ∀ {ms : List MadeVar} {gs : List Nat} {w w' : World}, MadeFacts w w' ms gs → (madeBlks ms gs).Pairwise fun a b => a.g ≠ b.g
  | [], [], _, _, _ => List.Pairwise.nil
  | m :: ms, g :: gs, w, w', h => List.Pairwise.cons (fun b hb => fun (e : g = b.g) => h.1.2.2.2 (by rw [e]; exact (madeBlks_mem h.2 b hb).2.2)) (madeBlks_dist h.2)
  | [], _ :: _, _, _, h => h.elim
  | _ :: _, [], _, _, h => h.elim

theorem Env.made {w0 w w' : World} {l : List Blk} (h : Env w0 l w) (h' : Env w0 l w') {ms : List MadeVar} {gs : List Nat} (hm : MadeFacts w w' ms gs) : Env w0 (madeBlks ms gs ++ l) w' := by
  refine ⟨h'.below, fun b hb => ?_, fun b hb => ?_, List.pairwise_append.2 ⟨madeBlks_dist hm, h.dist, fun a ha b hb => ?_⟩⟩
  · rcases List.mem_append.1 hb with hb | hb
    · exact (madeBlks_mem hm b hb).2.1
    · exact h'.holds b hb
  · rcases List.mem_append.1 hb with hb | hb
    · exact Nat.le_trans h.below.size (madeBlks_mem hm b hb).1
    · exact h.new b hb
  · have h1 := (madeBlks_mem hm a ha).1
    have h2 := h.lt hb
    omega

section walk
variable {P : Program} {ops : Array Oper} {Q : Exit → Act → World → Prop} {a : Act} {w w0 : World} {l : List Blk} {o : Oper} {rest : List Oper} {v : Value}

theorem wl_val (hg : o.guard = none) (h : (execOp a.eval o).run P w = .ok (.value v) w) (k : wpList P ops Q rest (a.put o.dst v) w) : wpList P ops Q (o :: rest) a w :=
  wpList_plain hg fun _ hK => by unfold Oper.wp; rw [h]; exact hK _ _ k

theorem wl_call {f : FuncId} {args : Array Value} (hE : Env w0 l w) (hg : o.guard = none) (h : (execOp a.eval o).run P w = .ok (.enter f args) w)
    (hc : Calls P f args w fun e w' => e = .returned v ∧ Below w.heap.size w w') (k : ∀ w1, Env w0 l w1 → wpList P ops Q rest (a.put o.dst v) w1) : wpList P ops Q (o :: rest) a w :=
  wpList_plain hg fun _ hK => by
    unfold Oper.wp
    rw [h]
    refine hc.mono fun e w'' he => ?_
    obtain ⟨rfl, hb⟩ := he
    exact hK _ _ (k w'' (hE.call hb))

theorem sz_of {ty : TypeId} {n : Nat} {cs : Array Value} (h : (P.info? ty).map (·.size) = some n) (hn : cs.size = n) : (P.info? ty).map (·.size) = some cs.size := by rw [hn]; exact h

theorem wl_load {ty : TypeId} {x : Operand} {g i : Nat} {T : TypeId} {cs : Array Value} {d : TypeDesc} (hE : Env w0 l w) (hg : o.guard = none) (ho : o.op = .load ty x) (hx : a.eval x = .pointer (some ⟨g, 0, none⟩))
    (hi : l[i]? = some ⟨g, T, cs⟩) (hu : P.underlying ty = some d) (hd : (match d with | .struct _ | .array _ _ => true | _ => false) = true) (hs : (P.info? ty).map (·.size) = some cs.size)
    (k : wpList P ops Q rest (a.put o.dst (.agg cs)) w) : wpList P ops Q (o :: rest) a w :=
  wpList_load_row hg ty x ho g hx T cs (0, 0) d (hE.get hi) hu hd hs k

/-- A call that hands back new memory: a block that was not there, of which the cells are told. -/
theorem wl_call_new {f : FuncId} {args : Array Value} {v : Nat → Value} {T : TypeId} {cs : Array Value} (hE : Env w0 l w) (hg : o.guard = none) (h : (execOp a.eval o).run P w = .ok (.enter f args) w)
    (hc : Calls P f args w fun e w' => ∃ g, e = .returned (v g) ∧ Below w.heap.size w w' ∧ w.heap.size ≤ g ∧ w'.heap[g]? = some (.cells cs T (0, 0)))
    (k : ∀ g w1, Env w0 (⟨g, T, cs⟩ :: l) w1 → wpList P ops Q rest (a.put o.dst (v g)) w1) : wpList P ops Q (o :: rest) a w :=
  wpList_plain hg fun _ hK => by
    unfold Oper.wp
    rw [h]
    refine hc.mono fun e w'' he => ?_
    obtain ⟨g, rfl, hb, hg, hcs⟩ := he
    exact hK _ _ (k g w'' ((hE.call hb).add hcs (Nat.le_trans hE.below.size hg) (fun b hm => Nat.ne_of_gt (Nat.lt_of_lt_of_le (hE.lt hm) hg))))

theorem run_box (T : TypeId) (v : Value) (w : World) : (Instr.box T v).run P w = .ok (.pointer (some ⟨w.heap.size, 0, none⟩)) (w.alloc (.cells v.cells T)) := by
  simp [Instr.box, go_sem]

theorem wl_alloc {T : TypeId} {zs : Array Value} (hE : Env w0 l w) (hg : o.guard = none) (ho : o.op = .alloc T)
    (hz : ∀ w, (Instr.alloc T true (.tuple #[])).run P w = .ok (.pointer (some ⟨w.heap.size, 0, none⟩)) (w.alloc (.cells zs T)))
    (k : ∀ g w1, Env w0 (⟨g, T, zs⟩ :: l) w1 → wpList P ops Q rest (a.put o.dst (.pointer (some ⟨g, 0, none⟩))) w1) : wpList P ops Q (o :: rest) a w :=
  wpList_plain hg fun _ hK => by
    unfold Oper.wp execOp
    simp only [ho, Sem.run_bind, hz, Result.andThen_ok, Sem.run_pure]
    exact hK _ _ (k _ _ (hE.alloc T zs))

theorem wl_box {T : TypeId} {x : Operand} {cs : Array Value} (hE : Env w0 l w) (hg : o.guard = none) (ho : o.op = .box T x) (hx : (a.eval x).cells = cs)
    (k : ∀ g w1, Env w0 (⟨g, T, cs⟩ :: l) w1 → wpList P ops Q rest (a.put o.dst (.pointer (some ⟨g, 0, none⟩))) w1) : wpList P ops Q (o :: rest) a w :=
  wpList_plain hg fun _ hK => by
    unfold Oper.wp execOp
    simp only [ho, Sem.run_bind, run_box, Result.andThen_ok, Sem.run_pure, hx]
    exact hK _ _ (k _ _ (hE.alloc T cs))

theorem wl_make {t e : TypeId} {k : IntKind} {x y : Operand} {n b : Nat} (hE : Env w0 l w) (hg : o.guard = none) (ho : o.op = .makeSlice t x y) (hx : a.eval x = .int .i64 (n : Int)) (hy : a.eval y = .int .i64 (n : Int)) (ht : P.underlying t = some (.slice e))
    (hi : (P.info? e).map (fun i => (i.zero, i.size, i.bytes)) = some (some (.int k 0), 1, b)) (hn : b * n ≤ 281474976710656) (h63 : n ≤ 9223372036854775807)
    (kk : ∀ g w1, Env w0 (⟨g, e, ints k (List.replicate n 0)⟩ :: l) w1 → wpList P ops Q rest (a.put o.dst (.slice (some ⟨g, 0, none⟩) n n)) w1) : wpList P ops Q (o :: rest) a w := by
  obtain ⟨i, hi0, hz, hs, hb⟩ := info_parts hi
  have hr := run_make (P := P) w t e i _ ht hi0 hz .i64 .i64 (n : Int) (n : Int) (by omega) (by omega) (by
    have h : ((b * n : Nat) : Int) ≤ 281474976710656 := Int.ofNat_le.2 hn
    rw [hb]
    rwa [Int.natCast_mul] at h) (by omega)
  have hc : madeCells (Value.int k 0).cells ((n : Int).toNat * i.size) = ints k (List.replicate n 0) := by
    rw [hs, ints_replicate]
    apply Array.ext'
    show (madeCells #[Value.int k 0] _).toList = _
    rw [toList_madeCells_one]
    simp
  rw [hc] at hr
  refine wpList_plain hg fun _ hK => ?_
  unfold Oper.wp execOp
  simp only [ho, hx, hy, Sem.run_bind, hr, Result.andThen_ok, Sem.run_pure]
  exact hK _ _ (kk _ _ (hE.alloc e _))

theorem wl_store {ty : TypeId} {x y : Operand} {g i : Nat} {T : TypeId} {cs cs' : Array Value} (hE : Env w0 l w) (hg : o.guard = none) (ho : o.op = .store ty x y) (hx : a.eval x = .pointer (some ⟨g, 0, none⟩)) (hy : a.eval y = .agg cs')
    (hi : l[i]? = some ⟨g, T, cs⟩) (hs : (P.info? ty).map (·.size) = some cs'.size) (hsz : cs.size = cs'.size) (h1 : cs'.all (·.oneCell') = true)
    (k : ∀ w1, Env w0 (l.set i ⟨g, T, cs'⟩) w1 → wpList P ops Q rest (a.put o.dst undef) w1) : wpList P ops Q (o :: rest) a w :=
  wpList_plain hg fun _ hK => by
    unfold Oper.wp execOp
    simp only [ho, hx, hy, Instr.storeAt, Instr.sureAddr, Sem.run_bind, Sem.run_pure, Result.andThen_ok, run_storeVar_row w g T ty cs cs' (hE.get hi) hs hsz h1]
    exact hK _ _ (k _ (hE.store hi cs'))

/-- A store into one cell. -/
theorem wl_cell {g i j : Nat} {T : TypeId} {cs : Array Value} {v : Value} (hE : Env w0 l w) (hg : o.guard = none) (hi : l[i]? = some ⟨g, T, cs⟩)
    (h : (execOp a.eval o).run P w = .ok .skip (w.setCell ⟨g, j, none⟩ v))
    (k : ∀ w1, Env w0 (l.set i ⟨g, T, cs.setIfInBounds j v⟩) w1 → wpList P ops Q rest (a.put o.dst undef) w1) : wpList P ops Q (o :: rest) a w :=
  wpList_plain hg fun _ hK => by
    unfold Oper.wp
    rw [h]
    exact hK _ _ (k _ (hE.setCell hi j v))

/-- A load in the head of a region that draws its order. -/
theorem headRun_load {S : World → Prop} {K : Act → List MadeVar → Prop} {ms : List MadeVar} {ty : TypeId} {x : Operand} {g : Nat} {T : TypeId} {cs : Array Value} {d : TypeDesc} (ho : o.op = .load ty x) (hx : a.eval x = .pointer (some ⟨g, 0, none⟩))
    (hS : ∀ w, S w → w.heap[g]? = some (.cells cs T (0, 0))) (hu : P.underlying ty = some d) (hd : (match d with | .struct _ | .array _ _ => true | _ => false) = true) (hs : (P.info? ty).map (·.size) = some cs.size)
    (k : headRun P S K rest (a.put o.dst (.agg cs)) ms) : headRun P S K (o :: rest) a ms :=
  headRun_val (fun w hw => by
    unfold execOp
    simp only [ho, hx, Instr.loadAt, Instr.sureAddr, Sem.run_bind, Sem.run_pure, Result.andThen_ok, run_loadVar_row w g T ty cs (0, 0) d (hS w hw) hu hd hs]) k

theorem wp_region_env {id : Nat} (m : Nat) (hf : P.follows .mixedOrders = true) (hok : headOk ops m a.tmps.size = true) (hQ : ∀ c a d v w, Q (.panic c) (a.put d v) w → Q (.panic c) a w) (hE : Env w0 l w)
    (h : headRun P (Env w0 l) (fun a' ms => ∀ (gs : List Nat) (w' : World), gs.length = ms.length → Env w0 (madeBlks ms gs ++ l) w' → wpList P ops Q (ops.toList.drop m) (putAll a' ms gs) w') (ops.toList.take m) a []) :
    (Code.region id ops true).wp P Q a w :=
  wp_region_head m (Env w0 l) hf hok hQ Env.stable hE (by
    refine headRun_mono ?_ _ _ _ h
    intro a' ms hk gs w' hS' _ hm
    refine hk gs w' ?_ (hE.made hS' hm)
    have : ∀ {ms : List MadeVar} {gs : List Nat}, MadeFacts w w' ms gs → gs.length = ms.length := by
      intro ms
      induction ms with
      | nil => intro gs h; match gs, h with | [], _ => rfl
      | cons m ms ih => intro gs h; match gs, h with | g :: gs, h => simp [ih h.2]
    exact this hm)

theorem endK0 {tail : List Oper} {a' : Act} (h : ∀ w', Env w0 l w' → wpList P ops Q tail a' w') :
    ∀ (gs : List Nat) (w' : World), gs.length = ([] : List MadeVar).length → Env w0 (madeBlks [] gs ++ l) w' → wpList P ops Q tail (putAll a' [] gs) w' := by
  intro gs w' hl hE
  match gs, hl with
  | [], _ => exact h w' hE
theorem endK1 {tail : List Oper} {a' : Act} {m1 : MadeVar} (h : ∀ g w', Env w0 (⟨g, m1.ty, m1.zs⟩ :: l) w' → wpList P ops Q tail (a'.put (some m1.dst) (.pointer (some ⟨g, 0, none⟩))) w') :
    ∀ (gs : List Nat) (w' : World), gs.length = ([] ++ [m1]).length → Env w0 (madeBlks ([] ++ [m1]) gs ++ l) w' → wpList P ops Q tail (putAll a' ([] ++ [m1]) gs) w' := by
  intro gs w' hl hE
  match gs, hl with
  | [g], _ => exact h g w' hE
theorem endK2 {tail : List Oper} {a' : Act} {m1 m2 : MadeVar} (h : ∀ g1 g2 w', Env w0 (⟨g1, m1.ty, m1.zs⟩ :: ⟨g2, m2.ty, m2.zs⟩ :: l) w' → wpList P ops Q tail ((a'.put (some m1.dst) (.pointer (some ⟨g1, 0, none⟩))).put (some m2.dst) (.pointer (some ⟨g2, 0, none⟩))) w') :
    ∀ (gs : List Nat) (w' : World), gs.length = ([] ++ [m1] ++ [m2]).length → Env w0 (madeBlks ([] ++ [m1] ++ [m2]) gs ++ l) w' → wpList P ops Q tail (putAll a' ([] ++ [m1] ++ [m2]) gs) w' := by
  intro gs w' hl hE
  match gs, hl with
  | [g1, g2], _ => exact h g1 g2 w' hE
end walk

end Go.Proofs.YtnbbehgcnodfbaaDoor
