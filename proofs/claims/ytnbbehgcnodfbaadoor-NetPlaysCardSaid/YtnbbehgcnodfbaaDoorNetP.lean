/-
  Layer 28: packets as cells; what a net's memory is; which packets stay. No condition on the program.
-/
import Derived.Test.YtnbbehgcnodfbaaDoorSzd
namespace Go.Proofs.YtnbbehgcnodfbaaDoor
open Go.RowKit
set_option maxRecDepth 100000
set_option linter.unusedVariables false
set_option linter.unusedSimpArgs false

/-- A packet, and the slice that holds its bytes. -/
structure PV where
  fr : Int
  to : Int
  by' : List Nat
  sl : Value
def PV.key (m : PV) : Int × Int × List Nat := (m.fr, m.to, m.by')
def PV.cells (m : PV) : List Value := [.int .i64 m.fr, .int .i64 m.to, m.sl]
theorem PV.len (m : PV) : m.cells.length = 3 := rfl
def pcells (M : List PV) : List Value := M.flatMap PV.cells
theorem pcells_nil : pcells [] = [] := rfl
theorem pcells_cons (m : PV) (M : List PV) : pcells (m :: M) = m.cells ++ pcells M := rfl
theorem pcells_append (M N : List PV) : pcells (M ++ N) = pcells M ++ pcells N := List.flatMap_append
theorem pcells_len : ∀ (M : List PV), (pcells M).length = M.length * 3
  | [] => rfl
  | m :: M => by rw [pcells_cons, List.length_append, pcells_len M, PV.len, List.length_cons]; omega
theorem pcells_take : ∀ (M : List PV) (j : Nat), (pcells M).take (j * 3) = pcells (M.take j)
  | [], j => by simp [pcells_nil]
  | m :: M, 0 => by simp [pcells_nil]
  | m :: M, j + 1 => by
    rw [pcells_cons, List.take_succ_cons, pcells_cons, ← pcells_take M j, List.take_append, PV.len, show (j + 1) * 3 - 3 = j * 3 by omega, List.take_of_length_le (by rw [PV.len]; omega)]
theorem pcells_drop : ∀ (M : List PV) (j : Nat), (pcells M).drop (j * 3) = pcells (M.drop j)
  | [], j => by simp [pcells_nil]
  | m :: M, 0 => by simp
  | m :: M, j + 1 => by
    rw [pcells_cons, List.drop_succ_cons, ← pcells_drop M j, List.drop_append, PV.len, show (j + 1) * 3 - 3 = j * 3 by omega, List.drop_of_length_le (by rw [PV.len]; omega), List.nil_append]
theorem pcells_at {M : List PV} {j : Nat} {m : PV} (h : M[j]? = some m) : ((pcells M).drop (j * 3)).take 3 = m.cells := by
  have hj := (List.getElem?_eq_some_iff.1 h).1
  rw [pcells_drop, List.drop_eq_getElem_cons hj, pcells_cons]
  have : M[j] = m := (List.getElem?_eq_some_iff.1 h).2
  rw [this]
  exact List.take_left' rfl
/-- A packet's bytes are read in every world that holds these blocks. -/
def Sees (w0 : World) (R : List Blk) (m : PV) : Prop := ∀ w', Env w0 R w' → RdS .u8 m.by' m.sl w'
theorem Sees.one {w0 : World} {R : List Blk} {m : PV} {w : World} (h : Sees w0 R m) (hE : Env w0 R w) : m.sl.oneCell' = true := by
  obtain ⟨p, c, h1, -⟩ := h w hE
  rw [h1]
  rfl
theorem Sees.mono {w0 : World} {R R' : List Blk} {m : PV} (h : Sees w0 R m) (hs : R.Sublist R') : Sees w0 R' m := fun w' hE => h w' (hE.sub hs)
theorem Sees.cells {w0 : World} {R : List Blk} {M : List PV} {w : World} (h : ∀ m ∈ M, Sees w0 R m) (hE : Env w0 R w) : ∀ u ∈ pcells M, u.oneCell' = true := fun u hu => by
  unfold pcells at hu
  rw [List.mem_flatMap] at hu
  obtain ⟨m, hm, hu⟩ := hu
  unfold PV.cells at hu
  simp only [List.mem_cons, List.not_mem_nil, or_false] at hu
  rcases hu with rfl | rfl | rfl
  · rfl
  · rfl
  · exact (h m hm).one hE
/-- A net's memory: its struct at g, its row of packets, their bytes among the blocks R. -/
def NetE (T PT : TypeId) (w0 : World) (g most : Nat) (M : List PV) (R : List Blk) (w : World) : Prop :=
  ∃ v bs, Oz 3 PT M.length (pcells M) v bs ∧ (∀ m ∈ M, Sees w0 R m) ∧ Env w0 (⟨g, T, #[v, .int .i64 (most : Int)]⟩ :: (bs ++ R)) w
/-- How often a packet of a key is there. -/
def times (k : Int × Int × List Nat) (M : List PV) : Nat := (M.filter fun m => m.key == k).length
theorem times_append (k : Int × Int × List Nat) (M N : List PV) : times k (M ++ N) = times k M + times k N := by unfold times; rw [List.filter_append, List.length_append]
theorem times_cons (k : Int × Int × List Nat) (m : PV) (M : List PV) : times k (m :: M) = (if m.key == k then 1 else 0) + times k M := by
  unfold times
  rw [List.filter_cons]
  split <;> simp <;> omega
theorem times_keys {k : Int × Int × List Nat} : ∀ {M N : List PV}, M.map PV.key = N.map PV.key → times k M = times k N
  | [], [], _ => rfl
  | [], _ :: _, h => by cases h
  | _ :: _, [], h => by cases h
  | m :: M, n :: N, h => by
    simp only [List.map_cons, List.cons.injEq] at h
    rw [times_cons, times_cons, h.1, times_keys h.2]
theorem times_perm {k : Int × Int × List Nat} {M N : List PV} (h : M.Perm N) : times k M = times k N := by
  unfold times
  exact (h.filter _).length_eq
end Go.Proofs.YtnbbehgcnodfbaaDoor
