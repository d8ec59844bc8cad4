/-
  Layer 3, plain: the state's words as bytes, one behind the other; what stood there before; blocks in another order.
-/
import Derived.Test.YtndnmghlgcamfaaDoorDigH
import Derived.Test.YtndnmghlgcamfaaDoorBlm
namespace Go.Proofs.YtndnmghlgcamfaaDoor
open Go.RowKit
set_option maxRecDepth 100000
set_option linter.unusedVariables false
set_option linter.unusedSimpArgs false

theorem nats_ints (k : IntKind) (l : List Nat) : (nats k l).toArray = ints k l := by unfold nats; rw [Array.toArray_toList]
/-- The bytes of the first n words, and zeros behind them. -/
def outAt (k : Nat) (L : List Nat) (n : Nat) : List Nat := outL k (L.take n) ++ List.replicate ((L.length - n) * k) 0
theorem outL_snoc (k : Nat) (L : List Nat) (x : Nat) : outL k (L ++ [x]) = outL k L ++ beD k x := by
  unfold outL
  simp
theorem outAt_len {k : Nat} {L : List Nat} {n : Nat} (h : n ≤ L.length) : (outAt k L n).length = L.length * k := by
  unfold outAt
  rw [List.length_append, outL_len, List.length_replicate, List.length_take, Nat.min_eq_left h, ← Nat.add_mul]
  congr 1
  omega
theorem outAt_put {k : Nat} {L : List Nat} {n : Nat} (h : n < L.length) : putAt (outAt k L n) (k * n) k (L.getD n 0) 0 = outAt k L (n + 1) := by
  unfold putAt outAt
  have h1 : (outL k (L.take n)).length = k * n := by rw [outL_len, List.length_take, Nat.min_eq_left (Nat.le_of_lt h), Nat.mul_comm]
  rw [Nat.add_zero, List.drop_zero, List.take_left' h1, ← h1, List.drop_length_add_append, List.drop_replicate, List.take_succ_eq_append_getElem h, outL_snoc, List.getD_eq_getElem?_getD, List.getElem?_eq_getElem h]
  congr 2
  rw [show L.length - n = (L.length - (n + 1)) + 1 by omega, Nat.add_mul, Nat.one_mul, Nat.add_sub_cancel]
theorem outAt_zero (k : Nat) (L : List Nat) : outAt k L 0 = List.replicate (L.length * k) 0 := by
  unfold outAt outL
  simp
theorem outAt_full (k : Nat) (L : List Nat) : outAt k L L.length = outL k L := by
  unfold outAt
  simp
section
variable {P : Program} {a : Act} {w w0 : World} {l : List Blk} {o : Oper} {v : Value}
/-- What stood there before. -/
theorem v_cellW {ty : TypeId} {x : Operand} {g j : Nat} {T : TypeId} {cs : List Value} {d : TypeDesc} {fr : Nat × Nat} (hg : w0.heap[g]? = some (.cells cs.toArray T fr)) (hc : cs[j]? = some v) (hE : Env w0 l w) (ho : o.op = .load ty x) (hx : a.eval x = .pointer (some ⟨g, j, none⟩)) (hu : P.underlying ty = some d) (hd : (match d with | .struct _ | .array _ _ => false | _ => true) = true) : Val P o a v w :=
  v_cell ho hx hu hd (fun w1 hb => by
    rw [cell_of_row w1 g j _ _ _ (((hE.below.trans (hb.mono hE.below.size)).block g (Array.getElem?_eq_some_iff.1 hg).1).trans hg), List.getElem?_toArray]
    exact hc)
theorem v_loadW {ty : TypeId} {x : Operand} {g k n : Nat} {T : TypeId} {X Y : List Value} {d : TypeDesc} {fr : Nat × Nat} (hg : w0.heap[g]? = some (.cells X.toArray T fr)) (he : (X.drop k).take n = Y) (hE : Env w0 l w) (ho : o.op = .load ty x) (hx : a.eval x = .pointer (some ⟨g, k, none⟩))
    (hu : P.underlying ty = some d) (hd : d.isRow = true) (hs : (P.info? ty).map (·.size) = some n) (hn : k + n ≤ X.length) : Val P o a (.agg Y.toArray) w :=
  v_loadMid ho hx (fun w1 hb => by
    have h := World.rangeAt_of_block (((hE.below.trans (hb.mono hE.below.size)).block g (Array.getElem?_eq_some_iff.1 hg).1).trans hg) k n
    have e : (X.toArray.extract k (k + n)).toList = Y.toArray.toList := by
      rw [← he]
      simp
    rwa [e] at h) hu hd (sz_of hs (by
      rw [← he]
      simp
      omega))
theorem Env.swp {b : Blk} {bs cs : List Blk} (h : Env w0 (cs ++ b :: (bs ++ l)) w) : Env w0 (b :: (bs ++ (cs ++ l))) w :=
  (Env.mid.1 h).perm (List.Perm.cons _ (List.perm_append_comm_assoc _ _ _))
theorem Env.lift1 {b : Blk} {w' : World} (hE : Env w0 l w) (h : Env w [b] w') : Env w0 (b :: l) w' :=
  (hE.call h.below).add (h.holds _ (List.mem_singleton_self _)) (Nat.le_trans hE.below.size (h.new _ (List.mem_singleton_self _))) fun b' hm => Nat.ne_of_gt (Nat.lt_of_lt_of_le (hE.lt hm) (h.new _ (List.mem_singleton_self _)))
end
theorem restL_nil (B : Nat) : restL B [] = [] := by unfold restL; simp

theorem Ow.lenN {e : TypeId} {k : IntKind} {l : List Nat} {v : Value} {bs : List Blk} (h : Ow e (nats k l) v bs) : ∃ p c, v = .slice p l.length c ∧ l.length ≤ c := by
  obtain ⟨p, c, h1, h2⟩ := h.len
  rw [nats_len] at h1 h2
  exact ⟨p, c, h1, h2⟩
theorem flat_take {rows : List (List Nat)} {j : Nat} (h : j < rows.length) : (rows.take j).flatten ++ rows[j] = (rows.take (j + 1)).flatten := by
  rw [List.take_succ_eq_append_getElem h, List.flatten_append]
  simp
theorem flat_le (rows : List (List Nat)) (j : Nat) : (rows.take j).flatten.length ≤ rows.flatten.length := by
  have h : (rows.take j).flatten ++ (rows.drop j).flatten = rows.flatten := by rw [← List.flatten_append, List.take_append_drop]
  rw [← h, List.length_append]
  omega
theorem flat_Digs {B : Nat} {rows : List (List Nat)} (h : ∀ r ∈ rows, Digs B r) : Digs B rows.flatten := fun x hx => by
  obtain ⟨r, hr, hx⟩ := List.mem_flatten.1 hx
  exact h r hr x hx
theorem flat_take_Digs {B : Nat} {rows : List (List Nat)} (h : ∀ r ∈ rows, Digs B r) (j : Nat) : Digs B (rows.take j).flatten := flat_Digs fun r hr => h r (List.mem_of_mem_take hr)

end Go.Proofs.YtndnmghlgcamfaaDoor
