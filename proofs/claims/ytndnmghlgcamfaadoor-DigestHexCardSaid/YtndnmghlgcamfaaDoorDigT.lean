/-
  Layer 3: digits read: what a string of digits stands for; the document's Hex; two slices of bytes compared. No condition, but that a string is not too long.
-/
import Derived.Test.YtndnmghlgcamfaaDoorDigS
import Derived.Test.YtndnmghlgcamfaaDoorErrB
namespace Go.Proofs.YtndnmghlgcamfaaDoor
open Go.RowKit
set_option maxRecDepth 100000
set_option linter.unusedVariables false
set_option linter.unusedSimpArgs false

section
variable {P : Program} {a : Act} {w : World} {o : Oper}
theorem bytesOf_size (l : List Nat) : (bytesOf l).size = l.length := by simp [bytesOf, ByteArray.size]
theorem bytesOf_at {l : List Nat} {j c : Nat} (h : l[j]? = some c) : (bytesOf l)[j]? = some (UInt8.ofNat c) := by
  have hj := (List.getElem?_eq_some_iff.1 h).1
  have he := (List.getElem?_eq_some_iff.1 h).2
  have hs : j < (bytesOf l).size := by rw [bytesOf_size]; exact hj
  rw [getElem?_pos (bytesOf l) j hs]
  congr 1
  simp [bytesOf, ByteArray.getElem_eq_getElem_data, he]
theorem v_lenStr {s : Operand} {t : TypeId} {l : List Nat} (ho : o.op = .call { callee := .builtin .len, args := #[s], argTypes := #[t] }) (hs : a.eval s = .string (bytesOf l)) (ht : P.underlying t = some .string) (hn : l.length < 9223372036854775808) : Val P o a (.int .i64 (l.length : Int)) w := v_run fun w => by
  have hg : goInt (l.length : Int) = .int .i64 (l.length : Int) := by
    unfold goInt
    first | rfl | (simp; rw [IntKind.wrap_i64]; omega)
  unfold execOp
  simp [ho, hs, resolve, invoke, builtin, Builtin.len_, run_underlying ht, Sem.run_bind, Sem.run_pure, bytesOf_size, hg]
theorem v_idxB {t : TypeId} {x y : Operand} {k : IntKind} {l : List Nat} {j c : Nat} (ho : o.op = .index t x y) (hx : a.eval x = .string (bytesOf l)) (hy : a.eval y = .int k (j : Int)) (ht : P.underlying t = some .string) (hc : l[j]? = some c) (h8 : c < 256) : Val P o a (.int .u8 (c : Int)) w := by
  have h := v_idxStr (P := P) (w := w) (b := UInt8.ofNat c) ho hx hy ht (bytesOf_at hc)
  rwa [UInt8.toNat_ofNat', Nat.mod_eq_of_lt h8] at h
theorem bytesOf_extract (l : List Nat) (i j : Nat) : (bytesOf l).extract i j = bytesOf ((l.take j).drop i) := by
  apply ByteArray.ext
  rw [ByteArray.data_extract]
  simp [bytesOf, List.drop_take]
theorem bytesOf_append (l m : List Nat) : bytesOf l ++ bytesOf m = bytesOf (l ++ m) := by
  apply ByteArray.ext
  simp [bytesOf, ByteArray.data_append]
theorem v_cutStr {t : TypeId} {x y z : Operand} {k k' : IntKind} {l : List Nat} {i j : Nat} (ho : o.op = .slice t x (some y) (some z) none) (hx : a.eval x = .string (bytesOf l)) (hy : a.eval y = .int k (i : Int)) (hz : a.eval z = .int k' (j : Int)) (ht : P.underlying t = some .string) (h1 : i ≤ j) (h2 : j ≤ l.length) : Val P o a (.string (bytesOf ((l.take j).drop i))) w := v_run fun w => by
  have e1 : (0 : Int) ≤ (j : Int) ∧ (j : Int) ≤ ((bytesOf l).size : Int) := by rw [bytesOf_size]; omega
  have e2 : (0 : Int) ≤ (i : Int) ∧ (i : Int) ≤ (j : Int) := by omega
  unfold execOp
  simp [ho, hx, hy, hz, Instr.sliceAt, Instr.slice, Instr.sliceBounds, Instr.sliceBound, asIntOf, run_underlying ht, Sem.run_bind, Sem.run_pure, e1, e2, h1, h2, bytesOf_size, bytesOf_extract]
theorem v_addStr {t t' : TypeId} {x y : Operand} {l m : List Nat} (ho : o.op = .binOp .add t x y t') (hx : a.eval x = .string (bytesOf l)) (hy : a.eval y = .string (bytesOf m)) (h : l.length + m.length < 9223372036854775808) : Val P o a (.string (bytesOf (l ++ m))) w := v_run fun w => by
  have e : ¬ (((bytesOf l).size + (bytesOf m).size : Nat) : Int) > IntKind.i64.max := by
    rw [bytesOf_size, bytesOf_size, show IntKind.i64.max = 9223372036854775807 from by decide]
    omega
  unfold execOp
  simp [ho, hx, hy, eqGuard, binOp, Op.stringOp, Sem.run_bind, Sem.run_pure, bytesOf_append, bytesOf_size]
  rw [bytesOf_size, bytesOf_size] at e
  simpa using e
theorem v_eqStrD {t t' : TypeId} {x y : Operand} {l m : List Nat} (ho : o.op = .binOp .eql t x y t') (hx : a.eval x = .string (bytesOf l)) (hy : a.eval y = .string (bytesOf m)) (h : l = m) : Val P o a (.bool true) w :=
  v_eqStrT ho hx hy (by rw [h])
theorem v_andT {c x : Operand} {q : Bool} (ho : o.op = .pick c x (.const (.bool false))) (hc : a.eval c = .bool true) (hx : a.eval x = .bool q) : Val P o a (.bool q) w := by
  have h := v_and (P := P) (w := w) (q := q) ho hc (fun _ => hx)
  rwa [Bool.true_and] at h
theorem v_orF {c x : Operand} {q : Bool} (ho : o.op = .pick c (.const (.bool true)) x) (hc : a.eval c = .bool false) (hx : a.eval x = .bool q) : Val P o a (.bool q) w := by
  have h := v_or (P := P) (w := w) (q := q) ho hc (fun _ => hx)
  rwa [Bool.false_or] at h
theorem v_eqlI {t t' : TypeId} {x y : Operand} {k : IntKind} {m n : Int} (ho : o.op = .binOp .eql t x y t') (hx : a.eval x = .int k m) (hy : a.eval y = .int k n) : Val P o a (.bool (decide (m = n))) w :=
  v_bin ho hx hy fun w => by
    have : (m == n) = decide (m = n) := by rw [Bool.eq_iff_iff]; simp
    simp [binOp, Op.intCmp, Sem.run_pure, this]
theorem v_lssJ {t t' : TypeId} {x y : Operand} {k : IntKind} {m n : Int} (ho : o.op = .binOp .lss t x y t') (hx : a.eval x = .int k m) (hy : a.eval y = .int k n) : Val P o a (.bool (decide (m < n))) w := v_lssI ho hx hy
end

/-- What a letter stands for. -/
def dg (c : Nat) : Option Nat := if 48 ≤ c ∧ c ≤ 57 then some (c - 48) else if 97 ≤ c ∧ c ≤ 102 then some (c - 87) else none
theorem dg_lt {c d : Nat} (h : dg c = some d) : d < 16 := by
  unfold dg at h
  split at h
  · injection h; omega
  · split at h
    · injection h; omega
    · cases h
theorem dg_hx {d : Nat} (h : d < 16) : dg (hx d) = some d := by
  have : ∀ d : Fin 16, dg (hx d.val) = some d.val := by decide
  exact this ⟨d, h⟩
theorem hx_dg {c d : Nat} (h : dg c = some d) : hx d = c := by
  unfold dg at h
  split at h
  · injection h; subst d; unfold hx; rw [if_pos (by omega)]; omega
  · split at h
    · injection h; subst d; unfold hx; rw [if_neg (by omega)]; omega
    · cases h
/-- The bytes of digits, if they are such. -/
def unhex : List Nat → Option (List Nat)
  | [] => some []
  | [_] => none
  | c :: e :: l => match dg c, dg e, unhex l with
    | some x, some y, some m => some ((16 * x + y) :: m)
    | _, _, _ => none
theorem unhex_cons {c e x y : Nat} {l : List Nat} (h1 : dg c = some x) (h2 : dg e = some y) : unhex (c :: e :: l) = (unhex l).map ((16 * x + y) :: ·) := by
  rw [unhex, h1, h2]
  cases unhex l <;> rfl
theorem unhex_hexN : ∀ {b : List Nat}, Digs 256 b → unhex (hexN b) = some b
  | [], _ => rfl
  | c :: b, h => by
    have hc : c < 256 := h c (List.mem_cons_self ..)
    have ih := unhex_hexN (b := b) (fun x hx => h x (List.mem_cons_of_mem _ hx))
    have e : hexN (c :: b) = hx (c / 16) :: hx (c % 16) :: hexN b := rfl
    rw [e, unhex_cons (dg_hx (by omega)) (dg_hx (by omega)), ih]
    simp only [Option.map_some]
    congr 2
    omega
theorem hexN_unhex : ∀ (l m : List Nat), unhex l = some m → hexN m = l ∧ Digs 256 m
  | [], m, h => by
    rw [unhex] at h
    injection h with h
    subst h
    exact ⟨rfl, Digs.nil⟩
  | [_], m, h => by cases h
  | c :: e :: l, m, h => by
    rw [unhex] at h
    split at h
    · rename_i x y m' h1 h2 h3
      injection h with h
      subst h
      obtain ⟨i1, i2⟩ := hexN_unhex l m' h3
      have hx1 := dg_lt h1
      have hy1 := dg_lt h2
      refine ⟨?_, Digs.cons (by omega) i2⟩
      have e : hexN ((16 * x + y) :: m') = hx ((16 * x + y) / 16) :: hx ((16 * x + y) % 16) :: hexN m' := rfl
      rw [e, i1, show (16 * x + y) / 16 = x by omega, show (16 * x + y) % 16 = y by omega, hx_dg h1, hx_dg h2]
    · cases h
/-- Are these digits, an even number of them? -/
theorem unhex_none : ∀ (l : List Nat), unhex l = none → (decide (l.length % 2 = 0) && l.all fun c => (dg c).isSome) = false
  | [], h => by cases h
  | [_], _ => by simp
  | c :: e :: l, h => by
    rw [unhex] at h
    rcases h1 : dg c with _ | x
    · simp [h1]
    rcases h2 : dg e with _ | y
    · simp [h2]
    rcases h3 : unhex l with _ | m
    · have ih := unhex_none l h3
      have e2 : (l.length + 1 + 1) % 2 = l.length % 2 := by omega
      simp only [List.length_cons, List.all_cons, h1, h2, Option.isSome_some, Bool.true_and, e2]
      exact ih
    · rw [h1, h2, h3] at h
      cases h
theorem unhex_app : ∀ (k : Nat) (l m : List Nat), 2 * k ≤ l.length → unhex (l.take (2 * k)) = some m → unhex l = (unhex (l.drop (2 * k))).map (m ++ ·)
  | 0, l, m, _, h => by
    rw [Nat.mul_zero, List.take_zero, unhex] at h
    injection h with h
    subst h
    rw [Nat.mul_zero, List.drop_zero]
    cases unhex l <;> rfl
  | k + 1, [], m, h, _ => by simp at h
  | k + 1, [_], m, h, _ => by simp at h; omega
  | k + 1, c :: e :: l, m, hl, h => by
    rw [show 2 * (k + 1) = 2 * k + 1 + 1 by omega, List.take_succ_cons, List.take_succ_cons, unhex] at h
    rw [show 2 * (k + 1) = 2 * k + 1 + 1 by omega, List.drop_succ_cons, List.drop_succ_cons]
    split at h
    · rename_i x y m' h1 h2 h3
      injection h with h
      subst h
      rw [unhex_cons h1 h2, unhex_app k l m' (by simp at hl; omega) h3]
      cases unhex (l.drop (2 * k)) <;> rfl
    · cases h
theorem unhex_step {k : Nat} {l m : List Nat} {c e x y : Nat} (h : unhex (l.take (2 * k)) = some m) (h1 : l[2 * k]? = some c) (h2 : l[2 * k + 1]? = some e) (d1 : dg c = some x) (d2 : dg e = some y) : unhex (l.take (2 * (k + 1))) = some (m ++ [16 * x + y]) := by
  have hl1 := (List.getElem?_eq_some_iff.1 h1).1
  have hl2 := (List.getElem?_eq_some_iff.1 h2).1
  have e1 : (List.take (2 * k) (l.take (2 * (k + 1)))) = l.take (2 * k) := by rw [List.take_take]; congr 1; omega
  have e2 : (l.take (2 * (k + 1))).drop (2 * k) = [c, e] := by
    rw [List.drop_take, show 2 * (k + 1) - 2 * k = 2 by omega, List.drop_eq_getElem_cons hl1, List.drop_eq_getElem_cons hl2]
    rw [(List.getElem?_eq_some_iff.1 h1).2, (List.getElem?_eq_some_iff.1 h2).2]
    rfl
  rw [unhex_app k (l.take (2 * (k + 1))) m (by rw [List.length_take]; omega) (by rw [e1]; exact h), e2, unhex_cons d1 d2, unhex]
  rfl
theorem unhex_stop {k : Nat} {l m : List Nat} (h : unhex (l.take (2 * k)) = some m) (hk : 2 * k ≤ l.length) (hn : unhex (l.drop (2 * k)) = none) : unhex l = none := by
  rw [unhex_app k l m hk h, hn]
  rfl
theorem drop_two {k : Nat} {l : List Nat} {c e : Nat} (h1 : l[2 * k]? = some c) (h2 : l[2 * k + 1]? = some e) : ∃ r, l.drop (2 * k) = c :: e :: r := by
  have hl1 := (List.getElem?_eq_some_iff.1 h1).1
  have hl2 := (List.getElem?_eq_some_iff.1 h2).1
  refine ⟨l.drop (2 * k + 1 + 1), ?_⟩
  rw [List.drop_eq_getElem_cons hl1, List.drop_eq_getElem_cons hl2, (List.getElem?_eq_some_iff.1 h1).2, (List.getElem?_eq_some_iff.1 h2).2]
theorem unhex_bad1 {c e : Nat} {r : List Nat} (h : dg c = none) : unhex (c :: e :: r) = none := by
  rw [unhex, h]
theorem unhex_bad2 {c e : Nat} {r : List Nat} (h : dg e = none) : unhex (c :: e :: r) = none := by
  rw [unhex, h]
  cases dg c <;> rfl
theorem drop_one {k : Nat} {l : List Nat} (h : 2 * k + 1 = l.length) : ∃ c, l.drop (2 * k) = [c] := by
  have hl1 : 2 * k < l.length := by omega
  refine ⟨l[2 * k], ?_⟩
  rw [List.drop_eq_getElem_cons hl1, List.drop_eq_nil_of_le (by omega)]

/-- A letter's number; -1 of others. -/
def dgI (c : Nat) : Int := match dg c with
  | some d => (d : Int)
  | none => -1
set_option maxHeartbeats 2000000 in
theorem digit_any {c : Nat} {w : World} (h8 : c < 256) : Gives 11 #[.int .u8 (c : Int)] w (.int .i64 (dgI c)) := by
  go_enter Tryd.func11, Tryd.ntmps11
  by_cases h1 : (48 : Int) ≤ (c : Int)
  · by_cases h2 : (c : Int) ≤ 57
    · have hd : dgI c = ((c - 48 : Nat) : Int) := by unfold dgI dg; rw [if_pos (by omega)]
      rw [hd]
      go_wp2
      go_returns
      refine ⟨?_, Below.refl _ _⟩
      show Ending.returned (.int .i64 ((c : Int) - 48)) = _
      congr 2
      omega
    · have h3 : ¬ (48 ≤ c ∧ c ≤ 57) := by omega
      by_cases h4 : (97 : Int) ≤ (c : Int)
      · by_cases h5 : (c : Int) ≤ 102
        · have hd : dgI c = ((c - 87 : Nat) : Int) := by unfold dgI dg; rw [if_neg h3, if_pos (by omega)]
          rw [hd]
          go_wp2
          go_returns
          refine ⟨?_, Below.refl _ _⟩
          show Ending.returned (.int .i64 ((c : Int) - 97 + 10)) = _
          congr 2
          omega
        · have hd : dgI c = -1 := by unfold dgI dg; rw [if_neg h3, if_neg (by omega)]
          rw [hd]
          go_wp2
          go_returns
          exact ⟨rfl, Below.refl _ _⟩
      · have hd : dgI c = -1 := by unfold dgI dg; rw [if_neg h3, if_neg (by omega)]
        rw [hd]
        go_wp2
        go_returns
        exact ⟨rfl, Below.refl _ _⟩
  · have hd : dgI c = -1 := by unfold dgI dg; rw [if_neg (by omega), if_neg (by omega)]
    rw [hd]
    go_wp2
    go_returns
    exact ⟨rfl, Below.refl _ _⟩
theorem dgI_some {c d : Nat} (h : dg c = some d) : dgI c = (d : Int) := by unfold dgI; rw [h]
theorem dgI_none {c : Nat} (h : dg c = none) : dgI c = -1 := by unfold dgI; rw [h]
theorem or_nib {x y : Nat} (hx : x < 16) (hy : y < 16) : x * 16 ||| y = 16 * x + y := by
  have : ∀ x y : Fin 16, x.val * 16 ||| y.val = 16 * x.val + y.val := by decide
  exact this ⟨x, hx⟩ ⟨y, hy⟩

set_option maxHeartbeats 8000000 in
/-- The bytes of a string of digits. -/
theorem Parse_any {l : List Nat} {w : World} (dl : Digs 256 l) (hl : l.length < 1000000) : Calls Tryd.prog 6 #[.string (bytesOf l)] w fun e w' => Below w.heap.size w w' ∧
    ((∃ m v, unhex l = some m ∧ e = .returned (.tuple #[v, .nilIface]) ∧ RdS .u8 m v w') ∨ (unhex l = none ∧ e = .returned (.tuple #[.slice none 0 0, errC 2]))) := by
  obtain ⟨i0, hi, hz, hs, hby⟩ := info_u8
  have Hi := Lib.hid hi
  have Hz := Lib.hid hz
  have Hs := Lib.hid hs
  have Hby := Lib.hid hby
  have Hd := Lib.hid dl
  have hl63 : l.length < 9223372036854775808 := by omega
  clear hi hz hs hby dl
  have hE0 := Env.nil w
  go_enter Tryd.func6, Tryd.ntmps6
  repeat ((fail_if_success (with_reducible show wpList _ _ _ (List.cons _ _) _ _)); (fail_if_success (with_reducible show Code.wp _ (Code.region _ _ true) _ _ _)); go_step)
  refine wl_step (st_val rfl (v_moveC (.inr rfl)) ?_)
  simp only [Act.put, List.setIfInBounds_toArray, List.set_cons_zero, List.set_cons_succ]
  refine wl_step (st_val rfl (v_moveC (.inr rfl)) ?_)
  simp only [Act.put, List.setIfInBounds_toArray, List.set_cons_zero, List.set_cons_succ]
  repeat ((fail_if_success (with_reducible show wpList _ _ _ (List.cons _ _) _ _)); (fail_if_success (with_reducible show Code.wp _ (Code.region _ _ true) _ _ _)); go_step)
  refine wl_step (st_val rfl (v_moveC (.inr rfl)) ?_)
  simp only [Act.put, List.setIfInBounds_toArray, List.set_cons_zero, List.set_cons_succ]
  repeat ((fail_if_success (with_reducible show wpList _ _ _ (List.cons _ _) _ _)); (fail_if_success (with_reducible show Code.wp _ (Code.region _ _ true) _ _ _)); go_step)
  refine wl_step (st_val rfl (v_moveC (.inr rfl)) ?_)
  simp only [Act.put, List.setIfInBounds_toArray, List.set_cons_zero, List.set_cons_succ]
  have hst : Env w ([] ++ []) w := hE0
  clear hE0
  go_wp2
  go_loopw [4, 5] (fun s i wr => ∃ (j : Nat) (m : List Nat) (bs : List Blk), 2 * j ≤ l.length + 1 ∧ m.length = j ∧ i = .int .i64 ((2 * j : Nat) : Int) ∧ Hid (unhex (l.take (2 * j)) = some m ∧ 2 * j ≤ l.length) ∧ Hid (Ow 5 (nats .u8 m) s bs) ∧ Env w (bs ++ []) wr) (fun _ i _ => l.length - (intOf i).toNat)
  case atStart => exact ⟨0, [], [], by omega, rfl, rfl, Lib.hid ⟨by rw [Nat.mul_zero, List.take_zero]; rfl, by omega⟩, Lib.hid (Ow.nil _), hst⟩
  case round =>
    clear hst
    obtain ⟨j, m, bs, hj, hml, rfl, HU, hO, hE0⟩ := hrel
    have hj2 := HU.out.2
    by_cases hjl : 2 * j < l.length
    · have d1 := Lib.hid (decide_eq_true hjl)
      repeat ((fail_if_success (with_reducible show wpList _ _ _ (List.cons _ _) _ _)); (fail_if_success (with_reducible show Code.wp _ (Code.region _ _ true) _ _ _)); go_step)
      refine wl_step (st_val rfl (v_moveT (.inl rfl) rfl) ?_)
      simp only [Act.put, List.setIfInBounds_toArray, List.set_cons_zero, List.set_cons_succ]
      refine wl_step (st_val rfl (v_moveT (.inl rfl) rfl) ?_)
      simp only [Act.put, List.setIfInBounds_toArray, List.set_cons_zero, List.set_cons_succ]
      refine wl_step (st_val rfl (v_lenStr rfl rfl Tryd.underlying9 hl63) ?_)
      simp only [Act.put, List.setIfInBounds_toArray, List.set_cons_zero, List.set_cons_succ]
      refine wl_step (st_val rfl (v_lss rfl rfl rfl) ?_)
      simp only [Act.put, List.setIfInBounds_toArray, List.set_cons_zero, List.set_cons_succ]
      rw [d1.out]
      repeat ((fail_if_success (with_reducible show wpList _ _ _ (List.cons _ _) _ _)); (fail_if_success (with_reducible show Code.wp _ (Code.region _ _ true) _ _ _)); (fail_if_success (with_reducible show Code.wp _ (Code.cond _ _ _) _ _ _)); go_step)
      refine wp_cond_true (by first | rfl | exact congrArg Value.bool (decide_eq_true (by omega))) ?_
      skip
      by_cases hodd : 2 * j + 1 = l.length
      · have d2 := Lib.hid (decide_eq_true hodd)
        have hnone : unhex l = none := by
          obtain ⟨c, hc⟩ := drop_one hodd
          exact unhex_stop HU.out.1 hj2 (by rw [hc]; rfl)
        repeat ((fail_if_success (with_reducible show wpList _ _ _ (List.cons _ _) _ _)); (fail_if_success (with_reducible show Code.wp _ (Code.region _ _ true) _ _ _)); go_step)
        refine wl_step (st_val rfl (v_moveT (.inl rfl) rfl) ?_)
        simp only [Act.put, List.setIfInBounds_toArray, List.set_cons_zero, List.set_cons_succ]
        refine wl_step (st_val rfl (v_add (m := 2 * j) (n := 1) rfl rfl rfl (w_i64 (by omega))) ?_)
        simp only [Act.put, List.setIfInBounds_toArray, List.set_cons_zero, List.set_cons_succ]
        refine wl_step (st_val rfl (v_moveT (.inl rfl) rfl) ?_)
        simp only [Act.put, List.setIfInBounds_toArray, List.set_cons_zero, List.set_cons_succ]
        refine wl_step (st_val rfl (v_lenStr rfl rfl Tryd.underlying9 hl63) ?_)
        simp only [Act.put, List.setIfInBounds_toArray, List.set_cons_zero, List.set_cons_succ]
        refine wl_step (st_val rfl (v_eql rfl rfl rfl) ?_)
        simp only [Act.put, List.setIfInBounds_toArray, List.set_cons_zero, List.set_cons_succ]
        rw [d2.out]
        refine wl_step (st_val rfl (v_moveT (.inl rfl) rfl) ?_)
        simp only [Act.put, List.setIfInBounds_toArray, List.set_cons_zero, List.set_cons_succ]
        refine wl_step (st_skip rfl ?_)
        simp only [Act.put, List.setIfInBounds_toArray, List.set_cons_zero, List.set_cons_succ]
        refine wl_step (st_skip rfl ?_)
        simp only [Act.put, List.setIfInBounds_toArray, List.set_cons_zero, List.set_cons_succ]
        refine wl_step (st_skip rfl ?_)
        simp only [Act.put, List.setIfInBounds_toArray, List.set_cons_zero, List.set_cons_succ]
        refine wl_step (st_skip rfl ?_)
        simp only [Act.put, List.setIfInBounds_toArray, List.set_cons_zero, List.set_cons_succ]
        refine wl_step (st_skip rfl ?_)
        simp only [Act.put, List.setIfInBounds_toArray, List.set_cons_zero, List.set_cons_succ]
        refine wl_step (st_val rfl (v_orT rfl rfl) ?_)
        simp only [Act.put, List.setIfInBounds_toArray, List.set_cons_zero, List.set_cons_succ]
        refine wl_step (st_val rfl (v_moveT (.inl rfl) rfl) ?_)
        simp only [Act.put, List.setIfInBounds_toArray, List.set_cons_zero, List.set_cons_succ]
        refine wl_step (st_skip rfl ?_)
        simp only [Act.put, List.setIfInBounds_toArray, List.set_cons_zero, List.set_cons_succ]
        refine wl_step (st_skip rfl ?_)
        simp only [Act.put, List.setIfInBounds_toArray, List.set_cons_zero, List.set_cons_succ]
        refine wl_step (st_skip rfl ?_)
        simp only [Act.put, List.setIfInBounds_toArray, List.set_cons_zero, List.set_cons_succ]
        refine wl_step (st_skip rfl ?_)
        simp only [Act.put, List.setIfInBounds_toArray, List.set_cons_zero, List.set_cons_succ]
        refine wl_step (st_skip rfl ?_)
        simp only [Act.put, List.setIfInBounds_toArray, List.set_cons_zero, List.set_cons_succ]
        refine wl_step (st_skip rfl ?_)
        simp only [Act.put, List.setIfInBounds_toArray, List.set_cons_zero, List.set_cons_succ]
        refine wl_step (st_val rfl (v_orT rfl rfl) ?_)
        simp only [Act.put, List.setIfInBounds_toArray, List.set_cons_zero, List.set_cons_succ]
        repeat ((fail_if_success (with_reducible show wpList _ _ _ (List.cons _ _) _ _)); (fail_if_success (with_reducible show Code.wp _ (Code.region _ _ true) _ _ _)); (fail_if_success (with_reducible show Code.wp _ (Code.cond _ _ _) _ _ _)); go_step)
        refine wp_cond_true (by first | rfl | exact congrArg Value.bool (decide_eq_true (by omega))) ?_
        skip
        repeat ((fail_if_success (with_reducible show wpList _ _ _ (List.cons _ _) _ _)); (fail_if_success (with_reducible show Code.wp _ (Code.region _ _ true) _ _ _)); go_step)
        refine wl_step (st_val rfl (v_run fun w9 => by go_simp; with_reducible rfl) ?_)
        simp only [Act.put, List.setIfInBounds_toArray, List.set_cons_zero, List.set_cons_succ]
        refine wl_step (st_val rfl (v_moveC (.inr rfl)) ?_)
        simp only [Act.put, List.setIfInBounds_toArray, List.set_cons_zero, List.set_cons_succ]
        refine wl_step (st_val rfl (v_moveT (.inr rfl) rfl) ?_)
        simp only [Act.put, List.setIfInBounds_toArray, List.set_cons_zero, List.set_cons_succ]
        repeat ((fail_if_success (with_reducible show wpList _ _ _ (List.cons _ _) _ _)); (fail_if_success (with_reducible show Code.wp _ (Code.region _ _ true) _ _ _)); (fail_if_success (with_reducible show Code.wp _ (Code.cond _ _ _) _ _ _)); go_step)
        go_returns
        exact ⟨(hE0).below, .inr ⟨hnone, rfl⟩⟩
      · have d2 := Lib.hid (decide_eq_false hodd)
        have hk2 : 2 * j + 1 < l.length := by omega
        have g1 : l[2 * j]? = some l[2 * j] := List.getElem?_eq_getElem hjl
        have g2 : l[2 * j + 1]? = some l[2 * j + 1] := List.getElem?_eq_getElem hk2
        obtain ⟨c1, hc1⟩ : ∃ c, l[2 * j] = c := ⟨_, rfl⟩
        obtain ⟨c2, hc2⟩ : ∃ c, l[2 * j + 1] = c := ⟨_, rfl⟩
        rw [hc1] at g1
        rw [hc2] at g2
        have h81 : c1 < 256 := Hd.out _ (List.mem_of_getElem? g1)
        have h82 : c2 < 256 := Hd.out _ (List.mem_of_getElem? g2)
        obtain ⟨r, hr⟩ := drop_two g1 g2
        have G1 := Lib.hid g1
        have G2 := Lib.hid g2
        clear g1 g2 hc1 hc2
        rcases hd1 : dg c1 with _ | x
        · have hnone : unhex l = none := unhex_stop HU.out.1 hj2 (by rw [hr]; exact unhex_bad1 hd1)
          have D1 := Lib.hid (dgI_none hd1)
          repeat ((fail_if_success (with_reducible show wpList _ _ _ (List.cons _ _) _ _)); (fail_if_success (with_reducible show Code.wp _ (Code.region _ _ true) _ _ _)); go_step)
          refine wl_step (st_val rfl (v_moveT (.inl rfl) rfl) ?_)
          simp only [Act.put, List.setIfInBounds_toArray, List.set_cons_zero, List.set_cons_succ]
          refine wl_step (st_val rfl (v_add (m := 2 * j) (n := 1) rfl rfl rfl (w_i64 (by omega))) ?_)
          simp only [Act.put, List.setIfInBounds_toArray, List.set_cons_zero, List.set_cons_succ]
          refine wl_step (st_val rfl (v_moveT (.inl rfl) rfl) ?_)
          simp only [Act.put, List.setIfInBounds_toArray, List.set_cons_zero, List.set_cons_succ]
          refine wl_step (st_val rfl (v_lenStr rfl rfl Tryd.underlying9 hl63) ?_)
          simp only [Act.put, List.setIfInBounds_toArray, List.set_cons_zero, List.set_cons_succ]
          refine wl_step (st_val rfl (v_eql rfl rfl rfl) ?_)
          simp only [Act.put, List.setIfInBounds_toArray, List.set_cons_zero, List.set_cons_succ]
          rw [d2.out]
          refine wl_step (st_val rfl (v_moveT (.inl rfl) rfl) ?_)
          simp only [Act.put, List.setIfInBounds_toArray, List.set_cons_zero, List.set_cons_succ]
          refine wl_step (st_val rfl (v_moveT (.inl rfl) rfl) ?_)
          simp only [Act.put, List.setIfInBounds_toArray, List.set_cons_zero, List.set_cons_succ]
          refine wl_step (st_val rfl (v_moveT (.inl rfl) rfl) ?_)
          simp only [Act.put, List.setIfInBounds_toArray, List.set_cons_zero, List.set_cons_succ]
          refine wl_step (st_val rfl (v_idxB rfl rfl rfl Tryd.underlying9 G1.out h81) ?_)
          simp only [Act.put, List.setIfInBounds_toArray, List.set_cons_zero, List.set_cons_succ]
          refine wl_step (st_gives hE0 rfl (run_call rfl Tryd.call11) (digit_any h81) ?_)
          intro w1 hb1 hE1
          clear hE0
          simp only [Act.put, List.setIfInBounds_toArray, List.set_cons_zero, List.set_cons_succ]
          rw [D1.out]
          refine wl_step (st_val rfl (v_lssI (n := 0) rfl rfl rfl) ?_)
          simp only [Act.put, List.setIfInBounds_toArray, List.set_cons_zero, List.set_cons_succ]
          rw [show decide ((-1 : Int) < 0) = true from rfl]
          refine wl_step (st_val rfl (v_orF rfl rfl rfl) ?_)
          simp only [Act.put, List.setIfInBounds_toArray, List.set_cons_zero, List.set_cons_succ]
          refine wl_step (st_val rfl (v_moveT (.inl rfl) rfl) ?_)
          simp only [Act.put, List.setIfInBounds_toArray, List.set_cons_zero, List.set_cons_succ]
          refine wl_step (st_skip rfl ?_)
          simp only [Act.put, List.setIfInBounds_toArray, List.set_cons_zero, List.set_cons_succ]
          refine wl_step (st_skip rfl ?_)
          simp only [Act.put, List.setIfInBounds_toArray, List.set_cons_zero, List.set_cons_succ]
          refine wl_step (st_skip rfl ?_)
          simp only [Act.put, List.setIfInBounds_toArray, List.set_cons_zero, List.set_cons_succ]
          refine wl_step (st_skip rfl ?_)
          simp only [Act.put, List.setIfInBounds_toArray, List.set_cons_zero, List.set_cons_succ]
          refine wl_step (st_skip rfl ?_)
          simp only [Act.put, List.setIfInBounds_toArray, List.set_cons_zero, List.set_cons_succ]
          refine wl_step (st_skip rfl ?_)
          simp only [Act.put, List.setIfInBounds_toArray, List.set_cons_zero, List.set_cons_succ]
          refine wl_step (st_val rfl (v_orT rfl rfl) ?_)
          simp only [Act.put, List.setIfInBounds_toArray, List.set_cons_zero, List.set_cons_succ]
          repeat ((fail_if_success (with_reducible show wpList _ _ _ (List.cons _ _) _ _)); (fail_if_success (with_reducible show Code.wp _ (Code.region _ _ true) _ _ _)); (fail_if_success (with_reducible show Code.wp _ (Code.cond _ _ _) _ _ _)); go_step)
          refine wp_cond_true (by first | rfl | exact congrArg Value.bool (decide_eq_true (by omega))) ?_
          skip
          repeat ((fail_if_success (with_reducible show wpList _ _ _ (List.cons _ _) _ _)); (fail_if_success (with_reducible show Code.wp _ (Code.region _ _ true) _ _ _)); go_step)
          refine wl_step (st_val rfl (v_run fun w9 => by go_simp; with_reducible rfl) ?_)
          simp only [Act.put, List.setIfInBounds_toArray, List.set_cons_zero, List.set_cons_succ]
          refine wl_step (st_val rfl (v_moveC (.inr rfl)) ?_)
          simp only [Act.put, List.setIfInBounds_toArray, List.set_cons_zero, List.set_cons_succ]
          refine wl_step (st_val rfl (v_moveT (.inr rfl) rfl) ?_)
          simp only [Act.put, List.setIfInBounds_toArray, List.set_cons_zero, List.set_cons_succ]
          repeat ((fail_if_success (with_reducible show wpList _ _ _ (List.cons _ _) _ _)); (fail_if_success (with_reducible show Code.wp _ (Code.region _ _ true) _ _ _)); (fail_if_success (with_reducible show Code.wp _ (Code.cond _ _ _) _ _ _)); go_step)
          go_returns
          exact ⟨(hE1).below, .inr ⟨hnone, rfl⟩⟩
        · have D1 := Lib.hid (dgI_some hd1)
          have x16 := dg_lt hd1
          have e1 := Lib.hid (decide_eq_false (show ¬ ((x : Nat) : Int) < 0 by omega))
          rcases hd2 : dg c2 with _ | y
          · have hnone : unhex l = none := unhex_stop HU.out.1 hj2 (by rw [hr]; exact unhex_bad2 hd2)
            have D2 := Lib.hid (dgI_none hd2)
            repeat ((fail_if_success (with_reducible show wpList _ _ _ (List.cons _ _) _ _)); (fail_if_success (with_reducible show Code.wp _ (Code.region _ _ true) _ _ _)); go_step)
            refine wl_step (st_val rfl (v_moveT (.inl rfl) rfl) ?_)
            simp only [Act.put, List.setIfInBounds_toArray, List.set_cons_zero, List.set_cons_succ]
            refine wl_step (st_val rfl (v_add (m := 2 * j) (n := 1) rfl rfl rfl (w_i64 (by omega))) ?_)
            simp only [Act.put, List.setIfInBounds_toArray, List.set_cons_zero, List.set_cons_succ]
            refine wl_step (st_val rfl (v_moveT (.inl rfl) rfl) ?_)
            simp only [Act.put, List.setIfInBounds_toArray, List.set_cons_zero, List.set_cons_succ]
            refine wl_step (st_val rfl (v_lenStr rfl rfl Tryd.underlying9 hl63) ?_)
            simp only [Act.put, List.setIfInBounds_toArray, List.set_cons_zero, List.set_cons_succ]
            refine wl_step (st_val rfl (v_eql rfl rfl rfl) ?_)
            simp only [Act.put, List.setIfInBounds_toArray, List.set_cons_zero, List.set_cons_succ]
            rw [d2.out]
            refine wl_step (st_val rfl (v_moveT (.inl rfl) rfl) ?_)
            simp only [Act.put, List.setIfInBounds_toArray, List.set_cons_zero, List.set_cons_succ]
            refine wl_step (st_val rfl (v_moveT (.inl rfl) rfl) ?_)
            simp only [Act.put, List.setIfInBounds_toArray, List.set_cons_zero, List.set_cons_succ]
            refine wl_step (st_val rfl (v_moveT (.inl rfl) rfl) ?_)
            simp only [Act.put, List.setIfInBounds_toArray, List.set_cons_zero, List.set_cons_succ]
            refine wl_step (st_val rfl (v_idxB rfl rfl rfl Tryd.underlying9 G1.out h81) ?_)
            simp only [Act.put, List.setIfInBounds_toArray, List.set_cons_zero, List.set_cons_succ]
            refine wl_step (st_gives hE0 rfl (run_call rfl Tryd.call11) (digit_any h81) ?_)
            intro w1 hb1 hE1
            clear hE0
            simp only [Act.put, List.setIfInBounds_toArray, List.set_cons_zero, List.set_cons_succ]
            rw [D1.out]
            refine wl_step (st_val rfl (v_lssI (n := 0) rfl rfl rfl) ?_)
            simp only [Act.put, List.setIfInBounds_toArray, List.set_cons_zero, List.set_cons_succ]
            rw [e1.out]
            refine wl_step (st_val rfl (v_orF rfl rfl rfl) ?_)
            simp only [Act.put, List.setIfInBounds_toArray, List.set_cons_zero, List.set_cons_succ]
            refine wl_step (st_val rfl (v_moveT (.inl rfl) rfl) ?_)
            simp only [Act.put, List.setIfInBounds_toArray, List.set_cons_zero, List.set_cons_succ]
            refine wl_step (st_val rfl (v_moveT (.inl rfl) rfl) ?_)
            simp only [Act.put, List.setIfInBounds_toArray, List.set_cons_zero, List.set_cons_succ]
            refine wl_step (st_val rfl (v_moveT (.inl rfl) rfl) ?_)
            simp only [Act.put, List.setIfInBounds_toArray, List.set_cons_zero, List.set_cons_succ]
            refine wl_step (st_val rfl (v_add (m := 2 * j) (n := 1) rfl rfl rfl (w_i64 (by omega))) ?_)
            simp only [Act.put, List.setIfInBounds_toArray, List.set_cons_zero, List.set_cons_succ]
            refine wl_step (st_val rfl (v_idxB rfl rfl rfl Tryd.underlying9 G2.out h82) ?_)
            simp only [Act.put, List.setIfInBounds_toArray, List.set_cons_zero, List.set_cons_succ]
            refine wl_step (st_gives hE1 rfl (run_call rfl Tryd.call11) (digit_any h82) ?_)
            intro w2 hb2 hE2
            clear hE1
            simp only [Act.put, List.setIfInBounds_toArray, List.set_cons_zero, List.set_cons_succ]
            rw [D2.out]
            refine wl_step (st_val rfl (v_lssI (n := 0) rfl rfl rfl) ?_)
            simp only [Act.put, List.setIfInBounds_toArray, List.set_cons_zero, List.set_cons_succ]
            rw [show decide ((-1 : Int) < 0) = true from rfl]
            refine wl_step (st_val rfl (v_orF rfl rfl rfl) ?_)
            simp only [Act.put, List.setIfInBounds_toArray, List.set_cons_zero, List.set_cons_succ]
            repeat ((fail_if_success (with_reducible show wpList _ _ _ (List.cons _ _) _ _)); (fail_if_success (with_reducible show Code.wp _ (Code.region _ _ true) _ _ _)); (fail_if_success (with_reducible show Code.wp _ (Code.cond _ _ _) _ _ _)); go_step)
            refine wp_cond_true (by first | rfl | exact congrArg Value.bool (decide_eq_true (by omega))) ?_
            skip
            repeat ((fail_if_success (with_reducible show wpList _ _ _ (List.cons _ _) _ _)); (fail_if_success (with_reducible show Code.wp _ (Code.region _ _ true) _ _ _)); go_step)
            refine wl_step (st_val rfl (v_run fun w9 => by go_simp; with_reducible rfl) ?_)
            simp only [Act.put, List.setIfInBounds_toArray, List.set_cons_zero, List.set_cons_succ]
            refine wl_step (st_val rfl (v_moveC (.inr rfl)) ?_)
            simp only [Act.put, List.setIfInBounds_toArray, List.set_cons_zero, List.set_cons_succ]
            refine wl_step (st_val rfl (v_moveT (.inr rfl) rfl) ?_)
            simp only [Act.put, List.setIfInBounds_toArray, List.set_cons_zero, List.set_cons_succ]
            repeat ((fail_if_success (with_reducible show wpList _ _ _ (List.cons _ _) _ _)); (fail_if_success (with_reducible show Code.wp _ (Code.region _ _ true) _ _ _)); (fail_if_success (with_reducible show Code.wp _ (Code.cond _ _ _) _ _ _)); go_step)
            go_returns
            exact ⟨(hE2).below, .inr ⟨hnone, rfl⟩⟩
          · have D2 := Lib.hid (dgI_some hd2)
            have y16 := dg_lt hd2
            have e2 := Lib.hid (decide_eq_false (show ¬ ((y : Nat) : Int) < 0 by omega))
            have hstep := unhex_step HU.out.1 G1.out G2.out hd1 hd2
            have hor := Lib.hid (or_nib x16 y16)
            have e : nats .u8 m ++ nats .u8 [16 * x + y] = nats .u8 (m ++ [16 * x + y]) := nats_append ..
            have h63 : (nats .u8 m).length + ([0] : List Nat).length ≤ maxLen := by rw [nats_len, hml]; simp only [List.length_cons, List.length_nil, maxLen]; omega
            have hft : ((nats .u8 m).length + ([0] : List Nat).length) * 1 ≤ 140737488355328 := by rw [nats_len, hml]; simp only [List.length_cons, List.length_nil]; omega
            have He := Lib.hid e
            have HS := Lib.hid hstep
            clear e hstep
            repeat ((fail_if_success (with_reducible show wpList _ _ _ (List.cons _ _) _ _)); (fail_if_success (with_reducible show Code.wp _ (Code.region _ _ true) _ _ _)); go_step)
            refine wl_step (st_val rfl (v_moveT (.inl rfl) rfl) ?_)
            simp only [Act.put, List.setIfInBounds_toArray, List.set_cons_zero, List.set_cons_succ]
            refine wl_step (st_val rfl (v_add (m := 2 * j) (n := 1) rfl rfl rfl (w_i64 (by omega))) ?_)
            simp only [Act.put, List.setIfInBounds_toArray, List.set_cons_zero, List.set_cons_succ]
            refine wl_step (st_val rfl (v_moveT (.inl rfl) rfl) ?_)
            simp only [Act.put, List.setIfInBounds_toArray, List.set_cons_zero, List.set_cons_succ]
            refine wl_step (st_val rfl (v_lenStr rfl rfl Tryd.underlying9 hl63) ?_)
            simp only [Act.put, List.setIfInBounds_toArray, List.set_cons_zero, List.set_cons_succ]
            refine wl_step (st_val rfl (v_eql rfl rfl rfl) ?_)
            simp only [Act.put, List.setIfInBounds_toArray, List.set_cons_zero, List.set_cons_succ]
            rw [d2.out]
            refine wl_step (st_val rfl (v_moveT (.inl rfl) rfl) ?_)
            simp only [Act.put, List.setIfInBounds_toArray, List.set_cons_zero, List.set_cons_succ]
            refine wl_step (st_val rfl (v_moveT (.inl rfl) rfl) ?_)
            simp only [Act.put, List.setIfInBounds_toArray, List.set_cons_zero, List.set_cons_succ]
            refine wl_step (st_val rfl (v_moveT (.inl rfl) rfl) ?_)
            simp only [Act.put, List.setIfInBounds_toArray, List.set_cons_zero, List.set_cons_succ]
            refine wl_step (st_val rfl (v_idxB rfl rfl rfl Tryd.underlying9 G1.out h81) ?_)
            simp only [Act.put, List.setIfInBounds_toArray, List.set_cons_zero, List.set_cons_succ]
            refine wl_step (st_gives hE0 rfl (run_call rfl Tryd.call11) (digit_any h81) ?_)
            intro w1 hb1 hE1
            clear hE0
            simp only [Act.put, List.setIfInBounds_toArray, List.set_cons_zero, List.set_cons_succ]
            rw [D1.out]
            refine wl_step (st_val rfl (v_lssI (n := 0) rfl rfl rfl) ?_)
            simp only [Act.put, List.setIfInBounds_toArray, List.set_cons_zero, List.set_cons_succ]
            rw [e1.out]
            refine wl_step (st_val rfl (v_orF rfl rfl rfl) ?_)
            simp only [Act.put, List.setIfInBounds_toArray, List.set_cons_zero, List.set_cons_succ]
            refine wl_step (st_val rfl (v_moveT (.inl rfl) rfl) ?_)
            simp only [Act.put, List.setIfInBounds_toArray, List.set_cons_zero, List.set_cons_succ]
            refine wl_step (st_val rfl (v_moveT (.inl rfl) rfl) ?_)
            simp only [Act.put, List.setIfInBounds_toArray, List.set_cons_zero, List.set_cons_succ]
            refine wl_step (st_val rfl (v_moveT (.inl rfl) rfl) ?_)
            simp only [Act.put, List.setIfInBounds_toArray, List.set_cons_zero, List.set_cons_succ]
            refine wl_step (st_val rfl (v_add (m := 2 * j) (n := 1) rfl rfl rfl (w_i64 (by omega))) ?_)
            simp only [Act.put, List.setIfInBounds_toArray, List.set_cons_zero, List.set_cons_succ]
            refine wl_step (st_val rfl (v_idxB rfl rfl rfl Tryd.underlying9 G2.out h82) ?_)
            simp only [Act.put, List.setIfInBounds_toArray, List.set_cons_zero, List.set_cons_succ]
            refine wl_step (st_gives hE1 rfl (run_call rfl Tryd.call11) (digit_any h82) ?_)
            intro w2 hb2 hE2
            clear hE1
            simp only [Act.put, List.setIfInBounds_toArray, List.set_cons_zero, List.set_cons_succ]
            rw [D2.out]
            refine wl_step (st_val rfl (v_lssI (n := 0) rfl rfl rfl) ?_)
            simp only [Act.put, List.setIfInBounds_toArray, List.set_cons_zero, List.set_cons_succ]
            rw [e2.out]
            refine wl_step (st_val rfl (v_orF rfl rfl rfl) ?_)
            simp only [Act.put, List.setIfInBounds_toArray, List.set_cons_zero, List.set_cons_succ]
            repeat ((fail_if_success (with_reducible show wpList _ _ _ (List.cons _ _) _ _)); (fail_if_success (with_reducible show Code.wp _ (Code.region _ _ true) _ _ _)); (fail_if_success (with_reducible show Code.wp _ (Code.cond _ _ _) _ _ _)); go_step)
            refine wp_cond_false (by first | rfl | exact congrArg Value.bool (decide_eq_false (by omega))) ?_
            skip
            repeat ((fail_if_success (with_reducible show wpList _ _ _ (List.cons _ _) _ _)); (fail_if_success (with_reducible show Code.wp _ (Code.region _ _ true) _ _ _)); go_step)
            refine wp_region_B (n := 16) 14 (by kernel_rfl) rfl hE2 ?_
            intro w3 hb3 hE3
            clear hE2
            refine wpB_take (i := 0) (by kernel_rfl) rfl (by kernel_rfl) (fun _ _ _ h => h) rfl (v_moveT (.inl rfl) rfl) ?_
            simp only [Act.put, List.setIfInBounds_toArray, List.set_cons_zero, List.set_cons_succ]
            refine wpB_take (i := 1) (by kernel_rfl) rfl (by kernel_rfl) (fun _ _ _ h => h) rfl (v_moveT (.inl rfl) rfl) ?_
            simp only [Act.put, List.setIfInBounds_toArray, List.set_cons_zero, List.set_cons_succ]
            refine wpB_take (i := 2) (by kernel_rfl) rfl (by kernel_rfl) (fun _ _ _ h => h) rfl (v_moveT (.inl rfl) rfl) ?_
            simp only [Act.put, List.setIfInBounds_toArray, List.set_cons_zero, List.set_cons_succ]
            refine wpB_take (i := 3) (by kernel_rfl) rfl (by kernel_rfl) (fun _ _ _ h => h) rfl (v_idxB rfl rfl rfl Tryd.underlying9 G1.out h81) ?_
            simp only [Act.put, List.setIfInBounds_toArray, List.set_cons_zero, List.set_cons_succ]
            refine wpB_take (i := 6) (by kernel_rfl) rfl (by kernel_rfl) (fun _ _ _ h => h) rfl (v_moveT (.inl rfl) rfl) ?_
            simp only [Act.put, List.setIfInBounds_toArray, List.set_cons_zero, List.set_cons_succ]
            refine wpB_take (i := 7) (by kernel_rfl) rfl (by kernel_rfl) (fun _ _ _ h => h) rfl (v_moveT (.inl rfl) rfl) ?_
            simp only [Act.put, List.setIfInBounds_toArray, List.set_cons_zero, List.set_cons_succ]
            refine wpB_take (i := 8) (by kernel_rfl) rfl (by kernel_rfl) (fun _ _ _ h => h) rfl (v_add (m := 2 * j) (n := 1) rfl rfl rfl (w_i64 (by omega))) ?_
            simp only [Act.put, List.setIfInBounds_toArray, List.set_cons_zero, List.set_cons_succ]
            refine wpB_take (i := 9) (by kernel_rfl) rfl (by kernel_rfl) (fun _ _ _ h => h) rfl (v_idxB rfl rfl rfl Tryd.underlying9 G2.out h82) ?_
            simp only [Act.put, List.setIfInBounds_toArray, List.set_cons_zero, List.set_cons_succ]
            refine wpB_step (i := 4) (by kernel_rfl) rfl (st_gives hE3 rfl (run_call rfl Tryd.call11) (digit_any h81) ?_)
            intro w4 hb4 hE4
            clear hE3
            refine ⟨fun _ => hb4, ?_⟩
            simp only [Act.put, List.setIfInBounds_toArray, List.set_cons_zero, List.set_cons_succ]
            rw [D1.out]
            refine wpB_take (i := 5) (by kernel_rfl) rfl (by kernel_rfl) (fun _ _ _ h => h) rfl (v_shlC (m := x) (s := 4) (d := 16) rfl rfl rfl (by decide) (by decide) (w_i64 (by omega))) ?_
            simp only [Act.put, List.setIfInBounds_toArray, List.set_cons_zero, List.set_cons_succ]
            refine wpB_step (i := 10) (by kernel_rfl) rfl (st_gives hE4 rfl (run_call rfl Tryd.call11) (digit_any h82) ?_)
            intro w5 hb5 hE5
            clear hE4
            refine ⟨fun _ => hb5, ?_⟩
            simp only [Act.put, List.setIfInBounds_toArray, List.set_cons_zero, List.set_cons_succ]
            rw [D2.out]
            refine wpB_take (i := 11) (by kernel_rfl) rfl (by kernel_rfl) (fun _ _ _ h => h) rfl (v_bor (m := x * 16) (n := y) rfl rfl rfl (by simp only [IntKind.bits]; omega) (by simp only [IntKind.bits]; omega) (by rw [or_nib x16 y16]; exact w_i64 (by omega))) ?_
            simp only [Act.put, List.setIfInBounds_toArray, List.set_cons_zero, List.set_cons_succ]
            rw [hor.out]
            refine wpB_take (i := 12) (by kernel_rfl) rfl (by kernel_rfl) (fun _ _ _ h => h) rfl (v_convInt rfl rfl Tryd.underlying3 Tryd.underlying5 (w_uns rfl (by simp only [IntKind.bits]; omega))) ?_
            simp only [Act.put, List.setIfInBounds_toArray, List.set_cons_zero, List.set_cons_succ]
            refine wpB_step (i := 13) (by kernel_rfl) rfl (st_buildNums (k := .u8) [16 * x + y] hE5 rfl rfl (by first | (kernel_rfl; done) | (simp only [List.map_cons, List.map_nil, List.zipIdx_cons, List.zipIdx_nil]; rfl)) rfl (by decide) (by decide) Tryd.underlying22 (by kernel_rfl) Tryd.zeroValue5 ?_)
            intro g1 w6 hb6 hE6
            clear hE5
            refine ⟨fun _ => hb6, ?_⟩
            simp only [Act.put, List.setIfInBounds_toArray, List.set_cons_zero, List.set_cons_succ]
            refine wpB_step (i := 14) (by kernel_rfl) rfl (st_append (hO.out.sl (hE6.perm List.perm_middle.symm)) rfl rfl Tryd.underlying22 Hi.out Hz.out Hs.out rfl Hby.out rfl rfl (RdS.of_block (hE6.get (i := 0) rfl)) h63 hft ?_)
            intro v7 w7 hS7
            have hE7 := hS7.env
            clear hE6
            refine ⟨fun h => absurd h (by decide), ?_⟩
            simp only [Act.put, List.setIfInBounds_toArray, List.set_cons_zero, List.set_cons_succ]
            obtain ⟨bs2, ho2, hEE⟩ := hS7.ow
            rw [He.out] at ho2
            refine wpB_step (i := 15) (by kernel_rfl) rfl (st_val rfl (v_moveT (.inr rfl) rfl) ?_)
            refine ⟨fun _ => Below.refl _ _, ?_⟩
            simp only [Act.put, List.setIfInBounds_toArray, List.set_cons_zero, List.set_cons_succ]
            refine wpB_done (by kernel_rfl) ?_ _
            repeat ((fail_if_success (with_reducible show wpList _ _ _ (List.cons _ _) _ _)); (fail_if_success (with_reducible show Code.wp _ (Code.region _ _ true) _ _ _)); go_step)
            refine wl_step (st_val rfl (v_moveT (.inl rfl) rfl) ?_)
            simp only [Act.put, List.setIfInBounds_toArray, List.set_cons_zero, List.set_cons_succ]
            refine wl_step (st_val rfl (v_add (m := 2 * j) (n := 2) (r := 2 * (j + 1)) rfl rfl rfl (w_i64 (by omega))) ?_)
            simp only [Act.put, List.setIfInBounds_toArray, List.set_cons_zero, List.set_cons_succ]
            refine wl_step (st_val rfl (v_moveT (.inr rfl) rfl) ?_)
            simp only [Act.put, List.setIfInBounds_toArray, List.set_cons_zero, List.set_cons_succ]
            go_wp2
            go_roundw
            case rel => exact ⟨j + 1, m ++ [16 * x + y], bs2, by omega, by rw [List.length_append, hml]; rfl, rfl, Lib.hid ⟨HS.out, by omega⟩, Lib.hid ho2, hEE.sub (List.Sublist.append_left (List.nil_sublist _) _)⟩
            case measure => simp [intOf]; omega
    · have d1 := Lib.hid (decide_eq_false hjl)
      have hj3 : 2 * j = l.length := by omega
      have htk : l.take (2 * j) = l := by rw [hj3, List.take_length]
      have hU : unhex l = some m := by rw [← htk]; exact HU.out.1
      have hrd := (hO.out.sl hE0).rdS
      have Hrd := Lib.hid hrd
      clear hrd htk hO
      repeat ((fail_if_success (with_reducible show wpList _ _ _ (List.cons _ _) _ _)); (fail_if_success (with_reducible show Code.wp _ (Code.region _ _ true) _ _ _)); go_step)
      refine wl_step (st_val rfl (v_moveT (.inl rfl) rfl) ?_)
      simp only [Act.put, List.setIfInBounds_toArray, List.set_cons_zero, List.set_cons_succ]
      refine wl_step (st_val rfl (v_moveT (.inl rfl) rfl) ?_)
      simp only [Act.put, List.setIfInBounds_toArray, List.set_cons_zero, List.set_cons_succ]
      refine wl_step (st_val rfl (v_lenStr rfl rfl Tryd.underlying9 hl63) ?_)
      simp only [Act.put, List.setIfInBounds_toArray, List.set_cons_zero, List.set_cons_succ]
      refine wl_step (st_val rfl (v_lss rfl rfl rfl) ?_)
      simp only [Act.put, List.setIfInBounds_toArray, List.set_cons_zero, List.set_cons_succ]
      rw [d1.out]
      repeat ((fail_if_success (with_reducible show wpList _ _ _ (List.cons _ _) _ _)); (fail_if_success (with_reducible show Code.wp _ (Code.region _ _ true) _ _ _)); (fail_if_success (with_reducible show Code.wp _ (Code.cond _ _ _) _ _ _)); go_step)
      refine wp_cond_false (by first | rfl | exact congrArg Value.bool (decide_eq_false (by omega))) ?_
      skip
      repeat ((fail_if_success (with_reducible show wpList _ _ _ (List.cons _ _) _ _)); (fail_if_success (with_reducible show Code.wp _ (Code.region _ _ true) _ _ _)); go_step)
      refine wl_step (st_val rfl (v_moveT (.inl rfl) rfl) ?_)
      simp only [Act.put, List.setIfInBounds_toArray, List.set_cons_zero, List.set_cons_succ]
      refine wl_step (st_val rfl (v_moveT (.inr rfl) rfl) ?_)
      simp only [Act.put, List.setIfInBounds_toArray, List.set_cons_zero, List.set_cons_succ]
      refine wl_step (st_val rfl (v_moveC (.inr rfl)) ?_)
      simp only [Act.put, List.setIfInBounds_toArray, List.set_cons_zero, List.set_cons_succ]
      repeat ((fail_if_success (with_reducible show wpList _ _ _ (List.cons _ _) _ _)); (fail_if_success (with_reducible show Code.wp _ (Code.region _ _ true) _ _ _)); (fail_if_success (with_reducible show Code.wp _ (Code.cond _ _ _) _ _ _)); go_step)
      go_returns
      exact ⟨(hE0).below, .inl ⟨m, _, hU, rfl, Hrd.out⟩⟩
end Go.Proofs.YtndnmghlgcamfaaDoor
