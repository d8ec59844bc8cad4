/-
  Layer 5, the document's answer: the sum of two numbers.
-/
import Derived.Test.YtobfgleckcpcpaaRefD
namespace Go.Proofs.Ytobfgleckcpcpaa
open Go.RowKit
set_option linter.unusedVariables false
set_option linter.unusedSimpArgs false

theorem wl_callS {P : Program} {ops : Array Oper} {Q : Exit → Act → World → Prop} {a : Act} {w : World} {o : Oper} {rest : List Oper} {v : Value} {f : FuncId} {args : Array Value} (S : World → Prop) (hst : ∀ W w1 : World, Below W.heap.size W w1 → S W → S w1) (hS : S w) (hg : o.guard = none)
    (h : (execOp a.eval o).run P w = .ok (.enter f args) w) (hc : Calls P f args w fun e w' => e = .returned v ∧ Below w.heap.size w w') (k : ∀ w1, S w1 → wpList P ops Q rest (a.put o.dst v) w1) : wpList P ops Q (o :: rest) a w :=
  wpList_plain hg fun _ hK => by
    unfold Oper.wp
    rw [h]
    refine hc.mono fun e w'' he => ?_
    obtain ⟨rfl, hb⟩ := he
    exact hK _ _ (k w'' (hst _ _ hb hS))

theorem wl_raw {P : Program} {ops : Array Oper} {Q : Exit → Act → World → Prop} {a : Act} {w w1 : World} {o : Oper} {rest : List Oper} {v : Value} (hg : o.guard = none)
    (h : (execOp a.eval o).run P w = .ok (.value v) w1) (k : wpList P ops Q rest (a.put o.dst v) w1) : wpList P ops Q (o :: rest) a w :=
  wpList_plain hg fun _ hK => by
    unfold Oper.wp
    rw [h]
    exact hK _ _ k
theorem one_at (w : World) (x : Value) (T : TypeId) : ∀ j u, [x][j]? = some u → (w.alloc (.cells #[x] T)).cell? ((⟨w.heap.size, 0, none⟩ : Addr).add j) = some u := by
  intro j u hj
  match j, hj with
  | 0, hj => simp at hj; subst hj; simp [Addr.add]

theorem nums_app (l : List Nat) (d : Nat) : nums (l ++ [d]) = nums l ++ [Value.int .i64 (d : Int)] := by simp [nums]

/-- Inside a sum. -/
structure AInv (la lb : List Nat) (k c : Nat) (l : List Nat) : Prop where
  le : c ≤ 1
  len : l.length = k
  digs : Digs 256 l
  sum : val 256 l + 256 ^ k * c = val 256 la % 256 ^ k + val 256 lb % 256 ^ k
  top : k ≤ max la.length lb.length + 1
theorem AInv.start (la lb : List Nat) : AInv la lb 0 0 [] := ⟨by decide, rfl, Digs.nil, by simp [val, Nat.mod_one], by omega⟩
theorem AInv.last {la lb l : List Nat} {k c : Nat} (da : Digs 256 la) (db : Digs 256 lb) (h : AInv la lb k c l) (hk : k = max la.length lb.length + 1) : c = 0 := by
  have h1 := Nat.lt_of_lt_of_le (val_lt da) (Nat.pow_le_pow_right (n := 256) (by decide) (Nat.le_max_left la.length lb.length))
  have h2 := Nat.lt_of_lt_of_le (val_lt db) (Nat.pow_le_pow_right (n := 256) (by decide) (Nat.le_max_right la.length lb.length))
  have hs := h.sum
  have e : 256 ^ k = 256 * 256 ^ (max la.length lb.length) := by rw [hk, Nat.pow_succ, Nat.mul_comm]
  have m1 := Nat.mod_le (val 256 la) (256 ^ k)
  have m2 := Nat.mod_le (val 256 lb) (256 ^ k)
  rcases Nat.eq_zero_or_pos c with h0 | h0
  · exact h0
  · have hc : c = 1 := by have := h.le; omega
    rw [hc, Nat.mul_one] at hs
    generalize val 256 la = A at *
    generalize val 256 lb = B at *
    generalize A % 256 ^ k = A' at *
    generalize B % 256 ^ k = B' at *
    generalize 256 ^ k = P at *
    omega
theorem AInv.step {la lb l : List Nat} {k c x y : Nat} (da : Digs 256 la) (db : Digs 256 lb) (h : AInv la lb k c l) (hk : k ≤ max la.length lb.length) (hx : x = val 256 la / 256 ^ k % 256) (hy : y = val 256 lb / 256 ^ k % 256) :
    AInv la lb (k + 1) ((x + y + c) / 256) (l ++ [(x + y + c) % 256]) := by
  have hxl : x < 256 := by omega
  have hyl : y < 256 := by omega
  have hc := h.le
  refine ⟨by omega, by simp [h.len], h.digs.append (Digs.cons (Nat.mod_lt _ (by decide)) Digs.nil), ?_, by omega⟩
  rw [val_append, h.len, Nat.pow_succ, Nat.mod_mul, Nat.mod_mul, ← hx, ← hy]
  have hs := h.sum
  simp only [val_cons, val_nil, Nat.mul_zero, Nat.add_zero]
  have e : 256 ^ k * ((x + y + c) % 256) + 256 ^ k * 256 * ((x + y + c) / 256) = 256 ^ k * x + 256 ^ k * y + 256 ^ k * c := by
    rw [Nat.mul_assoc, ← Nat.mul_add, Nat.mod_add_div, Nat.mul_add, Nat.mul_add]
  omega
theorem AInv.final {la lb l : List Nat} {k : Nat} (da : Digs 256 la) (db : Digs 256 lb) (h : AInv la lb k 0 l) (h1 : la.length ≤ k) (h2 : lb.length ≤ k) : val 256 l = val 256 la + val 256 lb := by
  have hs := h.sum
  rw [Nat.mul_zero, Nat.add_zero, Nat.mod_eq_of_lt (Nat.lt_of_lt_of_le (val_lt da) (Nat.pow_le_pow_right (by decide) h1)), Nat.mod_eq_of_lt (Nat.lt_of_lt_of_le (val_lt db) (Nat.pow_le_pow_right (by decide) h2))] at hs
  exact hs

set_option maxHeartbeats 2000000 in
theorem Add_any {la lb : List Nat} {va vb : Value} {w : World} (ha : Rd la va w) (hb : Rd lb vb w) (da : Digs 256 la) (db : Digs 256 lb) (hla : la.length ≤ 65536) (hlb : lb.length ≤ 65536) :
    Calls Try.prog 24 #[va, vb] w fun e w' => ∃ v l, e = .returned v ∧ Sl w [] 3 (nums l) v w' ∧ Digs 256 l ∧ val 256 l = val 256 la + val 256 lb ∧ l.length ≤ max la.length lb.length + 1 ∧ la.length ≤ l.length := by
  obtain ⟨i0, hi, hz, hs, hby⟩ := info_int
  have Ha := Lib.hid ha
  have Hb := Lib.hid hb
  obtain ⟨pa, ca, hva⟩ := ha.len
  obtain ⟨pb, cb, hvb⟩ := hb.len
  subst hva hvb
  clear ha hb
  go_enter Try.func24, Try.ntmps24
  go_wp2
  go_loopw [5, 6, 7] (fun v o i wr => ∃ (k c : Nat) (l : List Nat), i = .int .i64 k ∧ o = .int .i64 c ∧ AInv la lb k c l ∧ Sl w [] 3 (nums l) v wr) (fun _ _ i _ => max la.length lb.length + 1 - (intOf i).toNat)
  case atStart => exact ⟨0, 0, [], rfl, rfl, AInv.start la lb, Sl.nil (Env.nil w)⟩
  case round =>
    obtain ⟨k, c, l, rfl, rfl, hA, hS⟩ := hrel
    have htop := hA.top
    have hc := hA.le
    have hlen := hA.len
    have hk1 : IntKind.i64.wrap ((k : Int) + 1) = ((k + 1 : Nat) : Int) := by rw [IntKind.wrap_i64]; omega
    by_cases hgo : k < la.length ∨ k < lb.length ∨ 0 < c
    · have hkm : k ≤ max la.length lb.length := by
        rcases Nat.lt_or_ge (max la.length lb.length) k with h | h
        · have := hA.last da db (by omega)
          omega
        · exact h
      have hat : ∀ w1, Sl w [] 3 (nums l) u5 w1 → Gives 35 #[.slice pa la.length ca, .int .i64 (k : Int)] w1 (.int .i64 (val 256 la / 256 ^ k % 256 : Nat)) := fun w1 hE => by
        have := at_any (Ha.out.below hE.env.below) (by omega) (k : Int)
        rwa [atD_nat da] at this
      have hbt : ∀ w1, Sl w [] 3 (nums l) u5 w1 → Gives 35 #[.slice pb lb.length cb, .int .i64 (k : Int)] w1 (.int .i64 (val 256 lb / 256 ^ k % 256 : Nat)) := fun w1 hE => by
        have := at_any (Hb.out.below hE.env.below) (by omega) (k : Int)
        rwa [atD_nat db] at this
      obtain ⟨x, hx⟩ : ∃ x, x = val 256 la / 256 ^ k % 256 := ⟨_, rfl⟩
      obtain ⟨y, hy⟩ : ∃ y, y = val 256 lb / 256 ^ k % 256 := ⟨_, rfl⟩
      have hstep := hA.step da db hkm hx hy
      rw [← hx] at hat
      rw [← hy] at hbt
      have hxl : x < 256 := by omega
      have hyl : y < 256 := by omega
      clear hx hy hA
      obtain ⟨t, ht⟩ : ∃ t, t = x + y := ⟨_, rfl⟩
      obtain ⟨s, hs'⟩ : ∃ s, s = t + c := ⟨_, rfl⟩
      rw [← ht, ← hs'] at hstep
      have ht1 : IntKind.i64.wrap ((x : Int) + (y : Int)) = (t : Int) := by rw [IntKind.wrap_i64]; omega
      have hs1 : IntKind.i64.wrap ((t : Int) + (c : Int)) = (s : Int) := by rw [IntKind.wrap_i64]; omega
      have hsl : s < 512 := by omega
      obtain ⟨d, hd⟩ : ∃ d, d = s % 256 := ⟨_, rfl⟩
      obtain ⟨c2, hc2⟩ : ∃ c2, c2 = s / 256 := ⟨_, rfl⟩
      have hd1 : (s : Int).tmod 256 = (d : Int) := by rw [Int.tmod_eq_emod_of_nonneg (by omega)]; omega
      have hd2 : (s : Int) % 256 = (d : Int) := by omega
      have hc1 : (s : Int) / 256 = (c2 : Int) := by omega
      rw [← hd, ← hc2] at hstep
      have hdl : d < 256 := by omega
      have hcl : c2 ≤ 1 := by omega
      have hcw : IntKind.i64.wrap (c2 : Int) = (c2 : Int) := by rw [IntKind.wrap_i64]; omega
      have Hst := Lib.hid hstep
      have Hat := Lib.hid hat
      have Hbt := Lib.hid hbt
      have hnl : (nums l).length + 1 ≤ 131074 := by rw [nums_length, hlen]; omega
      clear hstep hat hbt hd hc2 ht hs' hxl hyl
      have hcases : k < la.length ∨ (¬ k < la.length ∧ k < lb.length) ∨ (¬ k < la.length ∧ ¬ k < lb.length ∧ 0 < c) := by
        clear hd1 hd2 hc1 ht1 hs1 hk1 hS
        by_cases h1 : k < la.length
        · exact .inl h1
        · by_cases h2 : k < lb.length
          · exact .inr (.inl ⟨h1, h2⟩)
          · exact .inr (.inr ⟨h1, h2, by
              rcases hgo with h | h | h
              · exact absurd h h1
              · exact absurd h h2
              · exact h⟩)
      clear hgo
      rcases hcases with h1 | ⟨h1, h2⟩ | ⟨h1, h2, h3⟩
      · repeat ((fail_if_success (with_reducible show Code.wp _ (Code.region 6 _ _) _ _ _)); go_step)
        have hS0 := hS
        clear hS
        repeat ((fail_if_success (with_reducible show wpList _ _ _ (List.cons _ _) _ _)); (fail_if_success (with_reducible show Code.wp _ (Code.region _ _ true) _ _ _)); go_step)
        apply wl_val rfl
        · go_simp
          with_reducible rfl
        simp only [Act.put, List.setIfInBounds_toArray, List.set_cons_zero, List.set_cons_succ]
        apply wl_val rfl
        · go_simp
          with_reducible rfl
        simp only [Act.put, List.setIfInBounds_toArray, List.set_cons_zero, List.set_cons_succ]
        refine wl_callS (Sl w [] 3 (nums l) u5) (fun _ _ hb h => h.call hb) hS0 rfl (by go_simp) (Hat.out _ hS0) ?_
        intro w1 hS1
        clear hS0
        simp only [Act.put, List.setIfInBounds_toArray, List.set_cons_zero, List.set_cons_succ]
        apply wl_val rfl
        · go_simp
          with_reducible rfl
        simp only [Act.put, List.setIfInBounds_toArray, List.set_cons_zero, List.set_cons_succ]
        apply wl_val rfl
        · go_simp
          with_reducible rfl
        simp only [Act.put, List.setIfInBounds_toArray, List.set_cons_zero, List.set_cons_succ]
        refine wl_callS (Sl w [] 3 (nums l) u5) (fun _ _ hb h => h.call hb) hS1 rfl (by go_simp) (Hbt.out _ hS1) ?_
        intro w2 hS2
        clear hS1
        simp only [Act.put, List.setIfInBounds_toArray, List.set_cons_zero, List.set_cons_succ]
        apply wl_val rfl
        · go_simp
          with_reducible rfl
        simp only [Act.put, List.setIfInBounds_toArray, List.set_cons_zero, List.set_cons_succ]
        apply wl_val rfl
        · go_simp
          with_reducible rfl
        simp only [Act.put, List.setIfInBounds_toArray, List.set_cons_zero, List.set_cons_succ]
        apply wl_val rfl
        · go_simp
          with_reducible rfl
        simp only [Act.put, List.setIfInBounds_toArray, List.set_cons_zero, List.set_cons_succ]
        apply wl_val rfl
        · go_simp
          with_reducible rfl
        simp only [Act.put, List.setIfInBounds_toArray, List.set_cons_zero, List.set_cons_succ]
        repeat ((fail_if_success (with_reducible show wpList _ _ _ (List.cons _ _) _ _)); (fail_if_success (with_reducible show Code.wp _ (Code.region _ _ true) _ _ _)); go_step)
        apply wl_val rfl
        · go_simp
          with_reducible rfl
        simp only [Act.put, List.setIfInBounds_toArray, List.set_cons_zero, List.set_cons_succ]
        apply wl_val rfl
        · go_simp
          with_reducible rfl
        simp only [Act.put, List.setIfInBounds_toArray, List.set_cons_zero, List.set_cons_succ]
        apply wl_val rfl
        · go_simp
          with_reducible rfl
        simp only [Act.put, List.setIfInBounds_toArray, List.set_cons_zero, List.set_cons_succ]
        apply wl_raw rfl
        · go_simp
          exact ⟨rfl, rfl⟩
        simp only [Act.put, List.setIfInBounds_toArray, List.set_cons_zero, List.set_cons_succ]
        refine wl_append (news := [.int .i64 (d : Int)]) (m := 1) (c := 1) (Sl.call hS2 ((Below.refl _ _).alloc (Nat.le_refl _) _)) rfl rfl Try.underlying45 hi hz hs rfl hby rfl rfl rfl (by decide) (one_at _ _ _) (fun u hu => by simp at hu; subst hu; rfl) (by simp only [maxLen]; omega) (by omega) ?_
        intro v3 w3 hS3
        clear hS2
        simp only [Act.put, List.setIfInBounds_toArray, List.set_cons_zero, List.set_cons_succ]
        apply wl_val rfl
        · go_simp
          with_reducible rfl
        simp only [Act.put, List.setIfInBounds_toArray, List.set_cons_zero, List.set_cons_succ]
        repeat ((fail_if_success (with_reducible show wpList _ _ _ (List.cons _ _) _ _)); (fail_if_success (with_reducible show Code.wp _ (Code.region _ _ true) _ _ _)); go_step)
        apply wl_val rfl
        · go_simp
          with_reducible rfl
        simp only [Act.put, List.setIfInBounds_toArray, List.set_cons_zero, List.set_cons_succ]
        apply wl_val rfl
        · go_simp
          with_reducible rfl
        simp only [Act.put, List.setIfInBounds_toArray, List.set_cons_zero, List.set_cons_succ]
        apply wl_val rfl
        · go_simp
          with_reducible rfl
        simp only [Act.put, List.setIfInBounds_toArray, List.set_cons_zero, List.set_cons_succ]
        repeat ((fail_if_success (with_reducible show wpList _ _ _ (List.cons _ _) _ _)); (fail_if_success (with_reducible show Code.wp _ (Code.region _ _ true) _ _ _)); go_step)
        apply wl_val rfl
        · go_simp
          with_reducible rfl
        simp only [Act.put, List.setIfInBounds_toArray, List.set_cons_zero, List.set_cons_succ]
        apply wl_val rfl
        · go_simp
          with_reducible rfl
        simp only [Act.put, List.setIfInBounds_toArray, List.set_cons_zero, List.set_cons_succ]
        apply wl_val rfl
        · go_simp
          with_reducible rfl
        simp only [Act.put, List.setIfInBounds_toArray, List.set_cons_zero, List.set_cons_succ]
        go_wp2
        go_roundw
        case rel => exact ⟨k + 1, c2, l ++ [d], by go_num, rfl, Hst.out, by rw [nums_app]; exact hS3⟩
        case measure => simp [intOf]; omega
      · repeat ((fail_if_success (with_reducible show Code.wp _ (Code.region 6 _ _) _ _ _)); go_step)
        have hS0 := hS
        clear hS
        repeat ((fail_if_success (with_reducible show wpList _ _ _ (List.cons _ _) _ _)); (fail_if_success (with_reducible show Code.wp _ (Code.region _ _ true) _ _ _)); go_step)
        apply wl_val rfl
        · go_simp
          with_reducible rfl
        simp only [Act.put, List.setIfInBounds_toArray, List.set_cons_zero, List.set_cons_succ]
        apply wl_val rfl
        · go_simp
          with_reducible rfl
        simp only [Act.put, List.setIfInBounds_toArray, List.set_cons_zero, List.set_cons_succ]
        refine wl_callS (Sl w [] 3 (nums l) u5) (fun _ _ hb h => h.call hb) hS0 rfl (by go_simp) (Hat.out _ hS0) ?_
        intro w1 hS1
        clear hS0
        simp only [Act.put, List.setIfInBounds_toArray, List.set_cons_zero, List.set_cons_succ]
        apply wl_val rfl
        · go_simp
          with_reducible rfl
        simp only [Act.put, List.setIfInBounds_toArray, List.set_cons_zero, List.set_cons_succ]
        apply wl_val rfl
        · go_simp
          with_reducible rfl
        simp only [Act.put, List.setIfInBounds_toArray, List.set_cons_zero, List.set_cons_succ]
        refine wl_callS (Sl w [] 3 (nums l) u5) (fun _ _ hb h => h.call hb) hS1 rfl (by go_simp) (Hbt.out _ hS1) ?_
        intro w2 hS2
        clear hS1
        simp only [Act.put, List.setIfInBounds_toArray, List.set_cons_zero, List.set_cons_succ]
        apply wl_val rfl
        · go_simp
          with_reducible rfl
        simp only [Act.put, List.setIfInBounds_toArray, List.set_cons_zero, List.set_cons_succ]
        apply wl_val rfl
        · go_simp
          with_reducible rfl
        simp only [Act.put, List.setIfInBounds_toArray, List.set_cons_zero, List.set_cons_succ]
        apply wl_val rfl
        · go_simp
          with_reducible rfl
        simp only [Act.put, List.setIfInBounds_toArray, List.set_cons_zero, List.set_cons_succ]
        apply wl_val rfl
        · go_simp
          with_reducible rfl
        simp only [Act.put, List.setIfInBounds_toArray, List.set_cons_zero, List.set_cons_succ]
        repeat ((fail_if_success (with_reducible show wpList _ _ _ (List.cons _ _) _ _)); (fail_if_success (with_reducible show Code.wp _ (Code.region _ _ true) _ _ _)); go_step)
        apply wl_val rfl
        · go_simp
          with_reducible rfl
        simp only [Act.put, List.setIfInBounds_toArray, List.set_cons_zero, List.set_cons_succ]
        apply wl_val rfl
        · go_simp
          with_reducible rfl
        simp only [Act.put, List.setIfInBounds_toArray, List.set_cons_zero, List.set_cons_succ]
        apply wl_val rfl
        · go_simp
          with_reducible rfl
        simp only [Act.put, List.setIfInBounds_toArray, List.set_cons_zero, List.set_cons_succ]
        apply wl_raw rfl
        · go_simp
          exact ⟨rfl, rfl⟩
        simp only [Act.put, List.setIfInBounds_toArray, List.set_cons_zero, List.set_cons_succ]
        refine wl_append (news := [.int .i64 (d : Int)]) (m := 1) (c := 1) (Sl.call hS2 ((Below.refl _ _).alloc (Nat.le_refl _) _)) rfl rfl Try.underlying45 hi hz hs rfl hby rfl rfl rfl (by decide) (one_at _ _ _) (fun u hu => by simp at hu; subst hu; rfl) (by simp only [maxLen]; omega) (by omega) ?_
        intro v3 w3 hS3
        clear hS2
        simp only [Act.put, List.setIfInBounds_toArray, List.set_cons_zero, List.set_cons_succ]
        apply wl_val rfl
        · go_simp
          with_reducible rfl
        simp only [Act.put, List.setIfInBounds_toArray, List.set_cons_zero, List.set_cons_succ]
        repeat ((fail_if_success (with_reducible show wpList _ _ _ (List.cons _ _) _ _)); (fail_if_success (with_reducible show Code.wp _ (Code.region _ _ true) _ _ _)); go_step)
        apply wl_val rfl
        · go_simp
          with_reducible rfl
        simp only [Act.put, List.setIfInBounds_toArray, List.set_cons_zero, List.set_cons_succ]
        apply wl_val rfl
        · go_simp
          with_reducible rfl
        simp only [Act.put, List.setIfInBounds_toArray, List.set_cons_zero, List.set_cons_succ]
        apply wl_val rfl
        · go_simp
          with_reducible rfl
        simp only [Act.put, List.setIfInBounds_toArray, List.set_cons_zero, List.set_cons_succ]
        repeat ((fail_if_success (with_reducible show wpList _ _ _ (List.cons _ _) _ _)); (fail_if_success (with_reducible show Code.wp _ (Code.region _ _ true) _ _ _)); go_step)
        apply wl_val rfl
        · go_simp
          with_reducible rfl
        simp only [Act.put, List.setIfInBounds_toArray, List.set_cons_zero, List.set_cons_succ]
        apply wl_val rfl
        · go_simp
          with_reducible rfl
        simp only [Act.put, List.setIfInBounds_toArray, List.set_cons_zero, List.set_cons_succ]
        apply wl_val rfl
        · go_simp
          with_reducible rfl
        simp only [Act.put, List.setIfInBounds_toArray, List.set_cons_zero, List.set_cons_succ]
        go_wp2
        go_roundw
        case rel => exact ⟨k + 1, c2, l ++ [d], by go_num, rfl, Hst.out, by rw [nums_app]; exact hS3⟩
        case measure => simp [intOf]; omega
      · repeat ((fail_if_success (with_reducible show Code.wp _ (Code.region 6 _ _) _ _ _)); go_step)
        have hS0 := hS
        clear hS
        repeat ((fail_if_success (with_reducible show wpList _ _ _ (List.cons _ _) _ _)); (fail_if_success (with_reducible show Code.wp _ (Code.region _ _ true) _ _ _)); go_step)
        apply wl_val rfl
        · go_simp
          with_reducible rfl
        simp only [Act.put, List.setIfInBounds_toArray, List.set_cons_zero, List.set_cons_succ]
        apply wl_val rfl
        · go_simp
          with_reducible rfl
        simp only [Act.put, List.setIfInBounds_toArray, List.set_cons_zero, List.set_cons_succ]
        refine wl_callS (Sl w [] 3 (nums l) u5) (fun _ _ hb h => h.call hb) hS0 rfl (by go_simp) (Hat.out _ hS0) ?_
        intro w1 hS1
        clear hS0
        simp only [Act.put, List.setIfInBounds_toArray, List.set_cons_zero, List.set_cons_succ]
        apply wl_val rfl
        · go_simp
          with_reducible rfl
        simp only [Act.put, List.setIfInBounds_toArray, List.set_cons_zero, List.set_cons_succ]
        apply wl_val rfl
        · go_simp
          with_reducible rfl
        simp only [Act.put, List.setIfInBounds_toArray, List.set_cons_zero, List.set_cons_succ]
        refine wl_callS (Sl w [] 3 (nums l) u5) (fun _ _ hb h => h.call hb) hS1 rfl (by go_simp) (Hbt.out _ hS1) ?_
        intro w2 hS2
        clear hS1
        simp only [Act.put, List.setIfInBounds_toArray, List.set_cons_zero, List.set_cons_succ]
        apply wl_val rfl
        · go_simp
          with_reducible rfl
        simp only [Act.put, List.setIfInBounds_toArray, List.set_cons_zero, List.set_cons_succ]
        apply wl_val rfl
        · go_simp
          with_reducible rfl
        simp only [Act.put, List.setIfInBounds_toArray, List.set_cons_zero, List.set_cons_succ]
        apply wl_val rfl
        · go_simp
          with_reducible rfl
        simp only [Act.put, List.setIfInBounds_toArray, List.set_cons_zero, List.set_cons_succ]
        apply wl_val rfl
        · go_simp
          with_reducible rfl
        simp only [Act.put, List.setIfInBounds_toArray, List.set_cons_zero, List.set_cons_succ]
        repeat ((fail_if_success (with_reducible show wpList _ _ _ (List.cons _ _) _ _)); (fail_if_success (with_reducible show Code.wp _ (Code.region _ _ true) _ _ _)); go_step)
        apply wl_val rfl
        · go_simp
          with_reducible rfl
        simp only [Act.put, List.setIfInBounds_toArray, List.set_cons_zero, List.set_cons_succ]
        apply wl_val rfl
        · go_simp
          with_reducible rfl
        simp only [Act.put, List.setIfInBounds_toArray, List.set_cons_zero, List.set_cons_succ]
        apply wl_val rfl
        · go_simp
          with_reducible rfl
        simp only [Act.put, List.setIfInBounds_toArray, List.set_cons_zero, List.set_cons_succ]
        apply wl_raw rfl
        · go_simp
          exact ⟨rfl, rfl⟩
        simp only [Act.put, List.setIfInBounds_toArray, List.set_cons_zero, List.set_cons_succ]
        refine wl_append (news := [.int .i64 (d : Int)]) (m := 1) (c := 1) (Sl.call hS2 ((Below.refl _ _).alloc (Nat.le_refl _) _)) rfl rfl Try.underlying45 hi hz hs rfl hby rfl rfl rfl (by decide) (one_at _ _ _) (fun u hu => by simp at hu; subst hu; rfl) (by simp only [maxLen]; omega) (by omega) ?_
        intro v3 w3 hS3
        clear hS2
        simp only [Act.put, List.setIfInBounds_toArray, List.set_cons_zero, List.set_cons_succ]
        apply wl_val rfl
        · go_simp
          with_reducible rfl
        simp only [Act.put, List.setIfInBounds_toArray, List.set_cons_zero, List.set_cons_succ]
        repeat ((fail_if_success (with_reducible show wpList _ _ _ (List.cons _ _) _ _)); (fail_if_success (with_reducible show Code.wp _ (Code.region _ _ true) _ _ _)); go_step)
        apply wl_val rfl
        · go_simp
          with_reducible rfl
        simp only [Act.put, List.setIfInBounds_toArray, List.set_cons_zero, List.set_cons_succ]
        apply wl_val rfl
        · go_simp
          with_reducible rfl
        simp only [Act.put, List.setIfInBounds_toArray, List.set_cons_zero, List.set_cons_succ]
        apply wl_val rfl
        · go_simp
          with_reducible rfl
        simp only [Act.put, List.setIfInBounds_toArray, List.set_cons_zero, List.set_cons_succ]
        repeat ((fail_if_success (with_reducible show wpList _ _ _ (List.cons _ _) _ _)); (fail_if_success (with_reducible show Code.wp _ (Code.region _ _ true) _ _ _)); go_step)
        apply wl_val rfl
        · go_simp
          with_reducible rfl
        simp only [Act.put, List.setIfInBounds_toArray, List.set_cons_zero, List.set_cons_succ]
        apply wl_val rfl
        · go_simp
          with_reducible rfl
        simp only [Act.put, List.setIfInBounds_toArray, List.set_cons_zero, List.set_cons_succ]
        apply wl_val rfl
        · go_simp
          with_reducible rfl
        simp only [Act.put, List.setIfInBounds_toArray, List.set_cons_zero, List.set_cons_succ]
        go_wp2
        go_roundw
        case rel => exact ⟨k + 1, c2, l ++ [d], by go_num, rfl, Hst.out, by rw [nums_app]; exact hS3⟩
        case measure => simp [intOf]; omega
    · have hk1' : ¬ k < la.length := fun h => hgo (.inl h)
      have hk2' : ¬ k < lb.length := fun h => hgo (.inr (.inl h))
      have hc0 : c = 0 := by
        rcases Nat.eq_zero_or_pos c with h | h
        · exact h
        · exact absurd (.inr (.inr h)) hgo
      subst hc0
      have hfin := Lib.hid (hA.final da db (by omega) (by omega))
      have hAh := Lib.hid hA
      clear hA hgo
      go_wp2
      go_returns
      exact ⟨_, l, rfl, hS, hAh.out.digs, hfin.out, by omega, by omega⟩
end Go.Proofs.Ytobfgleckcpcpaa
