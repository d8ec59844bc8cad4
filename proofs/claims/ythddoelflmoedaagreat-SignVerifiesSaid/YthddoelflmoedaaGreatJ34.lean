/-
  Layer 5, the document's answer: the sum of two numbers.
  Layer 5, the document's answer: the product of two numbers.
-/
import Derived.Test.YthddoelflmoedaaGreatJ33
set_option linter.unusedVariables false
set_option linter.unusedSimpArgs false
namespace Go.Proofs.YthddoelflmoedaaGreat
open Go.RowKit
set_option maxRecDepth 100000

theorem wl_callS {P : Program} {ops : Array Oper} {Q : Exit → Act → World → Prop} {a : Act} {w : World} {o : Oper} {rest : List Oper} {v : Value} {f : FuncId} {args : Array Value} (S : World → Prop) (hst : ∀ W w1 : World, Below W.heap.size W w1 → S W → S w1) (hS : S w) (hg : o.guard = none)
  (h : (execOp a.eval o).run P w = .ok (.enter f args) w) (hc : Calls P f args w fun e w' => e = .returned v ∧ Below w.heap.size w w') (k : ∀ w1, S w1 → wpList P ops Q rest (a.put o.dst v) w1) : wpList P ops Q (o :: rest) a w :=
 wpList_plain hg fun _ hK => by
  unfold Oper.wp
  rw [h]
  refine hc.mono fun e w'' he => ?_
  obtain ⟨rfl, hb⟩ := he
  exact hK _ _ (k w'' (hst _ _ hb hS))

theorem wl_raw {P : Program} {ops : Array Oper} {Q : Exit → Act → World → Prop} {a : Act} {w w1 : World} {o : Oper} {rest : List Oper} {v : Value} (hg : o.guard = none)
  (h : (execOp a.eval o).run P w = .ok (.value v) w1) (k : wpList P ops Q rest (a.put o.dst v) w1) : wpList P ops Q (o :: rest) a w :=
 wpList_plain hg fun _ hK => by
  unfold Oper.wp
  rw [h]
  exact hK _ _ k
theorem one_at (w : World) (x : Value) (T : TypeId) : ∀ j u, [x][j]? = some u → (w.alloc (.cells #[x] T)).cell? ((⟨w.heap.size, 0, none⟩ : Addr).add j) = some u := by
 intro j u hj
 match j, hj with
 | 0, hj => simp at hj; subst hj; simp [Addr.add]

theorem nums_app (l : List Nat) (d : Nat) : nums (l ++ [d]) = nums l ++ [Value.int .i64 (d : Int)] := by simp [nums]

structure AInv (la lb : List Nat) (k c : Nat) (l : List Nat) : Prop where
 le : c ≤ 1
 len : l.length = k
 digs : Digs 256 l
 sum : val 256 l + 256 ^ k * c = val 256 la % 256 ^ k + val 256 lb % 256 ^ k
 top : k ≤ max la.length lb.length + 1
theorem AInv.start (la lb : List Nat) : AInv la lb 0 0 [] := ⟨by decide, rfl, Digs.nil, by simp [val, Nat.mod_one], by omega⟩
theorem AInv.last {la lb l : List Nat} {k c : Nat} (da : Digs 256 la) (db : Digs 256 lb) (h : AInv la lb k c l) (hk : k = max la.length lb.length + 1) : c = 0 := by
 have h1 := Nat.lt_of_lt_of_le (val_lt da) (Nat.pow_le_pow_right (n := 256) (by decide) (Nat.le_max_left la.length lb.length))
 have h2 := Nat.lt_of_lt_of_le (val_lt db) (Nat.pow_le_pow_right (n := 256) (by decide) (Nat.le_max_right la.length lb.length))
 have hs := h.sum
 have e : 256 ^ k = 256 * 256 ^ (max la.length lb.length) := by rw [hk, Nat.pow_succ, Nat.mul_comm]
 have m1 := Nat.mod_le (val 256 la) (256 ^ k)
 have m2 := Nat.mod_le (val 256 lb) (256 ^ k)
 rcases Nat.eq_zero_or_pos c with h0 | h0
 ·exact h0
 ·have hc : c = 1 := by have := h.le; omega
  rw [hc, Nat.mul_one] at hs
  generalize val 256 la = A at *
  generalize val 256 lb = B at *
  generalize A % 256 ^ k = A' at *
  generalize B % 256 ^ k = B' at *
  generalize 256 ^ k = P at *
  omega
theorem AInv.step {la lb l : List Nat} {k c x y : Nat} (da : Digs 256 la) (db : Digs 256 lb) (h : AInv la lb k c l) (hk : k ≤ max la.length lb.length) (hx : x = val 256 la / 256 ^ k % 256) (hy : y = val 256 lb / 256 ^ k % 256) :
  AInv la lb (k + 1) ((x + y + c) / 256) (l ++ [(x + y + c) % 256]) := by
 have hxl : x < 256 := by omega
 have hyl : y < 256 := by omega
 have hc := h.le
 refine ⟨by omega, by simp [h.len], h.digs.append (Digs.cons (Nat.mod_lt _ (by decide)) Digs.nil), ?_, by omega⟩
 rw [val_append, h.len, Nat.pow_succ, Nat.mod_mul, Nat.mod_mul, ← hx, ← hy]
 have hs := h.sum
 simp only [val_cons, val_nil, Nat.mul_zero, Nat.add_zero]
 have e : 256 ^ k * ((x + y + c) % 256) + 256 ^ k * 256 * ((x + y + c) / 256) = 256 ^ k * x + 256 ^ k * y + 256 ^ k * c := by
  rw [Nat.mul_assoc, ← Nat.mul_add, Nat.mod_add_div, Nat.mul_add, Nat.mul_add]
 omega
theorem AInv.final {la lb l : List Nat} {k : Nat} (da : Digs 256 la) (db : Digs 256 lb) (h : AInv la lb k 0 l) (h1 : la.length ≤ k) (h2 : lb.length ≤ k) : val 256 l = val 256 la + val 256 lb := by
 have hs := h.sum
 rw [Nat.mul_zero, Nat.add_zero, Nat.mod_eq_of_lt (Nat.lt_of_lt_of_le (val_lt da) (Nat.pow_le_pow_right (by decide) h1)), Nat.mod_eq_of_lt (Nat.lt_of_lt_of_le (val_lt db) (Nat.pow_le_pow_right (by decide) h2))] at hs
 exact hs

set_option maxHeartbeats 2000000 in
theorem qAdd_any {la lb : List Nat} {va vb : Value} {w : World} (ha : Rd la va w) (hb : Rd lb vb w) (da : Digs 256 la) (db : Digs 256 lb) (hla : la.length ≤ 65536) (hlb : lb.length ≤ 65536) :
  Calls Tryz.prog 107 #[va, vb] w fun e w' => ∃ v l, e = .returned v ∧ Sl w [] 3 (nums l) v w' ∧ Digs 256 l ∧ val 256 l = val 256 la + val 256 lb ∧ l.length ≤ max la.length lb.length + 1 ∧ la.length ≤ l.length := by
 obtain ⟨i0, hi, hz, hs, hby⟩ := info_int
 have Ha := Lib.hid ha
 have Hb := Lib.hid hb
 obtain ⟨pa, ca, hva⟩ := ha.len
 obtain ⟨pb, cb, hvb⟩ := hb.len
 subst hva hvb
 clear ha hb
 go_enter Tryz.func107, Tryz.ntmps107
 go_wp2
 go_loopw [5, 6, 7] (fun v o i wr => ∃ (k c : Nat) (l : List Nat), i = .int .i64 k ∧ o = .int .i64 c ∧ AInv la lb k c l ∧ Sl w [] 3 (nums l) v wr) (fun _ _ i _ => max la.length lb.length + 1 - (intOf i).toNat)
 case atStart => exact ⟨0, 0, [], rfl, rfl, AInv.start la lb, Sl.nil (Env.nil w)⟩
 case round =>
  obtain ⟨k, c, l, rfl, rfl, hA, hS⟩ := hrel
  have htop := hA.top
  have hc := hA.le
  have hlen := hA.len
  have hk1 : IntKind.i64.wrap ((k : Int) + 1) = ((k + 1 : Nat) : Int) := by rw [IntKind.wrap_i64]; omega
  by_cases hgo : k < la.length ∨ k < lb.length ∨ 0 < c
  ·have hkm : k ≤ max la.length lb.length := by
    rcases Nat.lt_or_ge (max la.length lb.length) k with h | h
    ·have := hA.last da db (by omega)
     omega
    ·exact h
   have hat : ∀ w1, Sl w [] 3 (nums l) u5 w1 → Gives 112 #[.slice pa la.length ca, .int .i64 (k : Int)] w1 (.int .i64 (val 256 la / 256 ^ k % 256 : Nat)) := fun w1 hE => by
    have := at_any (Ha.out.below hE.env.below) (by omega) (k : Int)
    rwa [atD_nat da] at this
   have hbt : ∀ w1, Sl w [] 3 (nums l) u5 w1 → Gives 112 #[.slice pb lb.length cb, .int .i64 (k : Int)] w1 (.int .i64 (val 256 lb / 256 ^ k % 256 : Nat)) := fun w1 hE => by
    have := at_any (Hb.out.below hE.env.below) (by omega) (k : Int)
    rwa [atD_nat db] at this
   obtain ⟨x, hx⟩ : ∃ x, x = val 256 la / 256 ^ k % 256 := ⟨_, rfl⟩
   obtain ⟨y, hy⟩ : ∃ y, y = val 256 lb / 256 ^ k % 256 := ⟨_, rfl⟩
   have hstep := hA.step da db hkm hx hy
   rw [← hx] at hat
   rw [← hy] at hbt
   have hxl : x < 256 := by omega
   have hyl : y < 256 := by omega
   clear hx hy hA
   obtain ⟨t, ht⟩ : ∃ t, t = x + y := ⟨_, rfl⟩
   obtain ⟨s, hs'⟩ : ∃ s, s = t + c := ⟨_, rfl⟩
   rw [← ht, ← hs'] at hstep
   have ht1 : IntKind.i64.wrap ((x : Int) + (y : Int)) = (t : Int) := by rw [IntKind.wrap_i64]; omega
   have hs1 : IntKind.i64.wrap ((t : Int) + (c : Int)) = (s : Int) := by rw [IntKind.wrap_i64]; omega
   have hsl : s < 512 := by omega
   obtain ⟨d, hd⟩ : ∃ d, d = s % 256 := ⟨_, rfl⟩
   obtain ⟨c2, hc2⟩ : ∃ c2, c2 = s / 256 := ⟨_, rfl⟩
   have hd1 : (s : Int).tmod 256 = (d : Int) := by rw [Int.tmod_eq_emod_of_nonneg (by omega)]; omega
   have hd2 : (s : Int) % 256 = (d : Int) := by omega
   have hc1 : (s : Int) / 256 = (c2 : Int) := by omega
   rw [← hd, ← hc2] at hstep
   have hdl : d < 256 := by omega
   have hcl : c2 ≤ 1 := by omega
   have hcw : IntKind.i64.wrap (c2 : Int) = (c2 : Int) := by rw [IntKind.wrap_i64]; omega
   have Hst := Lib.hid hstep
   have Hat := Lib.hid hat
   have Hbt := Lib.hid hbt
   have hnl : (nums l).length + 1 ≤ 131074 := by rw [nums_length, hlen]; omega
   clear hstep hat hbt hd hc2 ht hs' hxl hyl
   have hcases : k < la.length ∨ (¬ k < la.length ∧ k < lb.length) ∨ (¬ k < la.length ∧ ¬ k < lb.length ∧ 0 < c) := by
    clear hd1 hd2 hc1 ht1 hs1 hk1 hS
    by_cases h1 : k < la.length
    ·exact .inl h1
    ·by_cases h2 : k < lb.length
     ·exact .inr (.inl ⟨h1, h2⟩)
     ·exact .inr (.inr ⟨h1, h2, by
       rcases hgo with h | h | h
       ·exact absurd h h1
       ·exact absurd h h2
       ·exact h⟩)
   clear hgo
   rcases hcases with h1 | ⟨h1, h2⟩ | ⟨h1, h2, h3⟩
   ·repeat ((fail_if_success (with_reducible show Code.wp _ (Code.region 6 _ _) _ _ _)); go_step)
    have hS0 := hS
    clear hS
    repeat ((fail_if_success refine sqx ?_); go_step)
    apply wl_val rfl
    ·go_simp
     with_reducible rfl
    simp only [qZ]
    apply wl_val rfl
    ·go_simp
     with_reducible rfl
    simp only [qZ]
    refine wl_callS (Sl w [] 3 (nums l) u5) (fun _ _ hb h => h.call hb) hS0 rfl (by go_simp) (Hat.out _ hS0) ?_
    intro w1 hS1
    clear hS0
    simp only [qZ]
    apply wl_val rfl
    ·go_simp
     with_reducible rfl
    simp only [qZ]
    apply wl_val rfl
    ·go_simp
     with_reducible rfl
    simp only [qZ]
    refine wl_callS (Sl w [] 3 (nums l) u5) (fun _ _ hb h => h.call hb) hS1 rfl (by go_simp) (Hbt.out _ hS1) ?_
    intro w2 hS2
    clear hS1
    simp only [qZ]
    apply wl_val rfl
    ·go_simp
     with_reducible rfl
    simp only [qZ]
    apply wl_val rfl
    ·go_simp
     with_reducible rfl
    simp only [qZ]
    apply wl_val rfl
    ·go_simp
     with_reducible rfl
    simp only [qZ]
    apply wl_val rfl
    ·go_simp
     with_reducible rfl
    simp only [qZ]
    repeat ((fail_if_success refine sqx ?_); go_step)
    apply wl_val rfl
    ·go_simp
     with_reducible rfl
    simp only [qZ]
    apply wl_val rfl
    ·go_simp
     with_reducible rfl
    simp only [qZ]
    apply wl_val rfl
    ·go_simp
     with_reducible rfl
    simp only [qZ]
    apply wl_raw rfl
    ·go_simp
     exact ⟨rfl, rfl⟩
    simp only [qZ]
    refine wl_append (news := [.int .i64 (d : Int)]) (m := 1) (c := 1) (Sl.call hS2 ((Below.refl _ _).alloc (Nat.le_refl _) _)) rfl rfl Tryz.underlying109 hi hz hs rfl hby rfl rfl rfl (by decide) (one_at _ _ _) (fun u hu => by simp at hu; subst hu; rfl) (by simp only [maxLen]; omega) (by omega) ?_
    intro v3 w3 hS3
    clear hS2
    simp only [qZ]
    apply wl_val rfl
    ·go_simp
     with_reducible rfl
    simp only [qZ]
    repeat ((fail_if_success refine sqx ?_); go_step)
    apply wl_val rfl
    ·go_simp
     with_reducible rfl
    simp only [qZ]
    apply wl_val rfl
    ·go_simp
     with_reducible rfl
    simp only [qZ]
    apply wl_val rfl
    ·go_simp
     with_reducible rfl
    simp only [qZ]
    repeat ((fail_if_success refine sqx ?_); go_step)
    apply wl_val rfl
    ·go_simp
     with_reducible rfl
    simp only [qZ]
    apply wl_val rfl
    ·go_simp
     with_reducible rfl
    simp only [qZ]
    apply wl_val rfl
    ·go_simp
     with_reducible rfl
    simp only [qZ]
    go_wp2
    go_roundw
    case rel => exact ⟨k + 1, c2, l ++ [d], by go_num, rfl, Hst.out, by rw [nums_app]; exact hS3⟩
    case measure => simp [intOf]; omega
   ·repeat ((fail_if_success (with_reducible show Code.wp _ (Code.region 6 _ _) _ _ _)); go_step)
    have hS0 := hS
    clear hS
    repeat ((fail_if_success refine sqx ?_); go_step)
    apply wl_val rfl
    ·go_simp
     with_reducible rfl
    simp only [qZ]
    apply wl_val rfl
    ·go_simp
     with_reducible rfl
    simp only [qZ]
    refine wl_callS (Sl w [] 3 (nums l) u5) (fun _ _ hb h => h.call hb) hS0 rfl (by go_simp) (Hat.out _ hS0) ?_
    intro w1 hS1
    clear hS0
    simp only [qZ]
    apply wl_val rfl
    ·go_simp
     with_reducible rfl
    simp only [qZ]
    apply wl_val rfl
    ·go_simp
     with_reducible rfl
    simp only [qZ]
    refine wl_callS (Sl w [] 3 (nums l) u5) (fun _ _ hb h => h.call hb) hS1 rfl (by go_simp) (Hbt.out _ hS1) ?_
    intro w2 hS2
    clear hS1
    simp only [qZ]
    apply wl_val rfl
    ·go_simp
     with_reducible rfl
    simp only [qZ]
    apply wl_val rfl
    ·go_simp
     with_reducible rfl
    simp only [qZ]
    apply wl_val rfl
    ·go_simp
     with_reducible rfl
    simp only [qZ]
    apply wl_val rfl
    ·go_simp
     with_reducible rfl
    simp only [qZ]
    repeat ((fail_if_success refine sqx ?_); go_step)
    apply wl_val rfl
    ·go_simp
     with_reducible rfl
    simp only [qZ]
    apply wl_val rfl
    ·go_simp
     with_reducible rfl
    simp only [qZ]
    apply wl_val rfl
    ·go_simp
     with_reducible rfl
    simp only [qZ]
    apply wl_raw rfl
    ·go_simp
     exact ⟨rfl, rfl⟩
    simp only [qZ]
    refine wl_append (news := [.int .i64 (d : Int)]) (m := 1) (c := 1) (Sl.call hS2 ((Below.refl _ _).alloc (Nat.le_refl _) _)) rfl rfl Tryz.underlying109 hi hz hs rfl hby rfl rfl rfl (by decide) (one_at _ _ _) (fun u hu => by simp at hu; subst hu; rfl) (by simp only [maxLen]; omega) (by omega) ?_
    intro v3 w3 hS3
    clear hS2
    simp only [qZ]
    apply wl_val rfl
    ·go_simp
     with_reducible rfl
    simp only [qZ]
    repeat ((fail_if_success refine sqx ?_); go_step)
    apply wl_val rfl
    ·go_simp
     with_reducible rfl
    simp only [qZ]
    apply wl_val rfl
    ·go_simp
     with_reducible rfl
    simp only [qZ]
    apply wl_val rfl
    ·go_simp
     with_reducible rfl
    simp only [qZ]
    repeat ((fail_if_success refine sqx ?_); go_step)
    apply wl_val rfl
    ·go_simp
     with_reducible rfl
    simp only [qZ]
    apply wl_val rfl
    ·go_simp
     with_reducible rfl
    simp only [qZ]
    apply wl_val rfl
    ·go_simp
     with_reducible rfl
    simp only [qZ]
    go_wp2
    go_roundw
    case rel => exact ⟨k + 1, c2, l ++ [d], by go_num, rfl, Hst.out, by rw [nums_app]; exact hS3⟩
    case measure => simp [intOf]; omega
   ·repeat ((fail_if_success (with_reducible show Code.wp _ (Code.region 6 _ _) _ _ _)); go_step)
    have hS0 := hS
    clear hS
    repeat ((fail_if_success refine sqx ?_); go_step)
    apply wl_val rfl
    ·go_simp
     with_reducible rfl
    simp only [qZ]
    apply wl_val rfl
    ·go_simp
     with_reducible rfl
    simp only [qZ]
    refine wl_callS (Sl w [] 3 (nums l) u5) (fun _ _ hb h => h.call hb) hS0 rfl (by go_simp) (Hat.out _ hS0) ?_
    intro w1 hS1
    clear hS0
    simp only [qZ]
    apply wl_val rfl
    ·go_simp
     with_reducible rfl
    simp only [qZ]
    apply wl_val rfl
    ·go_simp
     with_reducible rfl
    simp only [qZ]
    refine wl_callS (Sl w [] 3 (nums l) u5) (fun _ _ hb h => h.call hb) hS1 rfl (by go_simp) (Hbt.out _ hS1) ?_
    intro w2 hS2
    clear hS1
    simp only [qZ]
    apply wl_val rfl
    ·go_simp
     with_reducible rfl
    simp only [qZ]
    apply wl_val rfl
    ·go_simp
     with_reducible rfl
    simp only [qZ]
    apply wl_val rfl
    ·go_simp
     with_reducible rfl
    simp only [qZ]
    apply wl_val rfl
    ·go_simp
     with_reducible rfl
    simp only [qZ]
    repeat ((fail_if_success refine sqx ?_); go_step)
    apply wl_val rfl
    ·go_simp
     with_reducible rfl
    simp only [qZ]
    apply wl_val rfl
    ·go_simp
     with_reducible rfl
    simp only [qZ]
    apply wl_val rfl
    ·go_simp
     with_reducible rfl
    simp only [qZ]
    apply wl_raw rfl
    ·go_simp
     exact ⟨rfl, rfl⟩
    simp only [qZ]
    refine wl_append (news := [.int .i64 (d : Int)]) (m := 1) (c := 1) (Sl.call hS2 ((Below.refl _ _).alloc (Nat.le_refl _) _)) rfl rfl Tryz.underlying109 hi hz hs rfl hby rfl rfl rfl (by decide) (one_at _ _ _) (fun u hu => by simp at hu; subst hu; rfl) (by simp only [maxLen]; omega) (by omega) ?_
    intro v3 w3 hS3
    clear hS2
    simp only [qZ]
    apply wl_val rfl
    ·go_simp
     with_reducible rfl
    simp only [qZ]
    repeat ((fail_if_success refine sqx ?_); go_step)
    apply wl_val rfl
    ·go_simp
     with_reducible rfl
    simp only [qZ]
    apply wl_val rfl
    ·go_simp
     with_reducible rfl
    simp only [qZ]
    apply wl_val rfl
    ·go_simp
     with_reducible rfl
    simp only [qZ]
    repeat ((fail_if_success refine sqx ?_); go_step)
    apply wl_val rfl
    ·go_simp
     with_reducible rfl
    simp only [qZ]
    apply wl_val rfl
    ·go_simp
     with_reducible rfl
    simp only [qZ]
    apply wl_val rfl
    ·go_simp
     with_reducible rfl
    simp only [qZ]
    go_wp2
    go_roundw
    case rel => exact ⟨k + 1, c2, l ++ [d], by go_num, rfl, Hst.out, by rw [nums_app]; exact hS3⟩
    case measure => simp [intOf]; omega
  ·have hk1' : ¬ k < la.length := fun h => hgo (.inl h)
   have hk2' : ¬ k < lb.length := fun h => hgo (.inr (.inl h))
   have hc0 : c = 0 := by
    rcases Nat.eq_zero_or_pos c with h | h
    ·exact h
    ·exact absurd (.inr (.inr h)) hgo
   subst hc0
   have hfin := Lib.hid (hA.final da db (by omega) (by omega))
   have hAh := Lib.hid hA
   clear hA hgo
   go_wp2
   go_returns
   exact ⟨_, l, rfl, hS, hAh.out.digs, hfin.out, by omega, by omega⟩
end Go.Proofs.YthddoelflmoedaaGreat
namespace Go.Proofs.YthddoelflmoedaaGreat
open Go.RowKit
set_option maxRecDepth 100000

structure MInv (n m i S a B k V : Nat) (X : List Nat) : Prop where
 small : V < 256
 len : X.length = n + m
 digs : Digs 256 X
 sum : val 256 X + 256 ^ (i + k) * V = S + 256 ^ i * (a * (B % 256 ^ k))
 zero : ∀ j, i + max m k ≤ j → X.getD j 0 = 0
 top : k ≤ m + 1
 last : k = m + 1 → V = 0

theorem MInv.step {n m i S a B k V x b : Nat} {X : List Nat} (h : MInv n m i S a B k V X) (hi : i < n) (hk : k ≤ m) (ha : a < 256) (hB : B < 256 ^ m) (hx : x = X.getD (i + k) 0) (hb : b = B / 256 ^ k % 256) :
  MInv n m i S a B (k + 1) ((x + a * b + V) / 256) (X.set (i + k) ((x + a * b + V) % 256)) ∧ x + a * b + V ≤ 65535 := by
 have hxl : x < 256 := hx ▸ h.digs.getD (by decide) _
 have hbl : b < 256 := by omega
 have hV := h.small
 have hab : a * b ≤ 255 * 255 := Nat.mul_le_mul (by omega) (by omega)
 have hs : x + a * b + V ≤ 65535 := by omega
 refine ⟨⟨by omega, by rw [List.length_set, h.len], h.digs.set _ (Nat.mod_lt _ (by decide)), ?_, fun j hj => ?_, by omega, fun hk' => ?_⟩, hs⟩
 ·have hlt : i + k < X.length := by rw [h.len]; omega
  have hv := val_set (B := 256) X (i + k) ((x + a * b + V) % 256) hlt
  have hxe : X[i + k] = x := by rw [hx]; simp [List.getD, hlt]
  rw [hxe] at hv
  have hsum := h.sum
  have hO : B % 256 ^ (k + 1) = B % 256 ^ k + 256 ^ k * b := by rw [Nat.pow_succ, Nat.mod_mul, ← hb]
  have t3 : (x + a * b + V) % 256 + 256 * ((x + a * b + V) / 256) = a * b + x + V := by rw [Nat.mod_add_div]; omega
  rw [hO, ← Nat.add_assoc, Nat.pow_succ]
  have hp : 256 ^ (i + k) = 256 ^ i * 256 ^ k := Nat.pow_add _ _ _
  rw [hp] at hv hsum ⊢
  exact row_key t3 hv hsum
 ·rw [List.getD_eq_getElem?_getD, List.getElem?_set_ne (by omega), ← List.getD_eq_getElem?_getD]
  exact h.zero j (by omega)
 ·have hkm : k = m := by omega
  subst hkm
  have hx0 : x = 0 := by rw [hx]; exact h.zero _ (by omega)
  have hb0 : b = 0 := by rw [hb, Nat.div_eq_of_lt hB]
  rw [hx0, hb0]
  omega

structure NInv (n m i A B : Nat) (X : List Nat) : Prop where
 len : X.length = n + m
 digs : Digs 256 X
 sum : val 256 X = A % 256 ^ i * B
 zero : ∀ j, i + m ≤ j → X.getD j 0 = 0
theorem NInv.enter {n m i A B : Nat} {X : List Nat} (h : NInv n m i A B X) (a : Nat) : MInv n m i (A % 256 ^ i * B) a B 0 0 X :=
 ⟨by decide, h.len, h.digs, by rw [h.sum, Nat.pow_zero, Nat.mod_one]; simp, fun j hj => h.zero j (by omega), by omega, fun h' => by omega⟩
theorem MInv.leave {n m i A B a k : Nat} {X : List Nat} (h : MInv n m i (A % 256 ^ i * B) a B k 0 X) (hk : m ≤ k) (hB : B < 256 ^ m) (ha : a = A / 256 ^ i % 256) : NInv n m (i + 1) A B X := by
 refine ⟨h.len, h.digs, ?_, fun j hj => h.zero j (by have := h.top; omega)⟩
 have hs := h.sum
 rw [Nat.mul_zero, Nat.add_zero, Nat.mod_eq_of_lt (Nat.lt_of_lt_of_le hB (Nat.pow_le_pow_right (by decide) hk))] at hs
 rw [hs, Nat.pow_succ, Nat.mod_mul, ← ha, Nat.add_mul, Nat.mul_assoc]
theorem NInv.start (n m A B : Nat) : NInv n m 0 A B (List.replicate (n + m) 0) :=
 ⟨by simp, Digs.replicate (by decide) _, by rw [val_replicate, Nat.pow_zero, Nat.mod_one, Nat.zero_mul], fun j _ => by rw [List.getD_eq_getElem?_getD, List.getElem?_replicate]; split <;> rfl⟩
theorem NInv.final {n m A B : Nat} {X : List Nat} (h : NInv n m n A B X) (hA : A < 256 ^ n) : val 256 X = A * B := by
 rw [h.sum, Nat.mod_eq_of_lt hA]

theorem Rd.some {l : List Nat} {p : Option Addr} {cap : Nat} {w : World} (h : Rd l (.slice p l.length cap) w) (h0 : 0 < l.length) : ∃ g, p = some ⟨g, 0, none⟩ := by
 rcases h with ⟨h1, h2⟩ | ⟨g, cap', cs, T, h1, -⟩
 ·subst h2
  simp at h0
 ·injection h1 with e1 _ _
  exact ⟨g, e1⟩

set_option maxHeartbeats 2000000 in
theorem qMul_any {la lb : List Nat} {va vb : Value} {w : World} (ha : Rd la va w) (hb : Rd lb vb w) (da : Digs 256 la) (db : Digs 256 lb) (hla : la.length ≤ 65536) (hlb : lb.length ≤ 65536) :
  Calls Tryz.prog 108 #[va, vb] w fun e w' => ∃ g l, e = .returned (.slice (some ⟨g, 0, none⟩) (la.length + lb.length) (la.length + lb.length)) ∧ Env w [⟨g, 3, ints .i64 l⟩] w' ∧ l.length = la.length + lb.length ∧ Digs 256 l ∧ val 256 l = val 256 la * val 256 lb := by
 have Ha := Lib.hid ha
 have Hb := Lib.hid hb
 obtain ⟨pa, ca, hva⟩ := ha.len
 obtain ⟨pb, cb, hvb⟩ := hb.len
 subst hva hvb
 clear ha hb
 have hE0 := Env.nil w
 have hnm : IntKind.i64.wrap ((la.length : Int) + (lb.length : Int)) = ((la.length + lb.length : Nat) : Int) := by rw [IntKind.wrap_i64]; omega
 go_enter Tryz.func108, Tryz.ntmps108
 repeat ((fail_if_success (with_reducible show Code.wp _ (Code.region 1 _ _) _ _ _)); go_step)
 repeat ((fail_if_success refine sqx ?_); go_step)
 apply wl_val rfl
 ·go_simp
  with_reducible rfl
 simp only [qZ]
 apply wl_val rfl
 ·go_simp
  with_reducible rfl
 simp only [qZ]
 apply wl_val rfl
 ·go_simp
  with_reducible rfl
 simp only [qZ]
 apply wl_val rfl
 ·go_simp
  with_reducible rfl
 simp only [qZ]
 apply wl_val rfl
 ·go_simp
  with_reducible rfl
 simp only [qZ]
 refine wl_make (n := la.length + lb.length) (k := .i64) (b := 8) hE0 rfl rfl rfl rfl Tryz.underlying109 (by kernel_rfl) (by omega) (by omega) ?_
 intro g0 w1 hE1
 clear hE0
 simp only [qZ]
 apply wl_val rfl
 ·go_simp
  with_reducible rfl
 simp only [qZ]
 repeat ((fail_if_success refine sqx ?_); go_step)
 apply wl_val rfl
 ·go_simp
  with_reducible rfl
 simp only [qZ]
 go_wp2
 go_loopw [6] (fun i wr => ∃ (I : Nat) (X : List Nat), I ≤ la.length ∧ i = .int .i64 I ∧ NInv la.length lb.length I (val 256 la) (val 256 lb) X ∧ Env w [⟨g0, 3, ints .i64 X⟩] wr) (fun i _ => la.length - (intOf i).toNat)
 case atStart => exact ⟨0, _, Nat.zero_le _, rfl, NInv.start _ _ _ _, hE1⟩
 case round =>
  clear hE1 hnm
  obtain ⟨I, X, hI, rfl, hO, hE0⟩ := hrel
  have hI1 : IntKind.i64.wrap ((I : Int) + 1) = ((I + 1 : Nat) : Int) := by rw [IntKind.wrap_i64]; omega
  by_cases hIn : I < la.length
  ·obtain ⟨ga, rfl⟩ := Ha.out.some (by omega)
   have HX := Lib.hid hO
   clear hO hI
   repeat ((fail_if_success refine sqx ?_); go_step)
   apply wl_val rfl
   ·go_simp
    with_reducible rfl
   simp only [qZ]
   apply wl_val rfl
   ·go_simp
    with_reducible rfl
   simp only [qZ]
   apply wl_val rfl
   ·go_simp
    with_reducible rfl
   simp only [qZ]
   apply wl_val rfl
   ·go_simp
    with_reducible rfl
   simp only [qZ]
   repeat ((fail_if_success refine sqx ?_); go_step)
   apply wl_val rfl
   ·go_simp
    with_reducible rfl
   simp only [qZ]
   repeat ((fail_if_success refine sqx ?_); go_step)
   apply wl_val rfl
   ·go_simp
    with_reducible rfl
   simp only [qZ]
   go_wp2
   obtain ⟨x0, hx0⟩ : ∃ a, a = val 256 la / 256 ^ I % 256 := ⟨_, rfl⟩
   have Hx0 := Lib.hid hx0
   clear hx0
   go_loopw [7, 8] (fun ov k wr => ∃ (K V : Nat) (Y : List Nat), k = .int .i64 K ∧ ov = .int .i64 V ∧ MInv la.length lb.length I (val 256 la % 256 ^ I * val 256 lb) x0 (val 256 lb) K V Y ∧ Env w [⟨g0, 3, ints .i64 Y⟩] wr) (fun _ k _ => lb.length + 1 - (intOf k).toNat)
   case atStart => exact ⟨0, 0, X, rfl, rfl, HX.out.enter x0, hE0⟩
   case round =>
    clear hE0
    obtain ⟨K, V, Y, rfl, rfl, hM, hE0⟩ := hrel
    have htop := hM.top
    have hV := hM.small
    by_cases hgo : K < lb.length ∨ 0 < V
    ·have hkm : K ≤ lb.length := by
      rcases Nat.lt_or_ge lb.length K with h | h
      ·have := hM.last (by omega)
       omega
      ·exact h
     have hYl := hM.len
     have hxa : x0 < 256 := by rw [Hx0.out]; exact Nat.mod_lt _ (by decide)
     obtain ⟨p, hp⟩ : ∃ p, p = I + K := ⟨_, rfl⟩
     obtain ⟨x, hx⟩ : ∃ x, x = Y.getD (I + K) 0 := ⟨_, rfl⟩
     obtain ⟨b, hb⟩ : ∃ b, b = val 256 lb / 256 ^ K % 256 := ⟨_, rfl⟩
     obtain ⟨hstep, hs⟩ := hM.step hIn hkm hxa (val_lt db) hx hb
     have hbl : b < 256 := by omega
     have hxl : x < 256 := by rw [hx]; exact hM.digs.getD (by decide) _
     have hbt : ∀ L w1, Env w L w1 → Gives 112 #[.slice pb lb.length cb, .int .i64 (K : Int)] w1 (.int .i64 (b : Nat)) := fun L w1 hE => by
      have := at_any (Hb.out.below hE.below) (by omega) (K : Int)
      rwa [atD_nat db, ← hb] at this
     have har : ∀ L w1, Env w L w1 → w1.cell? ⟨ga, I, none⟩ = some (.int .i64 (x0 : Nat)) := fun L w1 hE => by
      have := (Ha.out.below hE.below).cell hIn
      rwa [← val_div_mod da (by decide), ← Hx0.out] at this
     rw [← hp] at hx hstep
     have hX : p < Y.length := by rw [hYl]; omega
     have hp1 : IntKind.i64.wrap ((I : Int) + (K : Int)) = (p : Int) := by rw [IntKind.wrap_i64]; omega
     have hp0 : (0 : Int) ≤ (p : Int) := by omega
     have hpn : (p : Int) < (la.length : Int) + (lb.length : Int) := by omega
     have hK1 : IntKind.i64.wrap ((K : Int) + 1) = ((K + 1 : Nat) : Int) := by rw [IntKind.wrap_i64]; omega
     have hab : x0 * b ≤ 255 * 255 := Nat.mul_le_mul (by omega) (by omega)
     obtain ⟨m1, hm1⟩ : ∃ m, m = x0 * b := ⟨_, rfl⟩
     have hm2 : (x0 : Int) * (b : Int) = (m1 : Int) := by rw [hm1]; rfl
     rw [← hm1] at hstep hs hab
     clear hm1
     obtain ⟨t, ht⟩ : ∃ t, t = x + m1 := ⟨_, rfl⟩
     rw [← ht] at hstep hs
     obtain ⟨s, hs'⟩ : ∃ s, s = t + V := ⟨_, rfl⟩
     rw [← hs'] at hstep hs
     have hmw : IntKind.i64.wrap (m1 : Int) = (m1 : Int) := by rw [IntKind.wrap_i64]; omega
     have htw : IntKind.i64.wrap ((x : Int) + (m1 : Int)) = (t : Int) := by rw [IntKind.wrap_i64]; omega
     have hsw : IntKind.i64.wrap ((t : Int) + (V : Int)) = (s : Int) := by rw [IntKind.wrap_i64]; omega
     obtain ⟨d, hd⟩ : ∃ d, d = s % 256 := ⟨_, rfl⟩
     obtain ⟨c2, hc2⟩ : ∃ c2, c2 = s / 256 := ⟨_, rfl⟩
     rw [← hd, ← hc2] at hstep
     have hd1 : (s : Int).tmod 256 = (d : Int) := by rw [Int.tmod_eq_emod_of_nonneg (by omega)]; omega
     have hd2 : (s : Int) % 256 = (d : Int) := by omega
     have hc1 : (s : Int) / 256 = (c2 : Int) := by omega
     have hcw : IntKind.i64.wrap (c2 : Int) = (c2 : Int) := by rw [IntKind.wrap_i64]; omega
     have Hbt := Lib.hid hbt
     have Har := Lib.hid har
     have Hx := Lib.hid hx
     have Hs := Lib.hid hstep
     have hcases : K < lb.length ∨ (¬ K < lb.length ∧ 0 < V) := by
      rcases Nat.lt_or_ge K lb.length with h | h
      ·exact .inl h
      ·exact .inr ⟨Nat.not_lt.2 h, hgo.resolve_left (Nat.not_lt.2 h)⟩
     clear hbt har hx hstep hb hM hp hYl ht hs' hd hc2 hgo hab hs
     rcases hcases with h1 | ⟨h1, h2⟩
     ·repeat ((fail_if_success (with_reducible show Code.wp _ (Code.region 9 _ _) _ _ _)); go_step)
      repeat ((fail_if_success refine sqx ?_); go_step)
      refine wp_region_env 17 (by kernel_rfl) (by kernel_rfl) (fun _ _ d _ _ h => by cases d <;> exact h) hE0 ?_
      apply headRun_val
      ·intro w1 h1
       go_simp
       with_reducible rfl
      simp only [qZ]
      apply headRun_val
      ·intro w1 h1
       go_simp
       with_reducible rfl
      simp only [qZ]
      apply headRun_val
      ·intro w1 h1
       go_simp
       with_reducible rfl
      simp only [qZ]
      apply headRun_val
      ·intro w1 h1
       go_simp
       with_reducible rfl
      simp only [qZ]
      apply headRun_val
      ·intro w1 h1
       go_simp
       with_reducible rfl
      simp only [qZ]
      apply headRun_val
      ·intro w1 h1
       have ca := h1.cell (i := 0) rfl p
       rw [ints_get? _ _ _ hX, ← Hx.out] at ca
       go_simp
       with_reducible rfl
      simp only [qZ]
      apply headRun_val
      ·intro w1 h1
       go_simp
       with_reducible rfl
      simp only [qZ]
      apply headRun_val
      ·intro w1 h1
       go_simp
       with_reducible rfl
      simp only [qZ]
      apply headRun_val
      ·intro w1 h1
       go_simp
       with_reducible rfl
      simp only [qZ]
      apply headRun_val
      ·intro w1 h1
       have ca := Har.out _ _ h1
       go_simp
       with_reducible rfl
      simp only [qZ]
      apply headRun_val
      ·intro w1 h1
       go_simp
       with_reducible rfl
      simp only [qZ]
      apply headRun_val
      ·intro w1 h1
       go_simp
       with_reducible rfl
      simp only [qZ]
      refine headRun_call (fun w1 => by go_simp) (fun w1 hW => Hbt.out _ _ hW) ?_
      simp only [qZ]
      apply headRun_val
      ·intro w1 h1
       go_simp
       with_reducible rfl
      simp only [qZ]
      apply headRun_val
      ·intro w1 h1
       go_simp
       with_reducible rfl
      simp only [qZ]
      apply headRun_val
      ·intro w1 h1
       go_simp
       with_reducible rfl
      simp only [qZ]
      apply headRun_val
      ·intro w1 h1
       go_simp
       with_reducible rfl
      simp only [qZ]
      refine headRun_nil (endK0 ?_)
      intro  w1 hE1
      clear hE0
      simp only [List.drop_succ_cons, List.drop_zero, Act.put, qpA, qpB, qpC]
      apply wl_val rfl
      ·go_simp
       with_reducible rfl
      simp only [qZ]
      repeat ((fail_if_success refine sqx ?_); go_step)
      apply wl_val rfl
      ·go_simp
       with_reducible rfl
      simp only [qZ]
      apply wl_val rfl
      ·go_simp
       with_reducible rfl
      simp only [qZ]
      apply wl_val rfl
      ·go_simp
       with_reducible rfl
      simp only [qZ]
      apply wl_val rfl
      ·go_simp
       with_reducible rfl
      simp only [qZ]
      apply wl_val rfl
      ·go_simp
       with_reducible rfl
      simp only [qZ]
      apply wl_val rfl
      ·go_simp
       with_reducible rfl
      simp only [qZ]
      apply wl_val rfl
      ·go_simp
       with_reducible rfl
      simp only [qZ]
      refine wl_cell (i := 0) (j := p) (v := .int .i64 (d : Nat)) hE1 rfl rfl (by (have ca := hE1.cell (i := 0) rfl p; rw [ints_get? _ _ _ hX, ← Hx.out] at ca; have cf := hE1.frozen (i := 0) rfl p; go_simp; try with_reducible rfl)) ?_
      intro w2 hE2
      clear hE1
      simp only [qpB, qpC] at hE2
      rw [ints_set] at hE2
      simp only [qZ]
      repeat ((fail_if_success refine sqx ?_); go_step)
      apply wl_val rfl
      ·go_simp
       with_reducible rfl
      simp only [qZ]
      apply wl_val rfl
      ·go_simp
       with_reducible rfl
      simp only [qZ]
      apply wl_val rfl
      ·go_simp
       with_reducible rfl
      simp only [qZ]
      repeat ((fail_if_success refine sqx ?_); go_step)
      apply wl_val rfl
      ·go_simp
       with_reducible rfl
      simp only [qZ]
      apply wl_val rfl
      ·go_simp
       with_reducible rfl
      simp only [qZ]
      apply wl_val rfl
      ·go_simp
       with_reducible rfl
      simp only [qZ]
      go_wp2
      go_roundw
      case rel => exact ⟨K + 1, c2, _, by go_num, rfl, Hs.out, hE2⟩
      case measure => simp [intOf]; omega
     ·repeat ((fail_if_success (with_reducible show Code.wp _ (Code.region 9 _ _) _ _ _)); go_step)
      repeat ((fail_if_success refine sqx ?_); go_step)
      refine wp_region_env 17 (by kernel_rfl) (by kernel_rfl) (fun _ _ d _ _ h => by cases d <;> exact h) hE0 ?_
      apply headRun_val
      ·intro w1 h1
       go_simp
       with_reducible rfl
      simp only [qZ]
      apply headRun_val
      ·intro w1 h1
       go_simp
       with_reducible rfl
      simp only [qZ]
      apply headRun_val
      ·intro w1 h1
       go_simp
       with_reducible rfl
      simp only [qZ]
      apply headRun_val
      ·intro w1 h1
       go_simp
       with_reducible rfl
      simp only [qZ]
      apply headRun_val
      ·intro w1 h1
       go_simp
       with_reducible rfl
      simp only [qZ]
      apply headRun_val
      ·intro w1 h1
       have ca := h1.cell (i := 0) rfl p
       rw [ints_get? _ _ _ hX, ← Hx.out] at ca
       go_simp
       with_reducible rfl
      simp only [qZ]
      apply headRun_val
      ·intro w1 h1
       go_simp
       with_reducible rfl
      simp only [qZ]
      apply headRun_val
      ·intro w1 h1
       go_simp
       with_reducible rfl
      simp only [qZ]
      apply headRun_val
      ·intro w1 h1
       go_simp
       with_reducible rfl
      simp only [qZ]
      apply headRun_val
      ·intro w1 h1
       have ca := Har.out _ _ h1
       go_simp
       with_reducible rfl
      simp only [qZ]
      apply headRun_val
      ·intro w1 h1
       go_simp
       with_reducible rfl
      simp only [qZ]
      apply headRun_val
      ·intro w1 h1
       go_simp
       with_reducible rfl
      simp only [qZ]
      refine headRun_call (fun w1 => by go_simp) (fun w1 hW => Hbt.out _ _ hW) ?_
      simp only [qZ]
      apply headRun_val
      ·intro w1 h1
       go_simp
       with_reducible rfl
      simp only [qZ]
      apply headRun_val
      ·intro w1 h1
       go_simp
       with_reducible rfl
      simp only [qZ]
      apply headRun_val
      ·intro w1 h1
       go_simp
       with_reducible rfl
      simp only [qZ]
      apply headRun_val
      ·intro w1 h1
       go_simp
       with_reducible rfl
      simp only [qZ]
      refine headRun_nil (endK0 ?_)
      intro  w1 hE1
      clear hE0
      simp only [List.drop_succ_cons, List.drop_zero, Act.put, qpA, qpB, qpC]
      apply wl_val rfl
      ·go_simp
       with_reducible rfl
      simp only [qZ]
      repeat ((fail_if_success refine sqx ?_); go_step)
      apply wl_val rfl
      ·go_simp
       with_reducible rfl
      simp only [qZ]
      apply wl_val rfl
      ·go_simp
       with_reducible rfl
      simp only [qZ]
      apply wl_val rfl
      ·go_simp
       with_reducible rfl
      simp only [qZ]
      apply wl_val rfl
      ·go_simp
       with_reducible rfl
      simp only [qZ]
      apply wl_val rfl
      ·go_simp
       with_reducible rfl
      simp only [qZ]
      apply wl_val rfl
      ·go_simp
       with_reducible rfl
      simp only [qZ]
      apply wl_val rfl
      ·go_simp
       with_reducible rfl
      simp only [qZ]
      refine wl_cell (i := 0) (j := p) (v := .int .i64 (d : Nat)) hE1 rfl rfl (by (have ca := hE1.cell (i := 0) rfl p; rw [ints_get? _ _ _ hX, ← Hx.out] at ca; have cf := hE1.frozen (i := 0) rfl p; go_simp; try with_reducible rfl)) ?_
      intro w2 hE2
      clear hE1
      simp only [qpB, qpC] at hE2
      rw [ints_set] at hE2
      simp only [qZ]
      repeat ((fail_if_success refine sqx ?_); go_step)
      apply wl_val rfl
      ·go_simp
       with_reducible rfl
      simp only [qZ]
      apply wl_val rfl
      ·go_simp
       with_reducible rfl
      simp only [qZ]
      apply wl_val rfl
      ·go_simp
       with_reducible rfl
      simp only [qZ]
      repeat ((fail_if_success refine sqx ?_); go_step)
      apply wl_val rfl
      ·go_simp
       with_reducible rfl
      simp only [qZ]
      apply wl_val rfl
      ·go_simp
       with_reducible rfl
      simp only [qZ]
      apply wl_val rfl
      ·go_simp
       with_reducible rfl
      simp only [qZ]
      go_wp2
      go_roundw
      case rel => exact ⟨K + 1, c2, _, by go_num, rfl, Hs.out, hE2⟩
      case measure => simp [intOf]; omega
    ·have h1 : ¬ K < lb.length := fun h => hgo (.inl h)
     have h0 : V = 0 := by
      rcases Nat.eq_zero_or_pos V with h | h
      ·exact h
      ·exact absurd (.inr h) hgo
     subst h0
     have hl := Lib.hid (hM.leave (by omega) (val_lt db) Hx0.out)
     clear hM hgo hV
     go_wp2
     go_roundw
     case rel => exact ⟨I + 1, Y, by omega, by go_num, hl.out, hE0⟩
     case measure => simp [intOf]; omega
  ·have hI' : I = la.length := by omega
   subst hI'
   have hl := hO.len
   have hd := hO.digs
   have hv := Lib.hid (hO.final (val_lt da))
   clear hO hI hI1
   go_wp2
   go_returns
   exact ⟨g0, X, rfl, hE0, hl, hd, hv.out⟩
end Go.Proofs.YthddoelflmoedaaGreat
