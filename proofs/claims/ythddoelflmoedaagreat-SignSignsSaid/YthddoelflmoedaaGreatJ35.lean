/-
  Layer 5, the document's answer: what is left of digits, divided by the order.
-/
import Derived.Test.YthddoelflmoedaaGreatJ34
import Derived.Deep.LoopGhost
import Derived.Deep.RegionHeld3
set_option linter.unusedVariables false
set_option linter.unusedSimpArgs false
namespace Go.Proofs.YthddoelflmoedaaGreat
open Go.RowKit
set_option maxRecDepth 100000

structure SInv (n V C i u : Nat) (X : List Nat) : Prop where
 le : u ≤ 1
 len : X.length = n
 digs : Digs 256 X
 sum : val 256 X + C % 256 ^ i = V + 256 ^ i * u

theorem SInv.start {n V C : Nat} {X : List Nat} (hl : X.length = n) (hd : Digs 256 X) (hv : val 256 X = V) : SInv n V C 0 0 X :=
 ⟨by decide, hl, hd, by rw [hv, Nat.pow_zero, Nat.mod_one]⟩

theorem SInv.step {n V C i u x c d u' : Nat} {X : List Nat} (h : SInv n V C i u X) (hi : i < n) (hx : x = X.getD i 0) (hc : c = C / 256 ^ i % 256) (hd : d + c + u = x + 256 * u') (hdl : d < 256) (hu : u' ≤ 1) :
  SInv n V C (i + 1) u' (X.set i d) := by
 have hlt : i < X.length := by rw [h.len]; exact hi
 refine ⟨hu, by rw [List.length_set, h.len], h.digs.set _ hdl, ?_⟩
 have hv := val_set (B := 256) X i d hlt
 have hxe : X[i] = x := by rw [hx]; simp [List.getD, hlt]
 rw [hxe] at hv
 have hs := h.sum
 rw [Nat.pow_succ, Nat.mod_mul, ← hc]
 generalize val 256 (X.set i d) = v' at *
 generalize val 256 X = v at *
 generalize 256 ^ i = P at *
 generalize C % P = R at *
 have e : P * (d + c + u) = P * (x + 256 * u') := by rw [hd]
 simp only [Nat.mul_add] at e
 have e2 : P * (256 * u') = P * 256 * u' := (Nat.mul_assoc _ _ _).symm
 rw [e2] at e
 omega

theorem SInv.final {n V C u : Nat} {X : List Nat} (h : SInv n V C n u X) (hV : V < 256 ^ n) (hC : C ≤ V) : val 256 X = V - C := by
 have hs := h.sum
 rw [Nat.mod_eq_of_lt (Nat.lt_of_le_of_lt hC hV)] at hs
 have hl := val_lt h.digs
 rw [h.len] at hl
 have hu := h.le
 rcases (show u = 0 ∨ u = 1 by omega) with rfl | rfl
 ·rw [Nat.mul_zero] at hs
  omega
 ·rw [Nat.mul_one] at hs
  omega

theorem take_set {X : List Nat} {cs : Array Value} {n j d : Nat} (h : cs.toList.take n = nums X) : (cs.setIfInBounds j (.int .i64 (d : Int))).toList.take n = nums (X.set j d) := by
 rw [Array.toList_setIfInBounds, List.take_set, h, nums, nums, List.map_set]
theorem take_cell {X : List Nat} {cs : Array Value} {n j : Nat} (h : cs.toList.take n = nums X) (hn : X.length = n) (hj : j < n) : cs[j]? = some (.int .i64 (X.getD j 0 : Nat)) := by
 have hjx : j < X.length := by omega
 have e : (nums X)[j]? = some (.int .i64 (X.getD j 0 : Nat)) := by rw [nums, List.getElem?_map, List.getElem?_eq_getElem hjx]; simp [List.getD, hjx]
 rw [← h, List.getElem?_take, if_pos hj] at e
 rw [← Array.getElem?_toList, e]
theorem env_rd {w0 w : World} {X : List Nat} {cs : Array Value} {g cap n : Nat} {T : TypeId} (hE : Env w0 [⟨g, T, cs⟩] w) (h : cs.toList.take n = nums X) (hn : X.length = n) : Rd X (.slice (some ⟨g, 0, none⟩) n cap) w := by
 subst hn
 exact .inr ⟨g, cap, cs, T, rfl, hE.get (i := 0) rfl, h⟩

theorem rd_news {l : List Nat} {g cap : Nat} {w : World} (h : Rd l (.slice (some ⟨g, 0, none⟩) l.length cap) w) : ∀ j u, (nums l)[j]? = some u → w.cell? ((⟨g, 0, none⟩ : Addr).add j) = some u := by
 intro j u hu
 have hj : j < l.length := by
  rcases Nat.lt_or_ge j l.length with h | h
  ·exact h
  ·rw [List.getElem?_eq_none (by rw [nums_length]; exact h)] at hu
   cases hu
 have ha : (⟨g, 0, none⟩ : Addr).add j = ⟨g, j, none⟩ := by unfold Addr.add; split <;> simp_all
 rw [ha, h.cell hj]
 rw [nums, List.getElem?_map, List.getElem?_eq_getElem hj] at hu
 rw [← hu]
 simp [List.getD, hj]

theorem q_rd {w0 w : World} {g : Nat} {T : TypeId} {l : List Blk} (hE : Env w0 (⟨g, T, ints .i64 qd⟩ :: l) w) : Rd qd (.slice (some ⟨g, 0, none⟩) 32 32) w :=
 .inr ⟨g, 32, ints .i64 qd, T, rfl, hE.get (i := 0) rfl, rfl⟩
theorem rs_call {w W w1 : World} {g j : Nat} {T : TypeId} {cs : Array Value} {v : Value} (h : Env w [⟨g, T, cs⟩] W ∧ W.cell? ⟨g, j, none⟩ = some v) (hb : Below W.heap.size W w1) : Env w [⟨g, T, cs⟩] w1 ∧ w1.cell? ⟨g, j, none⟩ = some v :=
 ⟨h.1.call hb, (hb.cell (World.block_lt_of_cell? _ _ h.2)).trans h.2⟩
structure RInv (la : List Nat) (U : Nat) (X : List Nat) : Prop where
 len : X.length = la.length
 digs : Digs 256 X
 lt : val 256 X < 256 ^ U * q
 mod : val 256 X % q = val 256 la % q
theorem RInv.start {la : List Nat} (da : Digs 256 la) : RInv la (la.length + 1) la := ⟨rfl, da, Nat.lt_of_lt_of_le (val_lt da) (by
 rw [Nat.pow_succ, Nat.mul_assoc]
 exact Nat.le_mul_of_pos_right _ (by decide)), rfl⟩
theorem RInv.final {la X : List Nat} (h : RInv la 0 X) : val 256 X = val 256 la % q := by
 have hl := h.lt
 rw [Nat.pow_zero, Nat.one_mul] at hl
 rw [← h.mod, Nat.mod_eq_of_lt hl]
theorem RInv.down {la X : List Nat} {U : Nat} (h : RInv la (U + 1) X) (hl : val 256 X < 256 ^ U * q) : RInv la U X := ⟨h.len, h.digs, hl, h.mod⟩
theorem RInv.take {la X Y : List Nat} {U : Nat} (h : RInv la (U + 1) X) (hl : Y.length = la.length) (hd : Digs 256 Y) (hge : 256 ^ U * q ≤ val 256 X) (hv : val 256 Y = val 256 X - 256 ^ U * q) : RInv la (U + 1) Y ∧ val 256 Y < val 256 X := by
 have hpos : 0 < 256 ^ U * q := Nat.mul_pos (Nat.pow_pos (by decide)) (by decide)
 refine ⟨⟨hl, hd, by have := h.lt; omega, ?_⟩, by omega⟩
 rw [← h.mod, hv]
 have e : val 256 X = (val 256 X - 256 ^ U * q) + 256 ^ U * q := by omega
 conv => rhs; rw [e, Nat.add_mul_mod_self_right]

set_option maxHeartbeats 2000000 in
theorem Rest_any {la : List Nat} {va : Value} {w : World} (ha : Rd la va w) (da : Digs 256 la) (h0 : 0 < la.length) (hla : la.length ≤ 65000) :
  Calls Tryz.prog 106 #[va] w fun e w' => ∃ g cap cs l, e = .returned (.slice (some ⟨g, 0, none⟩) la.length cap) ∧ Env w [⟨g, 3, cs⟩] w' ∧ cs.toList.take la.length = nums l ∧ l.length = la.length ∧ Digs 256 l ∧ val 256 l = val 256 la % q := by
 obtain ⟨i0, hi, hz, hs, hby⟩ := info_int
 have Ha := Lib.hid ha
 obtain ⟨pa, ca, hva⟩ := ha.len
 subst hva
 obtain ⟨ga, rfl⟩ := ha.some h0
 clear ha
 have hS0 : Sl w [] 3 [] (.slice (some ⟨w.heap.size, 0, none⟩) 0 0) (w.alloc (.cells #[] 3)) :=
  .inr ⟨_, 0, #[], rfl, Nat.le_refl _, Nat.zero_le _, rfl, rfl, (Env.nil w).alloc _ _⟩
 go_enter Tryz.func106, Tryz.ntmps106
 repeat ((fail_if_success (with_reducible show Code.wp _ (Code.region 1 _ _) _ _ _)); go_step)
 repeat ((fail_if_success (with_reducible show wpList _ _ _ (List.cons _ _) _ _)); go_step)
 apply wl_raw rfl
 ·go_simp
  exact ⟨rfl, rfl⟩
 simp only [qZ]
 apply wl_val rfl
 ·go_simp
  with_reducible rfl
 simp only [qZ]
 refine wl_append (news := nums la) (m := la.length) (c := ca) hS0 rfl rfl Tryz.underlying109 hi hz hs rfl hby rfl rfl (nums_length la) h0 (rd_news (Ha.out.below hS0.env.below)) (fun u hu => by obtain ⟨d, -, rfl⟩ := List.mem_map.1 hu; rfl) (by simp only [maxLen, List.length_nil]; omega) (by simp only [List.length_nil]; omega) ?_
 intro v1 w1 hS1
 clear hS0
 rw [List.nil_append] at hS1
 obtain ⟨g, cap, cs, hv, hcap, -, hcs, htk, hE1⟩ : ∃ g cap cs, v1 = .slice (some ⟨g, 0, none⟩) la.length cap ∧ la.length ≤ cap ∧ True ∧ cs.size = cap ∧ cs.toList.take la.length = nums la ∧ Env w [⟨g, 3, cs⟩] w1 := by
  rcases hS1 with ⟨-, h, -⟩ | ⟨g, cap, cs, h1, h2, -, h4, h5, h6⟩
  ·rw [nums, List.map_eq_nil_iff] at h
   subst h
   simp at h0
  ·rw [nums_length] at h1 h2 h5
   exact ⟨g, cap, cs, h1, h2, trivial, h4, h5, h6⟩
 subst hv
 clear hS1
 go_wp2
 go_loopg [4] (la.length + 1) (fun U i wr => U ≤ la.length + 1 ∧ i = .int .i64 ((U : Int) - 1) ∧ ∃ (X : List Nat) (cs : Array Value), RInv la U X ∧ cs.size = cap ∧ cs.toList.take la.length = nums X ∧ Env w [⟨g, 3, cs⟩] wr)
 case atStart => exact ⟨Nat.le_refl _, by simp, la, cs, RInv.start da, hcs, htk, hE1⟩
 case round =>
  clear hE1 htk hcs
  obtain ⟨hU, rfl, X, cs, hR, hcs, htk, hE0⟩ := hrel
  cases gk with
  | zero =>
   have hj : ((0 : Nat) : Int) - 1 = -1 := rfl
   rw [hj]
   clear hj
   have hl := hR.len
   have hd := hR.digs
   have hf := Lib.hid hR.final
   have Htk := Lib.hid htk
   clear hR htk hcs
   go_wp2
   go_returns
   exact ⟨g, cap, cs, X, rfl, hE0, Htk.out, hl, hd, hf.out⟩
  | succ U =>
   have hj : ((U + 1 : Nat) : Int) - 1 = (U : Int) := by omega
   rw [hj]
   clear hj
   have hj0 : (0 : Int) ≤ (U : Int) := by omega
   go_wp2
   go_loopg [] (val 256 X) (fun V wr => ∃ (X : List Nat) (cs : Array Value), val 256 X = V ∧ RInv la (U + 1) X ∧ cs.size = cap ∧ cs.toList.take la.length = nums X ∧ Env w [⟨g, 3, cs⟩] wr)
   case atStart => exact ⟨X, cs, rfl, hR, hcs, htk, hE0⟩
   case round =>
    clear hE0 htk hcs hR
    obtain ⟨Y, cs, hVY, hR, hcs, htk, hE0⟩ := hrel
    have hXl := hR.len
    have hXd := hR.digs
    have HR := Lib.hid hR
    have Htk := Lib.hid htk
    clear hR htk
    have hless : ∀ gq w1, Env w (⟨gq, 3, ints .i64 qd⟩ :: [⟨g, 3, cs⟩]) w1 → Gives 77 #[.slice (some ⟨g, 0, none⟩) la.length cap, .slice (some ⟨gq, 0, none⟩) 32 32, .int .i64 (U : Int)] w1 (.bool (decide (val 256 Y < 256 ^ U * q))) := fun gq w1 hE => by
     have := less_any (env_rd (cap := cap) (hE.sub (List.sublist_cons_self _ _)) Htk.out hXl) (q_rd hE) hXd qd_Digs U (by omega) (by decide) (by omega)
     rwa [val_qd] at this
    obtain ⟨b, hb⟩ : ∃ b, b = decide (val 256 Y < 256 ^ U * q) := ⟨_, rfl⟩
    rw [← hb] at hless
    have Hless := Lib.hid hless
    have Hb := Lib.hid hb
    clear hless hb
    repeat ((fail_if_success refine sqx ?_); go_step)
    apply wl_val rfl
    ·go_simp
     with_reducible rfl
    simp only [qZ]
    refine wl_call_new hE0 rfl (by go_simp) (Q_any _) ?_
    intro g90 w1 hE1
    clear hE0
    simp only [qZ]
    apply wl_val rfl
    ·go_simp
     with_reducible rfl
    simp only [qZ]
    refine wl_call hE1 rfl (by go_simp) (Hless.out _ _ hE1) ?_
    intro w2 hE2
    clear hE1
    simp only [qZ]
    apply wl_val rfl
    ·go_simp
     with_reducible rfl
    simp only [qZ]
    cases b
    ·have hge : 256 ^ U * q ≤ val 256 Y := Nat.le_of_not_lt (of_decide_eq_false Hb.out.symm)
     have Hge := Lib.hid hge
     clear hge
     have hE3 := hE2.sub (List.sublist_cons_self _ _)
     clear hE2
     go_wp2
     go_loopw [5, 6] (fun u i wr => ∃ (j c : Nat) (Z : List Nat) (cs : Array Value), j ≤ la.length ∧ i = .int .i64 j ∧ u = .int .i64 c ∧ SInv la.length (val 256 Y) (256 ^ U * q) j c Z ∧ cs.size = cap ∧ cs.toList.take la.length = nums Z ∧ Env w [⟨g, 3, cs⟩] wr) (fun _ i _ => la.length - (intOf i).toNat)
     case atStart => exact ⟨0, 0, Y, cs, Nat.zero_le _, rfl, rfl, SInv.start hXl hXd rfl, hcs, Htk.out, hE3⟩
     case round =>
      clear hE3 hcs Htk Hless
      obtain ⟨j, c, Z, cs, hj, rfl, rfl, hZ, hcs, htk, hE0⟩ := hrel
      by_cases hjn : j < la.length
      ·obtain ⟨x, hx⟩ : ∃ x, x = Z.getD j 0 := ⟨_, rfl⟩
       obtain ⟨y, hy⟩ : ∃ y, y = 256 ^ U * q / 256 ^ j % 256 := ⟨_, rfl⟩
       have hxl : x < 256 := by rw [hx]; exact hZ.digs.getD (by decide) _
       have hyl : y < 256 := by rw [hy]; exact Nat.mod_lt _ (by decide)
       have hcl := hZ.le
       have hat : ∀ gq w1, w1.heap[gq]? = some (.cells (ints .i64 qd) 3 (0, 0)) → Gives 112 #[.slice (some ⟨gq, 0, none⟩) 32 32, .int .i64 ((j : Int) - (U : Int))] w1 (.int .i64 (y : Nat)) := fun gq w1 hg => by
        have := at_any (l := qd) (.inr ⟨gq, 32, ints .i64 qd, 3, rfl, hg, rfl⟩ : Rd qd (.slice (some ⟨gq, 0, none⟩) 32 32) w1) (by decide) ((j : Int) - (U : Int))
        rwa [atD_up qd_Digs, val_qd, ← hy] at this
       have hcc : ∀ w1, Env w [⟨g, 3, cs⟩] w1 → w1.cell? ⟨g, j, none⟩ = some (.int .i64 (x : Nat)) ∧ w1.frozen? ⟨g, j, none⟩ = false := fun w1 h => ⟨by rw [h.cell (i := 0) rfl j, take_cell htk hZ.len hjn, hx], h.frozen (i := 0) rfl j⟩
       have hstep : ∀ d u', d + y + c = x + 256 * u' → d < 256 → u' ≤ 1 → SInv la.length (val 256 Y) (256 ^ U * q) (j + 1) u' (Z.set j d) := fun d u' => hZ.step hjn hx hy
       have hset : ∀ d : Nat, (cs.setIfInBounds j (.int .i64 (d : Int))).size = cap ∧ (cs.setIfInBounds j (.int .i64 (d : Int))).toList.take la.length = nums (Z.set j d) := fun d => ⟨by rw [Array.size_setIfInBounds, hcs], take_set htk⟩
       have hS : Env w [⟨g, 3, cs⟩] wr ∧ wr.cell? ⟨g, j, none⟩ = some (.int .i64 (x : Nat)) := ⟨hE0, (hcc _ hE0).1⟩
       have hjU : IntKind.i64.wrap ((j : Int) - (U : Int)) = (j : Int) - (U : Int) := by rw [IntKind.wrap_i64]; omega
       have hj1 : IntKind.i64.wrap ((j : Int) + 1) = ((j + 1 : Nat) : Int) := by rw [IntKind.wrap_i64]; omega
       obtain ⟨t1, ht1⟩ : ∃ t : Int, t = (x : Int) - (y : Int) := ⟨_, rfl⟩
       obtain ⟨t, ht⟩ : ∃ t : Int, t = t1 - (c : Int) := ⟨_, rfl⟩
       have hw1 : IntKind.i64.wrap ((x : Int) - (y : Int)) = t1 := by rw [IntKind.wrap_i64]; omega
       have hw2 : IntKind.i64.wrap (t1 - (c : Int)) = t := by rw [IntKind.wrap_i64]; omega
       have Hat := Lib.hid hat
       have Hcc := Lib.hid hcc
       have Hset := Lib.hid hset
       have Hstep := Lib.hid hstep
       clear hat hcc hset hstep hZ htk hcs hx hy hE0
       by_cases htn : t < 0
       ·obtain ⟨d, hd⟩ : ∃ d : Nat, (d : Int) = t + 256 := ⟨(t + 256).toNat, by omega⟩
        have hwd : IntKind.i64.wrap (t + 256) = (d : Int) := by rw [IntKind.wrap_i64]; omega
        have Hst := Lib.hid (Hstep.out d 1 (by omega) (by omega) (by omega))
        clear ht1 ht hd hxl hyl hcl
        go_wp2
        go_region_held3 (fun w' => Env w [⟨g, 3, cs⟩] w' ∧ w'.cell? ⟨g, j, none⟩ = some (.int .i64 (x : Nat))) (first | exact rs_call ‹_› ‹_› | exact rs_call ‹_› (Below.refl _ _).drew)
         (first
          | (go_at_call 79; refine (Q_any _).mono ?_; rintro e w' ⟨gq, rfl, hb, hgq, hcq⟩)
          | (go_at_call 112; refine (Hat.out _ _ (by assumption)).mono ?_; rintro e w' ⟨rfl, hb⟩))
        have hS9 : Env w [⟨g, 3, cs⟩] w' ∧ w'.cell? ⟨g, j, none⟩ = some (.int .i64 (x : Nat)) := by assumption
        have hE9 := hS9.1
        obtain ⟨ca9, cf9⟩ := Hcc.out _ hE9
        clear hS hS9 hgq hcq hb
        go_wp2
        go_roundw
        case rel => (repeat apply Exists.intro); exact ⟨⟨j + 1, 1, _, _, by omega, rfl, rfl, Hst.out, (Hset.out d).1, (Hset.out d).2, hE9.setCell (i := 0) rfl j _⟩, rfl⟩
        case measure => simp [intOf]; omega
       ·obtain ⟨d, rfl⟩ : ∃ d : Nat, t = (d : Int) := ⟨t.toNat, by omega⟩
        have Hst := Lib.hid (Hstep.out d 0 (by omega) (by omega) (by omega))
        clear ht1 ht hxl hyl hcl
        go_wp2
        go_region_held3 (fun w' => Env w [⟨g, 3, cs⟩] w' ∧ w'.cell? ⟨g, j, none⟩ = some (.int .i64 (x : Nat))) (first | exact rs_call ‹_› ‹_› | exact rs_call ‹_› (Below.refl _ _).drew)
         (first
          | (go_at_call 79; refine (Q_any _).mono ?_; rintro e w' ⟨gq, rfl, hb, hgq, hcq⟩)
          | (go_at_call 112; refine (Hat.out _ _ (by assumption)).mono ?_; rintro e w' ⟨rfl, hb⟩))
        have hS9 : Env w [⟨g, 3, cs⟩] w' ∧ w'.cell? ⟨g, j, none⟩ = some (.int .i64 (x : Nat)) := by assumption
        have hE9 := hS9.1
        obtain ⟨ca9, cf9⟩ := Hcc.out _ hE9
        clear hS hS9 hgq hcq hb
        go_wp2
        go_roundw
        case rel => (repeat apply Exists.intro); exact ⟨⟨j + 1, 0, _, _, by omega, rfl, rfl, Hst.out, (Hset.out d).1, (Hset.out d).2, hE9.setCell (i := 0) rfl j _⟩, rfl⟩
        case measure => simp [intOf]; omega
      ·have hj' : j = la.length := by omega
       subst hj'
       have hlt := val_lt hXd
       rw [hXl] at hlt
       have hfin := hZ.final hlt Hge.out
       obtain ⟨hR2, hless2⟩ := HR.out.take hZ.len hZ.digs Hge.out hfin
       have HR2 := Lib.hid hR2
       have Htk := Lib.hid htk
       rw [hVY] at hless2
       clear hZ hlt hfin hR2 htk
       go_wp2
       go_roundg (val 256 Z)
       case measure => exact hless2
       case rel => exact ⟨Z, cs, rfl, HR2.out, hcs, Htk.out, hE0⟩
    ·have hlt := Lib.hid (HR.out.down (of_decide_eq_true Hb.out.symm))
     have hj1 : IntKind.i64.wrap ((U : Int) - 1) = (U : Int) - 1 := by rw [IntKind.wrap_i64]; omega
     go_wp2
     go_roundg U
     case measure => omega
     case rel => exact ⟨by omega, rfl, Y, cs, hlt.out, hcs, Htk.out, hE2.sub (List.sublist_cons_self _ _)⟩
end Go.Proofs.YthddoelflmoedaaGreat
