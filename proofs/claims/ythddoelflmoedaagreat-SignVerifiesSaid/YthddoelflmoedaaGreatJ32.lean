/-
  Layer 4, the document's answer: a number halved k times, the walk.
  Layer 4, the document's answer: the root of a quotient.
  Layer 6, the document's answer: the curve's number, zero, the sum, the negative, a point's bytes.
  Layer 6, the document's answer: any multiple, the point of bytes, the base.
  Layer 5, the document's answer: the order's digits, and their bytes.
-/
import Derived.Test.YthddoelflmoedaaGreatJ13
import Derived.Test.YthddoelflmoedaaGreatJ14
import Derived.Test.YthddoelflmoedaaGreatJ16
import Derived.Test.YthddoelflmoedaaGreatJ30
import Derived.Test.YthddoelflmoedaaGreatJ31
set_option linter.unusedVariables false
set_option linter.unusedSimpArgs false
namespace Go.Proofs.YthddoelflmoedaaGreat
open Go.RowKit
set_option maxRecDepth 100000

set_option maxHeartbeats 4000000 in
theorem shift_any {n k : Nat} (hn : n < big8) (hk : k < 4611686018427387904) (w : World) : Gives 83 #[nm n, .int .i64 (k : Int)] w (nm (n / 2 ^ k)) := by
 have hn8 := nm_len n
 have Hn := Lib.hid hn
 clear hn
 have hE0 := Env.nil w
 go_enter Tryz.func83, Tryz.ntmps83
 repeat ((fail_if_success refine sqx ?_); go_step)
 refine wl_step (st_boxA hE0 rfl rfl rfl ?_)
 intro g0 w1 hb1 hE1
 clear hE0
 simp only [qZ]
 refine wl_step (sqA (ints .u32 (List.replicate 8 0)) hE1 ?_)
 intro g1 w2 hb2 hE2
 clear hE1
 simp only [qZ]
 repeat ((fail_if_success refine sqx ?_); go_step)
 refine mqC ?_
 go_wp2
 go_loopw [5] (fun i wr => ∃ (J : Nat), J ≤ k ∧ i = .int .i64 J ∧ Env w [⟨g1, 41, ints .u32 (List.replicate 8 0)⟩, ⟨g0, 41, ints .u32 (digs 4294967296 8 (n / 2 ^ J))⟩] wr) (fun i _ => k - (intOf i).toNat)
 case atStart => exact ⟨0, Nat.zero_le _, rfl, by rw [Nat.pow_zero, Nat.div_one]; exact hE2⟩
 case round =>
  clear hE2
  obtain ⟨J, hJ, rfl, hE0⟩ := hrel
  by_cases hJk : J < k
  ·have hA : n / 2 ^ J < big8 := Nat.lt_of_le_of_lt (Nat.div_le_self _ _) Hn.out
   have hnext : n / 2 ^ (J + 1) = n / 2 ^ J / 2 := by rw [Nat.pow_succ, ← Nat.div_div_eq_div_mul]
   obtain ⟨A, hAe⟩ : ∃ A, n / 2 ^ J = A := ⟨_, rfl⟩
   rw [hAe] at hA hnext hE0
   have Hnext := Lib.hid hnext
   have HA := Lib.hid hA
   have hA8 := nm_len A
   have hst : Env w [⟨g1, 41, ints .u32 (List.replicate 8 0)⟩, ⟨g0, 41, ints .u32 (digs 4294967296 8 (halfAt A 8))⟩] wr := by rw [halfAt_start hA]; exact hE0
   have h0 : 0 = A / 4294967296 ^ 8 % 2 := by rw [← big8_eq, Nat.div_eq_of_lt hA]
   have H0 := Lib.hid h0
   clear hnext hAe hA hE0 h0
   have hE0 := hst
   clear hst
   repeat ((fail_if_success refine sqx ?_); go_step)
   refine mqA ?_
   refine mqA ?_
   refine wqv (v_lss rfl rfl rfl) ?_
   repeat ((fail_if_success refine sqx ?_); go_step)
   refine mqC ?_
   repeat ((fail_if_success refine sqx ?_); go_step)
   refine mqC ?_
   go_wp2
   go_loopw [6, 7] (fun uv i wr => ∃ (K u : Nat), K ≤ 8 ∧ i = .int .i64 ((K : Int) - 1) ∧ uv = .int .u32 u ∧ Hid (u = A / 4294967296 ^ K % 2) ∧ Env w [⟨g1, 41, ints .u32 (List.replicate 8 0)⟩, ⟨g0, 41, ints .u32 (digs 4294967296 8 (halfAt A K))⟩] wr) (fun _ i _ => (intOf i + 1).toNat)
   case atStart => exact ⟨8, 0, Nat.le_refl _, rfl, rfl, H0, hE0⟩
   case round =>
    clear hE0
    obtain ⟨K, u, hK, rfl, rfl, hu, hE0⟩ := hrel
    cases K with
    | zero =>
     rw [halfAt_end, ← Hnext.out] at hE0
     repeat ((fail_if_success refine sqx ?_); go_step)
     refine mqA ?_
     refine wqv (v_geqI rfl rfl rfl) ?_
     repeat ((fail_if_success refine sqx ?_); go_step)
     refine mqA ?_
     refine wqv (v_add (n := 1) rfl rfl rfl (w_i64 (by omega))) ?_
     refine mqB ?_
     go_wp2
     go_roundw
     case rel => exact ⟨J + 1, by omega, rfl, hE0⟩
     case measure => simp [intOf]; omega
    | succ j =>
     have hj : ((j + 1 : Nat) : Int) - 1 = (j : Int) := by omega
     rw [hj]
     clear hj
     have hj8 : j < 8 := by omega
     have hg := nm_get (halfAt A (j + 1)) j hj8
     rw [halfAt_digit] at hg
     have ha : A / 4294967296 ^ j % 4294967296 < 4294967296 := Nat.mod_lt _ (by decide)
     obtain ⟨a, hae⟩ : ∃ a, A / 4294967296 ^ j % 4294967296 = a := ⟨_, rfl⟩
     have hs := halfAt_step HA.out hj8 hae hu.out.symm
     rw [hae] at hg ha
     have Hg := Lib.hid hg
     have hu2 : u < 2 := hu.out ▸ Nat.mod_lt _ (by decide)
     have hd := hs.2.1
     have Hs := Lib.hid hs
     have hh8 := nm_len (halfAt A (j + 1))
     obtain ⟨X, hXe⟩ : ∃ X, digs 4294967296 8 (halfAt A (j + 1)) = X := ⟨_, rfl⟩
     rw [hXe] at hE0 Hs hh8 Hg
     clear hg hae hs hu hXe
     repeat ((fail_if_success refine sqx ?_); go_step)
     refine mqA ?_
     refine wqv (v_geqI rfl rfl rfl) ?_
     repeat ((fail_if_success refine sqx ?_); go_step)
     refine mqA ?_
     refine wqv (vqI Tryz.underlying41) ?_
     refine wqv (vqC 1 hE0 Tryz.underlying39) ?_
     rw [Hg.out]
     refine wqv (v_rem (n := 2) rfl rfl rfl (by omega)) ?_
     refine mqB ?_
     repeat ((fail_if_success refine sqx ?_); go_step)
     refine mqA ?_
     refine mqA ?_
     refine wqv (vqI Tryz.underlying41) ?_
     refine wqv (vqC 1 hE0 Tryz.underlying39) ?_
     rw [Hg.out]
     refine wqv (v_quo (n := 2) rfl rfl rfl (by omega) (by first | exact w_uns rfl (by simp only [IntKind.bits]; omega) | rfl)) ?_
     refine mqA ?_
     refine wqv (v_shlC (s := 31) (d := 2147483648) rfl rfl rfl (by decide) (by decide) (by first | exact w_uns rfl (by simp only [IntKind.bits]; omega) | rfl)) ?_
     refine wqv (v_add rfl rfl rfl (by first | exact w_uns rfl (by simp only [IntKind.bits]; omega) | rfl)) ?_
     refine wqv (vqI Tryz.underlying41) ?_
     refine wl_step (st_putN (i := 1) hE0 rfl rfl rfl rfl rfl (by kernel_rfl) (by first | assumption | omega | (simp only [List.length_set, List.length_replicate]; first | assumption | omega)) ?_)
     intro w1 hE1
     clear hE0
     simp only [qpB, qpC] at hE1
     simp only [qZ]
     repeat ((fail_if_success refine sqx ?_); go_step)
     refine mqA ?_
     refine mqB ?_
     repeat ((fail_if_success refine sqx ?_); go_step)
     refine mqA ?_
     refine wqv (v_sub (n := 1) rfl rfl rfl (by first | exact w_i64s (by omega) (by omega) | exact w_i64I (by omega) (by omega))) ?_
     refine mqB ?_
     go_wp2
     go_roundw
     case rel => exact ⟨j, _, by omega, rfl, rfl, Lib.hid Hs.out.2.2.symm, by rw [← Hs.out.1]; exact hE1⟩
     case measure => simp [intOf]
  ·have hJ' : J = k := by omega
   subst hJ'
   have hl8 := nm_len (n / 2 ^ J)
   repeat ((fail_if_success refine sqx ?_); go_step)
   refine mqA ?_
   refine mqA ?_
   refine wqv (v_lss rfl rfl rfl) ?_
   repeat ((fail_if_success refine sqx ?_); go_step)
   refine wqv (vqL 1 8 hE0 Tryz.underlying41) ?_
   refine wl_step (sqS 0 8 hE0 ?_)
   intro w1 hE1
   clear hE0
   simp only [qpB, qpC] at hE1
   simp only [qZ]
   repeat ((fail_if_success refine sqx ?_); go_step)
   refine bodyPost_ret (results_cell_row rfl _ _ _ _ _ (0, 0) _ rfl (hE1.get (i := 0) rfl) Tryz.underlying41 rfl (szqA (n := 8))) rfl ⟨rfl, hE1.below⟩
end Go.Proofs.YthddoelflmoedaaGreat
namespace Go.Proofs.YthddoelflmoedaaGreat
open Go.RowKit
set_option maxRecDepth 100000

section
variable {a : Act} {w : World} {o : Oper}
theorem nm_inj {m n : Nat} (hm : m < big8) (hn : n < big8) : decide (digs 4294967296 8 m = digs 4294967296 8 n) = decide (m = n) := by
 by_cases h : m = n
 ·rw [h, decide_eq_true rfl, decide_eq_true rfl]
 ·rw [decide_eq_false h, decide_eq_false]
  intro e
  have := congrArg (val 4294967296) e
  rw [nm_val hm, nm_val hn] at this
  exact h this
theorem v_eqNum {t' : TypeId} {x y : Operand} {m n : Nat} (ho : o.op = .binOp .eql 41 x y t') (hx : a.eval x = nm m) (hy : a.eval y = nm n) (hm : m < big8) (hn : n < big8) : Val Tryz.prog o a (.bool (decide (m = n))) w := by
 rw [← nm_inj hm hn]
 exact v_eqInts ho hx hy Tryz.eqGuardType41 Tryz.underlying41 Tryz.underlying39 Tryz.sizeOf39 (nm_len _) (nm_len _)
theorem v_neNum {t' : TypeId} {x y : Operand} {m n : Nat} (ho : o.op = .binOp .neq 41 x y t') (hx : a.eval x = nm m) (hy : a.eval y = nm n) (hm : m < big8) (hn : n < big8) : Val Tryz.prog o a (.bool (!decide (m = n))) w := by
 rw [← nm_inj hm hn]
 exact v_neInts ho hx hy Tryz.eqGuardType41 Tryz.underlying41 Tryz.underlying39 Tryz.sizeOf39 (nm_len _) (nm_len _)
end

theorem nm_set0 {n d : Nat} (hn : n < big8) (hd : d < 4294967296) (h : n + d < big8) (h2 : n % 4294967296 + d < 4294967296) : (digs 4294967296 8 n).set 0 (n % 4294967296 + d) = digs 4294967296 8 (n + d) := by
 refine digs_set (by decide) (by decide) (big8_eq ▸ hn) (big8_eq ▸ h) h2 ?_
 rw [Nat.pow_zero, Nat.div_one]
 omega

set_option maxHeartbeats 8000000 in
theorem rRoot_any' {u v Q R H RR S SS : Nat} (hu : u < pN) (hv : v < pN) (hQ : rrootQ u v = Q) (hR : Q ^ ((pN + 3) / 8) % pN = R) (hH : 2 ^ ((pN - 1) / 4) % pN = H) (hRR : R * R % pN = RR) (hS : R * H % pN = S) (hSS : S * S % pN = SS) (w : World) :
  Gives 44 #[nm u, nm v] w (if v = 0 then .tuple #[nm 0, .bool false] else if RR = Q then .tuple #[nm (evenN R), .bool true] else if SS = Q then .tuple #[nm (evenN S), .bool true] else .tuple #[nm 0, .bool false]) := by
 have ep3 : pN % 4294967296 + 3 < 4294967296 := by decide
 have hp := nm_set0 (n := pN) (d := 3) (by decide) (by decide) (by decide) ep3
 have hg := nm_get pN 0 (by decide)
 rw [Nat.pow_zero, Nat.div_one] at hg
 have hQl : Q < pN := hQ ▸ rrootQ_lt u v
 have hRl : R < pN := hR ▸ Nat.mod_lt _ pos_pN
 have hHl : H < pN := hH ▸ Nat.mod_lt _ pos_pN
 have hSl : S < pN := hS ▸ Nat.mod_lt _ pos_pN
 have hRRl : RR < pN := hRR ▸ Nat.mod_lt _ pos_pN
 have hSSl : SS < pN := hSS ▸ Nat.mod_lt _ pos_pN
 have cI := fun w => rInvert_any hv w
 have cQ := fun w => rMul_any (m := u) (n := v ^ (pN - 2) % pN) (Nat.lt_trans hu pN_lt) (mod_big _) w
 have eQ : u * (v ^ (pN - 2) % pN) % pN = Q := hQ
 rw [eQ] at cQ
 have cs3 := fun w => shift_any (n := pN + 3) (k := 3) (by decide) (by decide) w
 have cb3 := fun w => rBytes_any (n := (pN + 3) / 2 ^ 3) (by decide) w
 have e3 : (pN + 3) / 2 ^ 3 = (pN + 3) / 8 := by decide
 have cp3 := fun w => rPow_any (x := Q) (e := digs 256 32 ((pN + 3) / 8)) hQl (digs_Digs (by decide) _ _) (digs_length _ _ _) w
 have v3 : val 256 (digs 256 32 ((pN + 3) / 8)) = (pN + 3) / 8 := by
  rw [val_digs]
  exact Nat.mod_eq_of_lt (by decide)
 rw [v3, hR] at cp3
 rw [e3] at cs3 cb3
 have cRR := fun w => rMul_any (Nat.lt_trans hRl pN_lt) (Nat.lt_trans hRl pN_lt) w
 rw [hRR] at cRR
 have cm := fun w => minus_any (m := pN) (n := 1) pN_lt (by decide) w
 have e1 : (pN + big8 - 1) % big8 = pN - 1 := by decide
 have e2 : decide (pN < 1) = false := by decide
 rw [e1, e2] at cm
 have cs2 := fun w => shift_any (n := pN - 1) (k := 2) (by decide) (by decide) w
 have e4 : (pN - 1) / 2 ^ 2 = (pN - 1) / 4 := by decide
 have cb2 := fun w => rBytes_any (n := (pN - 1) / 4) (by decide) w
 rw [e4] at cs2
 have cp2 := fun w => rPow_any (x := 2) (e := digs 256 32 ((pN - 1) / 4)) (by decide) (digs_Digs (by decide) _ _) (digs_length _ _ _) w
 have v2 : val 256 (digs 256 32 ((pN - 1) / 4)) = (pN - 1) / 4 := by
  rw [val_digs]
  exact Nat.mod_eq_of_lt (by decide)
 rw [v2, hH] at cp2
 have cS := fun w => rMul_any (Nat.lt_trans hRl pN_lt) (Nat.lt_trans hHl pN_lt) w
 rw [hS] at cS
 have cSS := fun w => rMul_any (Nat.lt_trans hSl pN_lt) (Nat.lt_trans hSl pN_lt) w
 rw [hSS] at cSS
 have cO1 := fun w => rOdd_any (Nat.lt_trans hRl pN_lt) w
 have cO2 := fun w => rOdd_any (Nat.lt_trans hSl pN_lt) w
 have cN1 := fun w => rSub_any (m := 0) (by decide) hRl w
 have cN2 := fun w => rSub_any (m := 0) (by decide) hSl w
 rw [Nat.zero_add] at cN1 cN2
 obtain ⟨I, hI⟩ : ∃ I, v ^ (pN - 2) % pN = I := ⟨_, rfl⟩
 obtain ⟨D, hD⟩ : ∃ D, (pN + 3) / 8 = D := ⟨_, rfl⟩
 obtain ⟨E, hE⟩ : ∃ E, (pN - 1) / 4 = E := ⟨_, rfl⟩
 obtain ⟨P3, hP3⟩ : ∃ P3, pN + 3 = P3 := ⟨_, rfl⟩
 obtain ⟨P1, hP1⟩ : ∃ P1, pN - 1 = P1 := ⟨_, rfl⟩
 rw [hI] at cI cQ
 rw [hD] at cs3 cb3 cp3
 rw [hP3] at hp cs3
 rw [hE] at cs2 cb2 cp2
 rw [hP1] at cm cs2
 have eR1 : R % 2 = 1 → nm (evenN R) = nm ((pN - R) % pN) := fun h => by unfold evenN; rw [if_pos h]
 have eR0 : ¬ R % 2 = 1 → nm (evenN R) = nm R := fun h => by unfold evenN; rw [if_neg h]
 have eS1 : S % 2 = 1 → nm (evenN S) = nm ((pN - S) % pN) := fun h => by unfold evenN; rw [if_pos h]
 have eS0 : ¬ S % 2 = 1 → nm (evenN S) = nm S := fun h => by unfold evenN; rw [if_neg h]
 obtain ⟨NR, hNR⟩ : ∃ NR, (pN - R) % pN = NR := ⟨_, rfl⟩
 obtain ⟨NS, hNS⟩ : ∃ NS, (pN - S) % pN = NS := ⟨_, rfl⟩
 rw [hNR] at cN1 eR1
 rw [hNS] at cN2 eS1
 obtain ⟨T, hT⟩ : ∃ T, (if v = 0 then Value.tuple #[nm 0, .bool false] else if RR = Q then .tuple #[nm (evenN R), .bool true] else if SS = Q then .tuple #[nm (evenN S), .bool true] else .tuple #[nm 0, .bool false]) = T := ⟨_, rfl⟩
 rw [hT]
 have HT := Lib.hid hT
 clear hT
 have lv8 := Nat.lt_trans hv pN_lt
 have lQ8 := Nat.lt_trans hQl pN_lt
 have lRR8 := Nat.lt_trans hRRl pN_lt
 have lSS8 := Nat.lt_trans hSSl pN_lt
 have n1 := nm_len u
 have n2 := nm_len v
 have n3 := nm_len Q
 have n4 := nm_len R
 have n5 := nm_len S
 have n6 := nm_len pN
 have n7 := nm_len P3
 have n8 := nm_len P1
 have n9 := nm_len H
 have n10 := nm_len NR
 have n11 := nm_len NS
 have n12 := nm_len 0
 have h08 : 0 < big8 := by decide
 have w3 : IntKind.u32.wrap ((pN % 4294967296 + 3 : Nat) : Int) = ((pN % 4294967296 + 3 : Nat) : Int) := w_u32 ep3
 obtain ⟨p0, hp0⟩ : ∃ p0, pN % 4294967296 = p0 := ⟨_, rfl⟩
 rw [hp0] at hg hp w3
 have Hp := Lib.hid hp
 have Hg := Lib.hid hg
 have W3 := Lib.hid w3
 have CI := Lib.hid cI
 have CQ := Lib.hid cQ
 have C3 := Lib.hid cs3
 have B3 := Lib.hid cb3
 have P3' := Lib.hid cp3
 have CRR := Lib.hid cRR
 have CM := Lib.hid cm
 have C2 := Lib.hid cs2
 have B2 := Lib.hid cb2
 have P2 := Lib.hid cp2
 have CS := Lib.hid cS
 have CSS := Lib.hid cSS
 have O1 := Lib.hid cO1
 have O2 := Lib.hid cO2
 have N1 := Lib.hid cN1
 have N2 := Lib.hid cN2
 have ER1 := Lib.hid eR1
 have ER0 := Lib.hid eR0
 have ES1 := Lib.hid eS1
 have ES0 := Lib.hid eS0
 obtain ⟨pn, hpn⟩ : ∃ pn, pN = pn := ⟨_, rfl⟩
 have PA := Lib.hid (fun w => P_any w)
 rw [hpn] at PA Hp n6 CM Hg
 clear hp hg w3 cI cQ cs3 cb3 cp3 cRR cm cs2 cb2 cp2 cS cSS cO1 cO2 cN1 cN2 eR1 eR0 eS1 eS0 hQ hR hH hRR hS hSS hI hD hE hP3 hP1 hNR hNS e1 e2 e3 e4 v2 v3 eQ hp0 ep3 hQl hRl hHl hSl hRRl hSSl hu hv hpn
 have hE0 := Env.nil w
 go_enter Tryz.func44, Tryz.ntmps44
 repeat ((fail_if_success refine sqx ?_); go_step)
 refine wl_step (st_boxA hE0 rfl rfl rfl ?_)
 intro g0 w1 hb1 hE1
 clear hE0
 simp only [qZ]
 refine wl_step (st_boxA hE1 rfl rfl rfl ?_)
 intro g1 w2 hb2 hE2
 clear hE1
 simp only [qZ]
 refine wl_step (sqA (ints .u32 (List.replicate 8 0)) hE2 ?_)
 intro g2 w3 hb3 hE3
 clear hE2
 simp only [qZ]
 refine mqC ?_
 repeat ((fail_if_success refine sqx ?_); go_step)
 refine wqv (vqL 1 8 hE3 Tryz.underlying41) ?_
 refine wqv (v_built (k := .u32) (l := digs 4294967296 8 0) rfl (fun w => by kernel_rfl)) ?_
 refine wqv (v_eqNum rfl rfl rfl lv8 h08) ?_
 repeat ((fail_if_success refine sqy ?_); go_step)
 by_cases hz : v = 0
 ·skip
  repeat ((fail_if_success refine sqy ?_); go_step)
  refine cqT ?_
  skip
  repeat ((fail_if_success refine sqx ?_); go_step)
  refine wqv (v_built (k := .u32) (l := digs 4294967296 8 0) rfl (fun w => by kernel_rfl)) ?_
  refine wl_step (sqS 0 8 hE3 ?_)
  intro w4 hE4
  clear hE3
  simp only [qpB, qpC] at hE4
  simp only [qZ]
  refine mqC ?_
  repeat ((fail_if_success refine sqx ?_); go_step)
  refine bodyPost_ret (results_ct rfl _ _ _ _ _ (0, 0) _ rfl (hE4.get (i := 0) rfl) Tryz.underlying41 rfl (szqA (n := 8)) rfl) rfl ⟨by rw [← HT.out, if_pos hz] <;> rfl, hE4.below⟩
 ·skip
  repeat ((fail_if_success refine sqy ?_); go_step)
  refine cqF ?_
  skip
  repeat ((fail_if_success refine sqx ?_); go_step)
  refine wp_region_env 5 (by kernel_rfl) (by kernel_rfl) (fun _ _ d _ _ h => by cases d <;> exact h) hE3 ?_
  refine hqv (fun _ hW => (vqL 2 8 hW Tryz.underlying41)) ?_
  refine hqv (fun _ hW => (vqL 1 8 hW Tryz.underlying41)) ?_
  refine headRun_call (fun w1 => run_call rfl Tryz.call59) (fun w1 hW => CI.out _) ?_
  simp only [qZ]
  refine headRun_call (fun w1 => run_call rfl Tryz.call43) (fun w1 hW => CQ.out _) ?_
  simp only [qZ]
  refine headRun_alloc (zs := ints .u32 (List.replicate 8 0)) rfl rfl (fun w => by kernel_rfl) ?_
  simp only [qZ]
  refine headRun_nil (endK1 ?_)
  intro g3 w4 hE4
  clear hE3
  simp only [List.drop_succ_cons, List.drop_zero, Act.put, qpA, qpB, qpC]
  refine wl_step (sqS 0 8 hE4 ?_)
  intro w5 hE5
  clear hE4
  simp only [qpB, qpC] at hE5
  simp only [qZ]
  repeat ((fail_if_success refine sqx ?_); go_step)
  refine wl_step (st_gives hE5 rfl (run_call rfl Tryz.call39) (PA.out _) ?_)
  intro w6 hb6 hE6
  clear hE5
  simp only [qZ]
  refine wl_step (sqA (ints .u32 (List.replicate 8 0)) hE6 ?_)
  intro g4 w7 hb7 hE7
  clear hE6
  simp only [qZ]
  refine wl_step (sqS 0 8 hE7 ?_)
  intro w8 hE8
  clear hE7
  simp only [qpB, qpC] at hE8
  simp only [qZ]
  repeat ((fail_if_success refine sqx ?_); go_step)
  refine wqv (vqI (j := 0) Tryz.underlying41) ?_
  refine wqv (vqC 0 hE8 Tryz.underlying39) ?_
  rw [Hg.out]
  refine wqv (v_add rfl rfl rfl W3.out) ?_
  refine wqv (vqI (j := 0) Tryz.underlying41) ?_
  refine wl_step (st_putN (i := 0) hE8 rfl rfl rfl rfl rfl (by kernel_rfl) (by first | assumption | omega | (simp only [List.length_set, List.length_replicate]; first | assumption | omega)) ?_)
  intro w9 hE9
  clear hE8
  simp only [qpB, qpC] at hE9
  simp only [qZ]
  rw [Hp.out] at hE9
  repeat ((fail_if_success refine sqx ?_); go_step)
  refine wp_region_env 6 (by kernel_rfl) (by kernel_rfl) (fun _ _ d _ _ h => by cases d <;> exact h) hE9 ?_
  refine hqv (fun _ hW => (vqL 1 8 hW Tryz.underlying41)) ?_
  refine hqv (fun _ hW => (vqL 0 8 hW Tryz.underlying41)) ?_
  refine headRun_call (fun w1 => run_call rfl Tryz.call83) (fun w1 hW => C3.out _) ?_
  simp only [qZ]
  refine headRun_call (fun w1 => run_call rfl Tryz.call60) (fun w1 hW => B3.out _) ?_
  simp only [qZ]
  refine headRun_call (fun w1 => run_call rfl Tryz.call82) (fun w1 hW => P3'.out _) ?_
  simp only [qZ]
  refine headRun_alloc (zs := ints .u32 (List.replicate 8 0)) rfl rfl (fun w => by kernel_rfl) ?_
  simp only [qZ]
  refine headRun_nil (endK1 ?_)
  intro g5 w10 hE10
  clear hE9
  simp only [List.drop_succ_cons, List.drop_zero, Act.put, qpA, qpB, qpC]
  refine wl_step (sqS 0 8 hE10 ?_)
  intro w11 hE11
  clear hE10
  simp only [qpB, qpC] at hE11
  simp only [qZ]
  repeat ((fail_if_success refine sqx ?_); go_step)
  refine wp_region_B (n := 5) 5 (by kernel_rfl) rfl hE11 ?_
  intro w12 hb12 hE12
  clear hE11
  refine tqB 0 rfl (vqL 0 8 hE12 Tryz.underlying41) ?_
  refine tqB 1 rfl (vqL 0 8 hE12 Tryz.underlying41) ?_
  refine tqB 3 rfl (vqL 2 8 hE12 Tryz.underlying41) ?_
  refine sqB 2 rfl (st_gives hE12 rfl (run_call rfl Tryz.call43) (CRR.out _) ?_)
  intro w13 hb13 hE13
  clear hE12
  refine ⟨fun _ => hb13, ?_⟩
  simp only [qZ]
  refine tqB 4 rfl (v_neNum rfl rfl rfl lRR8 lQ8) ?_
  refine wpB_done (by kernel_rfl) ?_ _
  repeat ((fail_if_success refine sqy ?_); go_step)
  by_cases hq : RR = Q
  ·rw [decide_eq_true hq]
   repeat ((fail_if_success refine sqy ?_); go_step)
   refine cqF ?_
   skip
   repeat ((fail_if_success refine sqx ?_); go_step)
   refine wp_region_B (n := 5) 5 (by kernel_rfl) rfl hE13 ?_
   intro w14 hb14 hE14
   clear hE13
   refine tqB 0 rfl (vqL 0 8 hE14 Tryz.underlying41) ?_
   refine tqB 1 rfl (vqL 0 8 hE14 Tryz.underlying41) ?_
   refine tqB 3 rfl (vqL 2 8 hE14 Tryz.underlying41) ?_
   refine sqB 2 rfl (st_gives hE14 rfl (run_call rfl Tryz.call43) (CRR.out _) ?_)
   intro w15 hb15 hE15
   clear hE14
   refine ⟨fun _ => hb15, ?_⟩
   simp only [qZ]
   refine tqB 4 rfl (v_neNum rfl rfl rfl lRR8 lQ8) ?_
   refine wpB_done (by kernel_rfl) ?_ _
   rw [decide_eq_true hq]
   repeat ((fail_if_success refine sqy ?_); go_step)
   refine cqF ?_
   skip
   repeat ((fail_if_success refine sqx ?_); go_step)
   refine wqv (vqL 0 8 hE15 Tryz.underlying41) ?_
   refine wl_step (st_gives hE15 rfl (run_call rfl Tryz.call61) (O1.out _) ?_)
   intro w16 hb16 hE16
   clear hE15
   simp only [qZ]
   repeat ((fail_if_success refine sqy ?_); go_step)
   by_cases ho : R % 2 = 1
   ·skip
    repeat ((fail_if_success refine sqy ?_); go_step)
    refine cqT ?_
    skip
    repeat ((fail_if_success refine sqx ?_); go_step)
    refine wqv (v_built (k := .u32) (l := digs 4294967296 8 0) rfl (fun w => by kernel_rfl)) ?_
    refine wqv (vqL 0 8 hE16 Tryz.underlying41) ?_
    refine wl_step (st_gives hE16 rfl (run_call rfl Tryz.call45) (N1.out _) ?_)
    intro w17 hb17 hE17
    clear hE16
    simp only [qZ]
    refine wl_step (sqS 0 8 hE17 ?_)
    intro w18 hE18
    clear hE17
    simp only [qpB, qpC] at hE18
    simp only [qZ]
    repeat ((fail_if_success refine sqx ?_); go_step)
    refine wqv (vqL 0 8 hE18 Tryz.underlying41) ?_
    refine wl_step (sqS 3 8 hE18 ?_)
    intro w19 hE19
    clear hE18
    simp only [qpB, qpC] at hE19
    simp only [qZ]
    refine mqC ?_
    repeat ((fail_if_success refine sqx ?_); go_step)
    refine bodyPost_ret (results_ct rfl _ _ _ _ _ (0, 0) _ rfl (hE19.get (i := 3) rfl) Tryz.underlying41 rfl (szqA (n := 8)) rfl) rfl ⟨by rw [← HT.out, if_neg hz, if_pos hq, ER1.out ho] <;> rfl, hE19.below⟩
   ·skip
    repeat ((fail_if_success refine sqy ?_); go_step)
    refine cqF ?_
    skip
    repeat ((fail_if_success refine sqx ?_); go_step)
    refine wqv (vqL 0 8 hE16 Tryz.underlying41) ?_
    refine wl_step (sqS 3 8 hE16 ?_)
    intro w17 hE17
    clear hE16
    simp only [qpB, qpC] at hE17
    simp only [qZ]
    refine mqC ?_
    repeat ((fail_if_success refine sqx ?_); go_step)
    refine bodyPost_ret (results_ct rfl _ _ _ _ _ (0, 0) _ rfl (hE17.get (i := 3) rfl) Tryz.underlying41 rfl (szqA (n := 8)) rfl) rfl ⟨by rw [← HT.out, if_neg hz, if_pos hq, ER0.out ho] <;> rfl, hE17.below⟩
  ·rw [decide_eq_false hq]
   repeat ((fail_if_success refine sqy ?_); go_step)
   refine cqT ?_
   skip
   repeat ((fail_if_success refine sqx ?_); go_step)
   refine wl_step (st_gives hE13 rfl (run_call rfl Tryz.call39) (PA.out _) ?_)
   intro w14 hb14 hE14
   clear hE13
   simp only [qZ]
   refine wl_step (st_gives hE14 rfl (run_call rfl Tryz.call42) (rSmall_any (n := 1) (by decide) _) ?_)
   intro w15 hb15 hE15
   clear hE14
   simp only [qZ]
   refine wl_step (st_gives hE15 rfl (run_call rfl Tryz.call84) (CM.out _) ?_)
   intro w16 hb16 hE16
   clear hE15
   simp only [qZ]
   refine mqA ?_
   refine wqv (v_extract rfl rfl rfl) ?_
   refine wqv (v_extract rfl rfl rfl) ?_
   refine wl_step (sqA (ints .u32 (List.replicate 8 0)) hE16 ?_)
   intro g6 w17 hb17 hE17
   clear hE16
   simp only [qZ]
   refine wl_step (sqS 0 8 hE17 ?_)
   intro w18 hE18
   clear hE17
   simp only [qpB, qpC] at hE18
   simp only [qZ]
   refine mqB ?_
   repeat ((fail_if_success refine sqx ?_); go_step)
   refine wp_region_env 6 (by kernel_rfl) (by kernel_rfl) (fun _ _ d _ _ h => by cases d <;> exact h) hE18 ?_
   refine headRun_call (fun w1 => run_call rfl Tryz.call42) (fun w1 hW => rSmall_any (n := 2) (by decide) _) ?_
   simp only [qZ]
   refine hqv (fun _ hW => (vqL 0 8 hW Tryz.underlying41)) ?_
   refine headRun_call (fun w1 => run_call rfl Tryz.call83) (fun w1 hW => C2.out _) ?_
   simp only [qZ]
   refine headRun_call (fun w1 => run_call rfl Tryz.call60) (fun w1 hW => B2.out _) ?_
   simp only [qZ]
   refine headRun_call (fun w1 => run_call rfl Tryz.call82) (fun w1 hW => P2.out _) ?_
   simp only [qZ]
   refine headRun_alloc (zs := ints .u32 (List.replicate 8 0)) rfl rfl (fun w => by kernel_rfl) ?_
   simp only [qZ]
   refine headRun_nil (endK1 ?_)
   intro g7 w19 hE19
   clear hE18
   simp only [List.drop_succ_cons, List.drop_zero, Act.put, qpA, qpB, qpC]
   refine wl_step (sqS 0 8 hE19 ?_)
   intro w20 hE20
   clear hE19
   simp only [qpB, qpC] at hE20
   simp only [qZ]
   repeat ((fail_if_success refine sqx ?_); go_step)
   refine wqv (vqL 2 8 hE20 Tryz.underlying41) ?_
   refine wqv (vqL 0 8 hE20 Tryz.underlying41) ?_
   refine wl_step (st_gives hE20 rfl (run_call rfl Tryz.call43) (CS.out _) ?_)
   intro w21 hb21 hE21
   clear hE20
   simp only [qZ]
   refine wl_step (sqS 2 8 hE21 ?_)
   intro w22 hE22
   clear hE21
   simp only [qpB, qpC] at hE22
   simp only [qZ]
   repeat ((fail_if_success refine sqx ?_); go_step)
   refine wp_region_B (n := 5) 5 (by kernel_rfl) rfl hE22 ?_
   intro w23 hb23 hE23
   clear hE22
   refine tqB 0 rfl (vqL 2 8 hE23 Tryz.underlying41) ?_
   refine tqB 1 rfl (vqL 2 8 hE23 Tryz.underlying41) ?_
   refine tqB 3 rfl (vqL 4 8 hE23 Tryz.underlying41) ?_
   refine sqB 2 rfl (st_gives hE23 rfl (run_call rfl Tryz.call43) (CSS.out _) ?_)
   intro w24 hb24 hE24
   clear hE23
   refine ⟨fun _ => hb24, ?_⟩
   simp only [qZ]
   refine tqB 4 rfl (v_neNum rfl rfl rfl lSS8 lQ8) ?_
   refine wpB_done (by kernel_rfl) ?_ _
   repeat ((fail_if_success refine sqy ?_); go_step)
   by_cases hs : SS = Q
   ·rw [decide_eq_true hs]
    repeat ((fail_if_success refine sqy ?_); go_step)
    refine cqF ?_
    skip
    repeat ((fail_if_success refine sqx ?_); go_step)
    refine wqv (vqL 2 8 hE24 Tryz.underlying41) ?_
    refine wl_step (st_gives hE24 rfl (run_call rfl Tryz.call61) (O2.out _) ?_)
    intro w25 hb25 hE25
    clear hE24
    simp only [qZ]
    repeat ((fail_if_success refine sqy ?_); go_step)
    by_cases ho : S % 2 = 1
    ·skip
     repeat ((fail_if_success refine sqy ?_); go_step)
     refine cqT ?_
     skip
     repeat ((fail_if_success refine sqx ?_); go_step)
     refine wqv (v_built (k := .u32) (l := digs 4294967296 8 0) rfl (fun w => by kernel_rfl)) ?_
     refine wqv (vqL 2 8 hE25 Tryz.underlying41) ?_
     refine wl_step (st_gives hE25 rfl (run_call rfl Tryz.call45) (N2.out _) ?_)
     intro w26 hb26 hE26
     clear hE25
     simp only [qZ]
     refine wl_step (sqS 2 8 hE26 ?_)
     intro w27 hE27
     clear hE26
     simp only [qpB, qpC] at hE27
     simp only [qZ]
     repeat ((fail_if_success refine sqx ?_); go_step)
     refine wqv (vqL 2 8 hE27 Tryz.underlying41) ?_
     refine wl_step (sqS 5 8 hE27 ?_)
     intro w28 hE28
     clear hE27
     simp only [qpB, qpC] at hE28
     simp only [qZ]
     refine mqC ?_
     repeat ((fail_if_success refine sqx ?_); go_step)
     refine bodyPost_ret (results_ct rfl _ _ _ _ _ (0, 0) _ rfl (hE28.get (i := 5) rfl) Tryz.underlying41 rfl (szqA (n := 8)) rfl) rfl ⟨by rw [← HT.out, if_neg hz, if_neg hq, if_pos hs, ES1.out ho] <;> rfl, hE28.below⟩
    ·skip
     repeat ((fail_if_success refine sqy ?_); go_step)
     refine cqF ?_
     skip
     repeat ((fail_if_success refine sqx ?_); go_step)
     refine wqv (vqL 2 8 hE25 Tryz.underlying41) ?_
     refine wl_step (sqS 5 8 hE25 ?_)
     intro w26 hE26
     clear hE25
     simp only [qpB, qpC] at hE26
     simp only [qZ]
     refine mqC ?_
     repeat ((fail_if_success refine sqx ?_); go_step)
     refine bodyPost_ret (results_ct rfl _ _ _ _ _ (0, 0) _ rfl (hE26.get (i := 5) rfl) Tryz.underlying41 rfl (szqA (n := 8)) rfl) rfl ⟨by rw [← HT.out, if_neg hz, if_neg hq, if_pos hs, ES0.out ho] <;> rfl, hE26.below⟩
   ·rw [decide_eq_false hs]
    repeat ((fail_if_success refine sqy ?_); go_step)
    refine cqT ?_
    skip
    repeat ((fail_if_success refine sqx ?_); go_step)
    refine wqv (v_built (k := .u32) (l := digs 4294967296 8 0) rfl (fun w => by kernel_rfl)) ?_
    refine wl_step (sqS 5 8 hE24 ?_)
    intro w25 hE25
    clear hE24
    simp only [qpB, qpC] at hE25
    simp only [qZ]
    refine mqC ?_
    repeat ((fail_if_success refine sqx ?_); go_step)
    refine bodyPost_ret (results_ct rfl _ _ _ _ _ (0, 0) _ rfl (hE25.get (i := 5) rfl) Tryz.underlying41 rfl (szqA (n := 8)) rfl) rfl ⟨by rw [← HT.out, if_neg hz, if_neg hq, if_neg hs] <;> rfl, hE25.below⟩

theorem rRoot_any {u v : Nat} (hu : u < pN) (hv : v < pN) (w : World) : Gives 44 #[nm u, nm v] w (.tuple #[nm (rootN u v).1, .bool (rootN u v).2]) := by
 have h := rRoot_any' hu hv rfl rfl rfl rfl rfl rfl w
 rw [← rroot_root hu hv]
 have e : (if v = 0 then .tuple #[nm 0, .bool false] else if rrootQ u v ^ ((pN + 3) / 8) % pN * (rrootQ u v ^ ((pN + 3) / 8) % pN) % pN = rrootQ u v then .tuple #[nm (evenN (rrootQ u v ^ ((pN + 3) / 8) % pN)), .bool true]
   else if rrootQ u v ^ ((pN + 3) / 8) % pN * (2 ^ ((pN - 1) / 4) % pN) % pN * (rrootQ u v ^ ((pN + 3) / 8) % pN * (2 ^ ((pN - 1) / 4) % pN) % pN) % pN = rrootQ u v then .tuple #[nm (evenN (rrootQ u v ^ ((pN + 3) / 8) % pN * (2 ^ ((pN - 1) / 4) % pN) % pN)), .bool true] else .tuple #[nm 0, .bool false])
   = (Value.tuple #[nm (rrootN u v).1, .bool (rrootN u v).2] : Value) := by
  unfold rrootN rrootS
  by_cases hz : v = 0
  ·rw [if_pos hz, if_pos hz]
  ·rw [if_neg hz, if_neg hz]
   generalize rrootQ u v ^ ((pN + 3) / 8) % pN = R
   generalize 2 ^ ((pN - 1) / 4) % pN = H
   by_cases h1 : R * R % pN = rrootQ u v
   ·rw [if_pos h1, if_pos h1, if_pos h1]
   ·rw [if_neg h1, if_neg h1]
    by_cases h2 : R * H % pN * (R * H % pN) % pN = rrootQ u v
    ·rw [if_pos h2, if_pos h2]
    ·rw [if_neg h2, if_neg h2]
 rw [← e]
 exact h
end Go.Proofs.YthddoelflmoedaaGreat
namespace Go.Proofs.YthddoelflmoedaaGreat
open Go.RowKit
set_option maxRecDepth 100000

theorem lt_big' {n : Nat} (h : n < pN) : n < big8 := Nat.lt_trans h pN_lt
theorem two_big (m n : Nat) : m % pN + n % pN < big8 := by
 have h1 := Nat.mod_lt m pos_pN
 have h2 := Nat.mod_lt n pos_pN
 have hp : pN + pN < big8 := by decide
 omega

section
variable {a : Act} {w : World} {o : Oper}
theorem v_rpoint {parts : List (Nat × Operand)} {L : List Nat} (rows : List (List Nat)) (hL : rows.flatten = L) (ho : o.op = .build 43 parts.toArray)
  (hp : parts.map (fun p => (p.1, a.eval p.2)) = (rows.map (ints .u32)).zipIdx.map fun x => (x.2, Value.agg x.1)) (hn : rows.length = 3) (hr : ∀ r ∈ rows, r.length = 8) : Val Tryz.prog o a (.agg (ints .u32 L)) w := by
 subst hL
 exact v_buildRows (n := 3) (s := 8) rows ho (by kernel_rfl : _ = some Tryz.t43) Tryz.underlying43 rfl (by kernel_rfl) (by kernel_rfl) hp hn hr
end
def rpL (X Y Z : Nat) : List Nat := [digs 4294967296 8 X, digs 4294967296 8 Y, digs 4294967296 8 Z].flatten
abbrev rp (X Y Z : Nat) : Value := .agg (ints .u32 (rpL X Y Z))
theorem rpL_len (X Y Z : Nat) : (rpL X Y Z).length = 24 := by
 unfold rpL
 simp [digs_length]
theorem rpL_parts (X Y Z : Nat) : ((rpL X Y Z).drop 0).take 8 = digs 4294967296 8 X ∧ ((rpL X Y Z).drop 8).take 8 = digs 4294967296 8 Y ∧ ((rpL X Y Z).drop 16).take 8 = digs 4294967296 8 Z := by
 have hx := nm_len X
 have hy := nm_len Y
 have hz := nm_len Z
 have e : rpL X Y Z = digs 4294967296 8 X ++ (digs 4294967296 8 Y ++ digs 4294967296 8 Z) := by simp [rpL]
 rw [e]
 refine ⟨?_, ?_, ?_⟩
 ·rw [List.drop_zero, List.take_left' hx]
 ·rw [List.drop_left' hx, List.take_left' hy]
 ·rw [show (16 : Nat) = 8 + 8 from rfl, ← List.drop_drop, List.drop_left' hx, List.drop_left' hy, List.take_of_length_le (by omega)]
theorem rows8 (X Y Z : Nat) : ∀ r ∈ [digs 4294967296 8 X, digs 4294967296 8 Y, digs 4294967296 8 Z], r.length = 8 := by
 intro r hr
 simp only [List.mem_cons, List.not_mem_nil, or_false] at hr
 rcases hr with rfl | rfl | rfl <;> exact digs_length _ _ _

theorem d_run : (0 + (pN - 121665)) % pN * (121666 ^ (pN - 2) % pN) % pN = dN := by
 rw [← powM_eq pN 255 121666 (pN - 2) (of_decide_eq_true (by kernel_rfl))]
 kernel_rfl
set_option maxHeartbeats 2000000 in
theorem rD_any (w : World) : Gives 36 #[] w (nm dN) := by
 have h1 := fun w => rSmall_any (n := 121665) (by decide) w
 have h2 := fun w => rSub_any (m := 0) (n := 121665) (by decide) (by decide) w
 have h3 := fun w => rSmall_any (n := 121666) (by decide) w
 have h4 := fun w => rInvert_any (x := 121666) (by decide) w
 have h5 := fun w => rMul_any (m := (0 + (pN - 121665)) % pN) (n := 121666 ^ (pN - 2) % pN) (mod_big _) (mod_big _) w
 rw [d_run] at h5
 obtain ⟨A, hA⟩ : ∃ A, (0 + (pN - 121665)) % pN = A := ⟨_, rfl⟩
 obtain ⟨B, hB⟩ : ∃ B, 121666 ^ (pN - 2) % pN = B := ⟨_, rfl⟩
 rw [hA] at h2 h5
 rw [hB] at h4 h5
 have n1 := nm_len dN
 have H1 := Lib.hid h1
 clear h1
 have H2 := Lib.hid h2
 clear h2
 have H3 := Lib.hid h3
 clear h3
 have H4 := Lib.hid h4
 clear h4
 have H5 := Lib.hid h5
 clear h5
 clear hA hB
 have hE0 := Env.nil w
 go_enter Tryz.func36, Tryz.ntmps36
 repeat ((fail_if_success refine sqx ?_); go_step)
 refine wl_step (sqA (ints .u32 (List.replicate 8 0)) hE0 ?_)
 intro g0 w1 hb1 hE1
 clear hE0
 simp only [qZ]
 repeat ((fail_if_success refine sqx ?_); go_step)
 refine wqv (v_built (k := .u32) (l := digs 4294967296 8 0) rfl (fun w => by kernel_rfl)) ?_
 refine wl_step (st_gives hE1 rfl (run_call rfl Tryz.call42) (H1.out _) ?_)
 intro w2 hb2 hE2
 clear hE1
 simp only [qZ]
 refine wl_step (st_gives hE2 rfl (run_call rfl Tryz.call45) (H2.out _) ?_)
 intro w3 hb3 hE3
 clear hE2
 simp only [qZ]
 refine wl_step (st_gives hE3 rfl (run_call rfl Tryz.call42) (H3.out _) ?_)
 intro w4 hb4 hE4
 clear hE3
 simp only [qZ]
 refine wl_step (st_gives hE4 rfl (run_call rfl Tryz.call59) (H4.out _) ?_)
 intro w5 hb5 hE5
 clear hE4
 simp only [qZ]
 refine wl_step (st_gives hE5 rfl (run_call rfl Tryz.call43) (H5.out _) ?_)
 intro w6 hb6 hE6
 clear hE5
 simp only [qZ]
 refine wl_step (sqS 0 8 hE6 ?_)
 intro w7 hE7
 clear hE6
 simp only [qpB, qpC] at hE7
 simp only [qZ]
 repeat ((fail_if_success refine sqx ?_); go_step)
 refine bodyPost_ret (results_cell_row rfl _ _ _ _ _ (0, 0) _ rfl (hE7.get (i := 0) rfl) Tryz.underlying41 rfl (szqA (n := 8))) rfl ⟨rfl, hE7.below⟩
set_option maxHeartbeats 2000000 in
theorem rZero_any (w : World) : Gives 40 #[] w (rp 0 1 1) := by
 have H1 := Lib.hid (fun w => rSmall_any (n := 1) (by decide) w)
 have l1 := rpL_len 0 1 1
 have hE0 := Env.nil w
 go_enter Tryz.func40, Tryz.ntmps40
 repeat ((fail_if_success refine sqx ?_); go_step)
 refine wl_step (sqA (ints .u32 (List.replicate 24 0)) hE0 ?_)
 intro g0 w1 hb1 hE1
 clear hE0
 simp only [qZ]
 repeat ((fail_if_success refine sqx ?_); go_step)
 refine wqv (v_built (k := .u32) (l := digs 4294967296 8 0) rfl (fun w => by kernel_rfl)) ?_
 refine wl_step (st_gives hE1 rfl (run_call rfl Tryz.call42) (H1.out _) ?_)
 intro w2 hb2 hE2
 clear hE1
 simp only [qZ]
 refine wl_step (st_gives hE2 rfl (run_call rfl Tryz.call42) (H1.out _) ?_)
 intro w3 hb3 hE3
 clear hE2
 simp only [qZ]
 refine wqv (v_rpoint [digs 4294967296 8 0, digs 4294967296 8 1, digs 4294967296 8 1] rfl rfl (by simp only [List.map_cons, List.map_nil, List.zipIdx_cons, List.zipIdx_nil]; rfl) rfl (rows8 0 1 1)) ?_
 refine wl_step (sqS 0 24 hE3 ?_)
 intro w4 hE4
 clear hE3
 simp only [qpB, qpC] at hE4
 simp only [qZ]
 repeat ((fail_if_success refine sqx ?_); go_step)
 refine bodyPost_ret (results_cell_row rfl _ _ _ _ _ (0, 0) _ rfl (hE4.get (i := 0) rfl) Tryz.underlying43 rfl (szqA (n := 24))) rfl ⟨rfl, hE4.below⟩
set_option maxHeartbeats 2000000 in
theorem rNeg_any {X Y Z : Nat} (hX : X < pN) (w : World) : Gives 35 #[rp X Y Z] w (rp ((pN - X) % pN) Y Z) := by
 have h2 := fun w => rSub_any (m := 0) (by decide) hX w
 rw [Nat.zero_add] at h2
 have h3 : ∃ L, [digs 4294967296 8 ((pN - X) % pN), digs 4294967296 8 Y, digs 4294967296 8 Z].flatten = L ∧ L = rpL ((pN - X) % pN) Y Z := ⟨_, rfl, rfl⟩
 obtain ⟨L, hL, hLe⟩ := h3
 have lL := rpL_len ((pN - X) % pN) Y Z
 show Gives _ _ w (.agg (ints .u32 (rpL ((pN - X) % pN) Y Z)))
 rw [← hLe] at lL ⊢
 have h8 := rows8 ((pN - X) % pN) Y Z
 obtain ⟨A, hA⟩ : ∃ A, (pN - X) % pN = A := ⟨_, rfl⟩
 rw [hA] at h2 hL h8
 obtain ⟨p1, p2, p3⟩ := rpL_parts X Y Z
 have l1 := rpL_len X Y Z
 obtain ⟨M, hM⟩ : ∃ M, rpL X Y Z = M := ⟨_, rfl⟩
 show Gives _ #[.agg (ints .u32 (rpL X Y Z))] w _
 rw [hM] at p1 p2 p3 l1 ⊢
 have n1 := nm_len X
 have n2 := nm_len Y
 have n3 := nm_len Z
 have n4 := nm_len A
 have H2 := Lib.hid h2
 have HL := Lib.hid hL
 have H8 := Lib.hid h8
 have P1 := Lib.hid p1
 have P2 := Lib.hid p2
 have P3 := Lib.hid p3
 clear h2 hL h8 p1 p2 p3 hLe hA hM hX
 have hE0 := Env.nil w
 go_enter Tryz.func35, Tryz.ntmps35
 repeat ((fail_if_success refine sqx ?_); go_step)
 refine wl_step (st_boxA hE0 rfl rfl rfl ?_)
 intro g0 w1 hb1 hE1
 clear hE0
 simp only [qZ]
 refine wl_step (sqA (ints .u32 (List.replicate 24 0)) hE1 ?_)
 intro g1 w2 hb2 hE2
 clear hE1
 simp only [qZ]
 repeat ((fail_if_success refine sqx ?_); go_step)
 refine wp_region_B (n := 10) 9 (by kernel_rfl) rfl hE2 ?_
 intro w3 hb3 hE3
 clear hE2
 refine tqB 0 rfl (v_built (k := .u32) (l := digs 4294967296 8 0) rfl (fun w => by kernel_rfl)) ?_
 refine tqB 1 rfl (v_field0 (s := 7) rfl rfl Tryz.underlying43 rfl (by kernel_rfl) rfl) ?_
 refine tqB 2 rfl (v_loadPartE (i := 1) (n := 8) P1.out hE3 rfl rfl rfl Tryz.underlying41 rfl (by kernel_rfl) (by omega)) ?_
 refine tqB 4 rfl (v_fieldB (s := 7) rfl rfl Tryz.underlying43 rfl (by kernel_rfl) rfl) ?_
 refine tqB 5 rfl (v_loadPartE (i := 1) (n := 8) P2.out hE3 rfl rfl rfl Tryz.underlying41 rfl (by kernel_rfl) (by omega)) ?_
 refine tqB 6 rfl (v_fieldB (s := 7) rfl rfl Tryz.underlying43 rfl (by kernel_rfl) rfl) ?_
 refine tqB 7 rfl (v_loadPartE (i := 1) (n := 8) P3.out hE3 rfl rfl rfl Tryz.underlying41 rfl (by kernel_rfl) (by omega)) ?_
 refine sqB 3 rfl (st_gives hE3 rfl (run_call rfl Tryz.call45) (H2.out _) ?_)
 intro w4 hb4 hE4
 clear hE3
 refine ⟨fun _ => hb4, ?_⟩
 simp only [qZ]
 refine tqB 8 rfl (v_rpoint [digs 4294967296 8 A, digs 4294967296 8 Y, digs 4294967296 8 Z] HL.out rfl (by simp only [List.map_cons, List.map_nil, List.zipIdx_cons, List.zipIdx_nil]; rfl) rfl H8.out) ?_
 refine sqB 9 rfl (sqS 0 24 hE4 ?_)
 intro w5 hE5
 clear hE4
 simp only [qpB, qpC] at hE5
 refine nqB ?_
 simp only [qZ]
 refine wpB_done (by kernel_rfl) ?_ _
 repeat ((fail_if_success refine sqx ?_); go_step)
 refine bodyPost_ret (results_cell_row rfl _ _ _ _ _ (0, 0) _ rfl (hE5.get (i := 0) rfl) Tryz.underlying43 rfl (szqA (n := 24))) rfl ⟨rfl, hE5.below⟩

set_option maxRecDepth 100000 in
set_option maxHeartbeats 8000000 in
theorem rPAdd_any {X1 Y1 Z1 X2 Y2 Z2 : Nat} (hX1 : X1 < pN) (hY1 : Y1 < pN) (hZ1 : Z1 < pN) (hX2 : X2 < pN) (hY2 : Y2 < pN) (hZ2 : Z2 < pN) (w : World) :
  Gives 34 #[rp X1 Y1 Z1, rp X2 Y2 Z2, nm dN] w (rp (raX X1 Y1 Z1 X2 Y2 Z2) (raY X1 Y1 Z1 X2 Y2 Z2) (raZ X1 Y1 Z1 X2 Y2 Z2)) := by
 have c1 := fun w => rMul_any (lt_big' hX1) (lt_big' hY2) w
 have c2 := fun w => rMul_any (lt_big' hY1) (lt_big' hX2) w
 have c3 := fun w => rAdd_any (mod_big (X1 * Y2)) (mod_big (Y1 * X2)) (two_big _ _) w
 have c4 := fun w => rMul_any (lt_big' hX1) (lt_big' hX2) w
 have c5 := fun w => rMul_any (lt_big' hY1) (lt_big' hY2) w
 have c6 := fun w => rAdd_any (mod_big (Y1 * Y2)) (mod_big (X1 * X2)) (two_big _ _) w
 have c7 := fun w => rMul_any (lt_big' hZ1) (lt_big' hZ2) w
 have c8 := fun w => rMul_any (mod_big (Z1 * Z2)) (mod_big (Z1 * Z2)) w
 have c9 := fun w => rMul_any (mod_big (X1 * X2)) (mod_big (Y1 * Y2)) w
 have c10 := fun w => rMul_any (m := dN) (by decide) (mod_big (X1 * X2 % pN * (Y1 * Y2 % pN))) w
 have c11 := fun w => rAdd_any (mod_big (Z1 * Z2 % pN * (Z1 * Z2 % pN))) (mod_big (dN * (X1 * X2 % pN * (Y1 * Y2 % pN) % pN))) (two_big _ _) w
 have c12 := fun w => rSub_any (m := Z1 * Z2 % pN * (Z1 * Z2 % pN) % pN) (n := dN * (X1 * X2 % pN * (Y1 * Y2 % pN) % pN) % pN) (Nat.mod_lt _ pos_pN) (Nat.mod_lt _ pos_pN) w
 have eF : raF X1 Y1 Z1 X2 Y2 Z2 = (Z1 * Z2 % pN * (Z1 * Z2 % pN) % pN + dN * (X1 * X2 % pN * (Y1 * Y2 % pN) % pN) % pN) % pN := rfl
 have eG : raG X1 Y1 Z1 X2 Y2 Z2 = (Z1 * Z2 % pN * (Z1 * Z2 % pN) % pN + (pN - dN * (X1 * X2 % pN * (Y1 * Y2 % pN) % pN) % pN)) % pN := rfl
 have hF : raF X1 Y1 Z1 X2 Y2 Z2 < big8 := mod_big _
 have hG : raG X1 Y1 Z1 X2 Y2 Z2 < big8 := mod_big _
 rw [← eF] at c11
 rw [← eG] at c12
 have c13 := fun w => rMul_any (mod_big (X1 * Y2 % pN + Y1 * X2 % pN)) (mod_big (Z1 * Z2)) w
 have c14 := fun w => rMul_any (mod_big ((X1 * Y2 % pN + Y1 * X2 % pN) % pN * (Z1 * Z2 % pN))) hG w
 have c15 := fun w => rMul_any (mod_big (Y1 * Y2 % pN + X1 * X2 % pN)) (mod_big (Z1 * Z2)) w
 have c16 := fun w => rMul_any (mod_big ((Y1 * Y2 % pN + X1 * X2 % pN) % pN * (Z1 * Z2 % pN))) hF w
 have c17 := fun w => rMul_any hF hG w
 have eX : (X1 * Y2 % pN + Y1 * X2 % pN) % pN * (Z1 * Z2 % pN) % pN * raG X1 Y1 Z1 X2 Y2 Z2 % pN = raX X1 Y1 Z1 X2 Y2 Z2 := rfl
 have eY : (Y1 * Y2 % pN + X1 * X2 % pN) % pN * (Z1 * Z2 % pN) % pN * raF X1 Y1 Z1 X2 Y2 Z2 % pN = raY X1 Y1 Z1 X2 Y2 Z2 := rfl
 have eZ : raF X1 Y1 Z1 X2 Y2 Z2 * raG X1 Y1 Z1 X2 Y2 Z2 % pN = raZ X1 Y1 Z1 X2 Y2 Z2 := rfl
 rw [eX] at c14
 rw [eY] at c16
 rw [eZ] at c17
 clear eF eG eX eY eZ hF hG
 obtain ⟨RX, hRX⟩ : ∃ r, raX X1 Y1 Z1 X2 Y2 Z2 = r := ⟨_, rfl⟩
 obtain ⟨RY, hRY⟩ : ∃ r, raY X1 Y1 Z1 X2 Y2 Z2 = r := ⟨_, rfl⟩
 obtain ⟨RZ, hRZ⟩ : ∃ r, raZ X1 Y1 Z1 X2 Y2 Z2 = r := ⟨_, rfl⟩
 obtain ⟨F, hFe⟩ : ∃ r, raF X1 Y1 Z1 X2 Y2 Z2 = r := ⟨_, rfl⟩
 obtain ⟨G, hGe⟩ : ∃ r, raG X1 Y1 Z1 X2 Y2 Z2 = r := ⟨_, rfl⟩
 rw [hRX] at c14 ⊢
 rw [hRY] at c16 ⊢
 rw [hRZ] at c17 ⊢
 rw [hFe] at c11 c16 c17
 rw [hGe] at c12 c14 c17
 obtain ⟨s1, hs1⟩ : ∃ r, X1 * Y2 % pN = r := ⟨_, rfl⟩
 obtain ⟨s2, hs2⟩ : ∃ r, Y1 * X2 % pN = r := ⟨_, rfl⟩
 obtain ⟨xx, hxx⟩ : ∃ r, X1 * X2 % pN = r := ⟨_, rfl⟩
 obtain ⟨yy, hyy⟩ : ∃ r, Y1 * Y2 % pN = r := ⟨_, rfl⟩
 obtain ⟨cz, hcz⟩ : ∃ r, Z1 * Z2 % pN = r := ⟨_, rfl⟩
 rw [hs1] at c1 c3 c13 c14
 rw [hs2] at c2 c3 c13 c14
 rw [hxx] at c4 c6 c9 c10 c11 c12 c15 c16
 rw [hyy] at c5 c6 c9 c10 c11 c12 c15 c16
 rw [hcz] at c7 c8 c11 c12 c13 c14 c15 c16
 obtain ⟨A, hA⟩ : ∃ r, (s1 + s2) % pN = r := ⟨_, rfl⟩
 obtain ⟨B, hB⟩ : ∃ r, (yy + xx) % pN = r := ⟨_, rfl⟩
 obtain ⟨cc, hcc⟩ : ∃ r, cz * cz % pN = r := ⟨_, rfl⟩
 obtain ⟨xy, hxy⟩ : ∃ r, xx * yy % pN = r := ⟨_, rfl⟩
 rw [hA] at c3 c13 c14
 rw [hB] at c6 c15 c16
 rw [hcc] at c8 c11 c12
 rw [hxy] at c9 c10 c11 c12
 obtain ⟨E, hE⟩ : ∃ r, dN * xy % pN = r := ⟨_, rfl⟩
 obtain ⟨ac, hac⟩ : ∃ r, A * cz % pN = r := ⟨_, rfl⟩
 obtain ⟨bc, hbc⟩ : ∃ r, B * cz % pN = r := ⟨_, rfl⟩
 rw [hE] at c10 c11 c12
 rw [hac] at c13 c14
 rw [hbc] at c15 c16
 clear hRX hRY hRZ hFe hGe hs1 hs2 hxx hyy hcz hA hB hcc hxy hE hac hbc hX1 hY1 hZ1 hX2 hY2 hZ2
 obtain ⟨p1, p2, p3⟩ := rpL_parts X1 Y1 Z1
 obtain ⟨q1, q2, q3⟩ := rpL_parts X2 Y2 Z2
 have l1 := rpL_len X1 Y1 Z1
 have l2 := rpL_len X2 Y2 Z2
 have l3 := rpL_len RX RY RZ
 have h8 := rows8 RX RY RZ
 have hL : [digs 4294967296 8 RX, digs 4294967296 8 RY, digs 4294967296 8 RZ].flatten = rpL RX RY RZ := rfl
 show Gives _ #[.agg (ints .u32 (rpL X1 Y1 Z1)), .agg (ints .u32 (rpL X2 Y2 Z2)), _] w (.agg (ints .u32 (rpL RX RY RZ)))
 obtain ⟨M1, hM1⟩ : ∃ M, rpL X1 Y1 Z1 = M := ⟨_, rfl⟩
 obtain ⟨M2, hM2⟩ : ∃ M, rpL X2 Y2 Z2 = M := ⟨_, rfl⟩
 obtain ⟨M3, hM3⟩ : ∃ M, rpL RX RY RZ = M := ⟨_, rfl⟩
 rw [hM1] at p1 p2 p3 l1 ⊢
 rw [hM2] at q1 q2 q3 l2 ⊢
 rw [hM3] at l3 hL ⊢
 clear hM1 hM2 hM3
 have nX1 := nm_len X1
 have nY1 := nm_len Y1
 have nZ1 := nm_len Z1
 have nX2 := nm_len X2
 have nY2 := nm_len Y2
 have nZ2 := nm_len Z2
 have ndN := nm_len dN
 have nRX := nm_len RX
 have nRY := nm_len RY
 have nRZ := nm_len RZ
 have nF := nm_len F
 have nG := nm_len G
 have ns1 := nm_len s1
 have ns2 := nm_len s2
 have nxx := nm_len xx
 have nyy := nm_len yy
 have ncz := nm_len cz
 have nA := nm_len A
 have nB := nm_len B
 have ncc := nm_len cc
 have nxy := nm_len xy
 have nE := nm_len E
 have nac := nm_len ac
 have nbc := nm_len bc
 have C1 := Lib.hid c1
 clear c1
 have C2 := Lib.hid c2
 clear c2
 have C3 := Lib.hid c3
 clear c3
 have C4 := Lib.hid c4
 clear c4
 have C5 := Lib.hid c5
 clear c5
 have C6 := Lib.hid c6
 clear c6
 have C7 := Lib.hid c7
 clear c7
 have C8 := Lib.hid c8
 clear c8
 have C9 := Lib.hid c9
 clear c9
 have C10 := Lib.hid c10
 clear c10
 have C11 := Lib.hid c11
 clear c11
 have C12 := Lib.hid c12
 clear c12
 have C13 := Lib.hid c13
 clear c13
 have C14 := Lib.hid c14
 clear c14
 have C15 := Lib.hid c15
 clear c15
 have C16 := Lib.hid c16
 clear c16
 have C17 := Lib.hid c17
 clear c17
 have Hp1 := Lib.hid p1
 clear p1
 have Hp2 := Lib.hid p2
 clear p2
 have Hp3 := Lib.hid p3
 clear p3
 have Hq1 := Lib.hid q1
 clear q1
 have Hq2 := Lib.hid q2
 clear q2
 have Hq3 := Lib.hid q3
 clear q3
 have HL := Lib.hid hL
 have H8 := Lib.hid h8
 clear hL h8
 have hE0 := Env.nil w
 go_enter Tryz.func34, Tryz.ntmps34
 repeat ((fail_if_success refine sqx ?_); go_step)
 refine wl_step (st_boxA hE0 rfl rfl rfl ?_)
 intro g0 w1 hb1 hE1
 clear hE0
 simp only [qZ]
 refine wl_step (st_boxA hE1 rfl rfl rfl ?_)
 intro g1 w2 hb2 hE2
 clear hE1
 simp only [qZ]
 refine wl_step (st_boxA hE2 rfl rfl rfl ?_)
 intro g2 w3 hb3 hE3
 clear hE2
 simp only [qZ]
 refine wl_step (sqA (ints .u32 (List.replicate 24 0)) hE3 ?_)
 intro g3 w4 hb4 hE4
 clear hE3
 simp only [qZ]
 repeat ((fail_if_success refine sqx ?_); go_step)
 refine wp_region_env 12 (by kernel_rfl) (by kernel_rfl) (fun _ _ d _ _ h => by cases d <;> exact h) hE4 ?_
 refine hqv (fun _ hW => (v_field0 (s := 7) rfl rfl Tryz.underlying43 rfl (by kernel_rfl) rfl)) ?_
 refine hqv (fun _ hW => (v_loadPartE (i := 3) (n := 8) Hp1.out hW rfl rfl rfl Tryz.underlying41 rfl (by kernel_rfl) (by omega))) ?_
 refine hqv (fun _ hW => (v_fieldB (s := 7) rfl rfl Tryz.underlying43 rfl (by kernel_rfl) rfl)) ?_
 refine hqv (fun _ hW => (v_loadPartE (i := 2) (n := 8) Hq2.out hW rfl rfl rfl Tryz.underlying41 rfl (by kernel_rfl) (by omega))) ?_
 refine headRun_call (fun w1 => run_call rfl Tryz.call43) (fun w1 hW => C1.out _) ?_
 simp only [qZ]
 refine hqv (fun _ hW => (v_fieldB (s := 7) rfl rfl Tryz.underlying43 rfl (by kernel_rfl) rfl)) ?_
 refine hqv (fun _ hW => (v_loadPartE (i := 3) (n := 8) Hp2.out hW rfl rfl rfl Tryz.underlying41 rfl (by kernel_rfl) (by omega))) ?_
 refine hqv (fun _ hW => (v_field0 (s := 7) rfl rfl Tryz.underlying43 rfl (by kernel_rfl) rfl)) ?_
 refine hqv (fun _ hW => (v_loadPartE (i := 2) (n := 8) Hq1.out hW rfl rfl rfl Tryz.underlying41 rfl (by kernel_rfl) (by omega))) ?_
 refine headRun_call (fun w1 => run_call rfl Tryz.call43) (fun w1 hW => C2.out _) ?_
 simp only [qZ]
 refine headRun_call (fun w1 => run_call rfl Tryz.call46) (fun w1 hW => C3.out _) ?_
 simp only [qZ]
 refine headRun_alloc (zs := ints .u32 (List.replicate 8 0)) rfl rfl (fun w => by kernel_rfl) ?_
 simp only [qZ]
 refine headRun_nil (endK1 ?_)
 intro g4 w5 hE5
 clear hE4
 simp only [List.drop_succ_cons, List.drop_zero, Act.put, qpA, qpB, qpC]
 refine wl_step (sqS 0 8 hE5 ?_)
 intro w6 hE6
 clear hE5
 simp only [qpB, qpC] at hE6
 simp only [qZ]
 repeat ((fail_if_success refine sqx ?_); go_step)
 refine wp_region_env 12 (by kernel_rfl) (by kernel_rfl) (fun _ _ d _ _ h => by cases d <;> exact h) hE6 ?_
 refine hqv (fun _ hW => (v_field0 (s := 7) rfl rfl Tryz.underlying43 rfl (by kernel_rfl) rfl)) ?_
 refine hqv (fun _ hW => (v_loadPartE (i := 4) (n := 8) Hp1.out hW rfl rfl rfl Tryz.underlying41 rfl (by kernel_rfl) (by omega))) ?_
 refine hqv (fun _ hW => (v_field0 (s := 7) rfl rfl Tryz.underlying43 rfl (by kernel_rfl) rfl)) ?_
 refine hqv (fun _ hW => (v_loadPartE (i := 3) (n := 8) Hq1.out hW rfl rfl rfl Tryz.underlying41 rfl (by kernel_rfl) (by omega))) ?_
 refine headRun_call (fun w1 => run_call rfl Tryz.call43) (fun w1 hW => C4.out _) ?_
 simp only [qZ]
 refine hqv (fun _ hW => (v_fieldB (s := 7) rfl rfl Tryz.underlying43 rfl (by kernel_rfl) rfl)) ?_
 refine hqv (fun _ hW => (v_loadPartE (i := 4) (n := 8) Hp2.out hW rfl rfl rfl Tryz.underlying41 rfl (by kernel_rfl) (by omega))) ?_
 refine hqv (fun _ hW => (v_fieldB (s := 7) rfl rfl Tryz.underlying43 rfl (by kernel_rfl) rfl)) ?_
 refine hqv (fun _ hW => (v_loadPartE (i := 3) (n := 8) Hq2.out hW rfl rfl rfl Tryz.underlying41 rfl (by kernel_rfl) (by omega))) ?_
 refine headRun_call (fun w1 => run_call rfl Tryz.call43) (fun w1 hW => C5.out _) ?_
 simp only [qZ]
 refine headRun_alloc (zs := ints .u32 (List.replicate 8 0)) rfl rfl (fun w => by kernel_rfl) ?_
 simp only [qZ]
 refine headRun_alloc (zs := ints .u32 (List.replicate 8 0)) rfl rfl (fun w => by kernel_rfl) ?_
 simp only [qZ]
 refine headRun_nil (endK2 ?_)
 intro g5 g6 w7 hE7
 clear hE6
 simp only [List.drop_succ_cons, List.drop_zero, Act.put, qpA, qpB, qpC]
 refine wl_step (sqS 0 8 hE7 ?_)
 intro w8 hE8
 clear hE7
 simp only [qpB, qpC] at hE8
 simp only [qZ]
 refine wl_step (sqS 1 8 hE8 ?_)
 intro w9 hE9
 clear hE8
 simp only [qpB, qpC] at hE9
 simp only [qZ]
 repeat ((fail_if_success refine sqx ?_); go_step)
 refine wqv (vqL 1 8 hE9 Tryz.underlying41) ?_
 refine wqv (vqL 0 8 hE9 Tryz.underlying41) ?_
 refine wl_step (st_gives hE9 rfl (run_call rfl Tryz.call46) (C6.out _) ?_)
 intro w10 hb10 hE10
 clear hE9
 simp only [qZ]
 refine wl_step (sqA (ints .u32 (List.replicate 8 0)) hE10 ?_)
 intro g7 w11 hb11 hE11
 clear hE10
 simp only [qZ]
 refine wl_step (sqS 0 8 hE11 ?_)
 intro w12 hE12
 clear hE11
 simp only [qpB, qpC] at hE12
 simp only [qZ]
 repeat ((fail_if_success refine sqx ?_); go_step)
 refine wqv (v_fieldB (s := 7) rfl rfl Tryz.underlying43 rfl (by kernel_rfl) rfl) ?_
 refine wqv (v_loadPartE (i := 7) (n := 8) Hp3.out hE12 rfl rfl rfl Tryz.underlying41 rfl (by kernel_rfl) (by omega)) ?_
 refine wqv (v_fieldB (s := 7) rfl rfl Tryz.underlying43 rfl (by kernel_rfl) rfl) ?_
 refine wqv (v_loadPartE (i := 6) (n := 8) Hq3.out hE12 rfl rfl rfl Tryz.underlying41 rfl (by kernel_rfl) (by omega)) ?_
 refine wl_step (st_gives hE12 rfl (run_call rfl Tryz.call43) (C7.out _) ?_)
 intro w13 hb13 hE13
 clear hE12
 simp only [qZ]
 refine wl_step (sqA (ints .u32 (List.replicate 8 0)) hE13 ?_)
 intro g8 w14 hb14 hE14
 clear hE13
 simp only [qZ]
 refine wl_step (sqS 0 8 hE14 ?_)
 intro w15 hE15
 clear hE14
 simp only [qpB, qpC] at hE15
 simp only [qZ]
 repeat ((fail_if_success refine sqx ?_); go_step)
 refine wqv (vqL 0 8 hE15 Tryz.underlying41) ?_
 refine wqv (vqL 0 8 hE15 Tryz.underlying41) ?_
 refine wl_step (st_gives hE15 rfl (run_call rfl Tryz.call43) (C8.out _) ?_)
 intro w16 hb16 hE16
 clear hE15
 simp only [qZ]
 refine wl_step (sqA (ints .u32 (List.replicate 8 0)) hE16 ?_)
 intro g9 w17 hb17 hE17
 clear hE16
 simp only [qZ]
 refine wl_step (sqS 0 8 hE17 ?_)
 intro w18 hE18
 clear hE17
 simp only [qpB, qpC] at hE18
 simp only [qZ]
 repeat ((fail_if_success refine sqx ?_); go_step)
 refine wp_region_env 6 (by kernel_rfl) (by kernel_rfl) (fun _ _ d _ _ h => by cases d <;> exact h) hE18 ?_
 refine hqv (fun _ hW => (vqL 7 8 hW Tryz.underlying41)) ?_
 refine hqv (fun _ hW => (vqL 3 8 hW Tryz.underlying41)) ?_
 refine hqv (fun _ hW => (vqL 4 8 hW Tryz.underlying41)) ?_
 refine headRun_call (fun w1 => run_call rfl Tryz.call43) (fun w1 hW => C9.out _) ?_
 simp only [qZ]
 refine headRun_call (fun w1 => run_call rfl Tryz.call43) (fun w1 hW => C10.out _) ?_
 simp only [qZ]
 refine headRun_alloc (zs := ints .u32 (List.replicate 8 0)) rfl rfl (fun w => by kernel_rfl) ?_
 simp only [qZ]
 refine headRun_nil (endK1 ?_)
 intro g10 w19 hE19
 clear hE18
 simp only [List.drop_succ_cons, List.drop_zero, Act.put, qpA, qpB, qpC]
 refine wl_step (sqS 0 8 hE19 ?_)
 intro w20 hE20
 clear hE19
 simp only [qpB, qpC] at hE20
 simp only [qZ]
 repeat ((fail_if_success refine sqx ?_); go_step)
 refine wp_region_env 8 (by kernel_rfl) (by kernel_rfl) (fun _ _ d _ _ h => by cases d <;> exact h) hE20 ?_
 refine hqv (fun _ hW => (vqL 1 8 hW Tryz.underlying41)) ?_
 refine hqv (fun _ hW => (vqL 0 8 hW Tryz.underlying41)) ?_
 refine headRun_call (fun w1 => run_call rfl Tryz.call46) (fun w1 hW => C11.out _) ?_
 simp only [qZ]
 refine hqv (fun _ hW => (vqL 1 8 hW Tryz.underlying41)) ?_
 refine hqv (fun _ hW => (vqL 0 8 hW Tryz.underlying41)) ?_
 refine headRun_call (fun w1 => run_call rfl Tryz.call45) (fun w1 hW => C12.out _) ?_
 simp only [qZ]
 refine headRun_alloc (zs := ints .u32 (List.replicate 8 0)) rfl rfl (fun w => by kernel_rfl) ?_
 simp only [qZ]
 refine headRun_alloc (zs := ints .u32 (List.replicate 8 0)) rfl rfl (fun w => by kernel_rfl) ?_
 simp only [qZ]
 refine headRun_nil (endK2 ?_)
 intro g11 g12 w21 hE21
 clear hE20
 simp only [List.drop_succ_cons, List.drop_zero, Act.put, qpA, qpB, qpC]
 refine wl_step (sqS 0 8 hE21 ?_)
 intro w22 hE22
 clear hE21
 simp only [qpB, qpC] at hE22
 simp only [qZ]
 refine wl_step (sqS 1 8 hE22 ?_)
 intro w23 hE23
 clear hE22
 simp only [qpB, qpC] at hE23
 simp only [qZ]
 repeat ((fail_if_success refine sqx ?_); go_step)
 refine wp_region_B (n := 15) 14 (by kernel_rfl) rfl hE23 ?_
 intro w24 hb24 hE24
 clear hE23
 refine tqB 0 rfl (vqL 8 8 hE24 Tryz.underlying41) ?_
 refine tqB 1 rfl (vqL 4 8 hE24 Tryz.underlying41) ?_
 refine tqB 3 rfl (vqL 1 8 hE24 Tryz.underlying41) ?_
 refine tqB 5 rfl (vqL 5 8 hE24 Tryz.underlying41) ?_
 refine tqB 6 rfl (vqL 4 8 hE24 Tryz.underlying41) ?_
 refine tqB 8 rfl (vqL 0 8 hE24 Tryz.underlying41) ?_
 refine tqB 10 rfl (vqL 0 8 hE24 Tryz.underlying41) ?_
 refine tqB 11 rfl (vqL 1 8 hE24 Tryz.underlying41) ?_
 refine sqB 2 rfl (st_gives hE24 rfl (run_call rfl Tryz.call43) (C13.out _) ?_)
 intro w25 hb25 hE25
 clear hE24
 refine ⟨fun _ => hb25, ?_⟩
 simp only [qZ]
 refine sqB 4 rfl (st_gives hE25 rfl (run_call rfl Tryz.call43) (C14.out _) ?_)
 intro w26 hb26 hE26
 clear hE25
 refine ⟨fun _ => hb26, ?_⟩
 simp only [qZ]
 refine sqB 7 rfl (st_gives hE26 rfl (run_call rfl Tryz.call43) (C15.out _) ?_)
 intro w27 hb27 hE27
 clear hE26
 refine ⟨fun _ => hb27, ?_⟩
 simp only [qZ]
 refine sqB 9 rfl (st_gives hE27 rfl (run_call rfl Tryz.call43) (C16.out _) ?_)
 intro w28 hb28 hE28
 clear hE27
 refine ⟨fun _ => hb28, ?_⟩
 simp only [qZ]
 refine sqB 12 rfl (st_gives hE28 rfl (run_call rfl Tryz.call43) (C17.out _) ?_)
 intro w29 hb29 hE29
 clear hE28
 refine ⟨fun _ => hb29, ?_⟩
 simp only [qZ]
 refine tqB 13 rfl (v_rpoint [digs 4294967296 8 RX, digs 4294967296 8 RY, digs 4294967296 8 RZ] HL.out rfl (by simp only [List.map_cons, List.map_nil, List.zipIdx_cons, List.zipIdx_nil]; rfl) rfl H8.out) ?_
 refine sqB 14 rfl (sqS 9 24 hE29 ?_)
 intro w30 hE30
 clear hE29
 simp only [qpB, qpC] at hE30
 refine nqB ?_
 simp only [qZ]
 refine wpB_done (by kernel_rfl) ?_ _
 repeat ((fail_if_success refine sqx ?_); go_step)
 refine bodyPost_ret (results_cell_row rfl _ _ _ _ _ (0, 0) _ rfl (hE30.get (i := 9) rfl) Tryz.underlying43 rfl (szqA (n := 24))) rfl ⟨rfl, hE30.below⟩

set_option maxRecDepth 100000 in
set_option maxHeartbeats 4000000 in
theorem rPBytes_any {X Y Z : Nat} {P : Pt} (h : RRep X Y Z P) (w : World) : Gives 21 #[rp X Y Z] w (.agg (ints .u8 (encB P))) := by
 have hI := fun w => rInvert_any h.lz w
 have hi : kk pN Z * kk pN (Z ^ (pN - 2) % pN) = 1 := by
  rw [kk_mod, kk_pow]
  exact K_inv h.nz
 have hM1 := fun w => rMul_any (lt_big' h.ly) (mod_big (Z ^ (pN - 2))) w
 have hM2 := fun w => rMul_any (lt_big' h.lx) (mod_big (Z ^ (pN - 2))) w
 have e1 : Y * (Z ^ (pN - 2) % pN) % pN = P.y.val := val_kk (by rw [kk_mul]; exact K_quot h.ey hi)
 have e2 : X * (Z ^ (pN - 2) % pN) % pN = P.x.val := val_kk (by rw [kk_mul]; exact K_quot h.ex hi)
 rw [e1] at hM1
 rw [e2] at hM2
 have hB := fun w => rBytes_any (lt_big' P.y.isLt) w
 have hO := fun w => rOdd_any (lt_big' P.x.isLt) w
 have hY := lt_half P.y.isLt
 have he : encB P = digs 256 32 (P.y.val + 57896044618658097711785492504343953926634992332820282019728792003956564819968 * (P.x.val % 2)) := rfl
 rw [he]
 obtain ⟨I, hIe⟩ : ∃ I, Z ^ (pN - 2) % pN = I := ⟨_, rfl⟩
 rw [hIe] at hI hM1 hM2
 obtain ⟨y, hYe⟩ : ∃ Y, P.y.val = Y := ⟨_, rfl⟩
 obtain ⟨x, hXe⟩ : ∃ X, P.x.val = X := ⟨_, rfl⟩
 rw [hYe] at hB hM1 hY ⊢
 rw [hXe] at hO hM2 ⊢
 obtain ⟨ht, htl⟩ := top_digit hY
 have hs := set_top hY
 obtain ⟨T, hT⟩ : ∃ T, y / 256 ^ 31 = T := ⟨_, rfl⟩
 rw [hT] at ht hs htl
 have hT8 : T < 256 := by omega
 have hw : IntKind.u8.wrap ((T + 128 : Nat) : Int) = ((T + 128 : Nat) : Int) := w_u8 (by omega)
 clear e1 e2 he hIe hYe hXe hT hY hi h
 obtain ⟨p1, p2, p3⟩ := rpL_parts X Y Z
 have l1 := rpL_len X Y Z
 show Gives _ #[.agg (ints .u32 (rpL X Y Z))] w _
 obtain ⟨M1, hM1e⟩ : ∃ M, rpL X Y Z = M := ⟨_, rfl⟩
 rw [hM1e] at p1 p2 p3 l1 ⊢
 have n1 := nm_len X
 have n2 := nm_len Y
 have n3 := nm_len Z
 have n4 := nm_len I
 have hdY := digs_length 256 32 y
 have Hp1 := Lib.hid p1
 clear p1
 have Hp2 := Lib.hid p2
 clear p2
 have Hp3 := Lib.hid p3
 clear p3
 have HhI := Lib.hid hI
 clear hI
 have HhM1 := Lib.hid hM1
 clear hM1
 have HhM2 := Lib.hid hM2
 clear hM2
 have HhB := Lib.hid hB
 clear hB
 have HhO := Lib.hid hO
 clear hO
 have Hht := Lib.hid ht
 clear ht
 have Hhs := Lib.hid hs
 clear hs
 have Hhw := Lib.hid hw
 clear hw
 clear hM1e
 have hE0 := Env.nil w
 go_enter Tryz.func21, Tryz.ntmps21
 repeat ((fail_if_success refine sqx ?_); go_step)
 refine wl_step (st_boxA hE0 rfl rfl rfl ?_)
 intro g0 w1 hb1 hE1
 clear hE0
 simp only [qZ]
 refine wl_step (sqA (ints .u8 (List.replicate 32 0)) hE1 ?_)
 intro g1 w2 hb2 hE2
 clear hE1
 simp only [qZ]
 repeat ((fail_if_success refine sqx ?_); go_step)
 refine wqv (v_fieldB (s := 7) rfl rfl Tryz.underlying43 rfl (by kernel_rfl) rfl) ?_
 refine wqv (v_loadPartE (i := 1) (n := 8) Hp3.out hE2 rfl rfl rfl Tryz.underlying41 rfl (by kernel_rfl) (by omega)) ?_
 refine wl_step (st_gives hE2 rfl (run_call rfl Tryz.call59) (HhI.out _) ?_)
 intro w3 hb3 hE3
 clear hE2
 simp only [qZ]
 refine wl_step (sqA (ints .u32 (List.replicate 8 0)) hE3 ?_)
 intro g2 w4 hb4 hE4
 clear hE3
 simp only [qZ]
 refine wl_step (sqS 0 8 hE4 ?_)
 intro w5 hE5
 clear hE4
 simp only [qpB, qpC] at hE5
 simp only [qZ]
 repeat ((fail_if_success refine sqx ?_); go_step)
 refine wqv (v_fieldB (s := 7) rfl rfl Tryz.underlying43 rfl (by kernel_rfl) rfl) ?_
 refine wqv (v_loadPartE (i := 2) (n := 8) Hp2.out hE5 rfl rfl rfl Tryz.underlying41 rfl (by kernel_rfl) (by omega)) ?_
 refine wqv (vqL 0 8 hE5 Tryz.underlying41) ?_
 refine wl_step (st_gives hE5 rfl (run_call rfl Tryz.call43) (HhM1.out _) ?_)
 intro w6 hb6 hE6
 clear hE5
 simp only [qZ]
 refine wl_step (st_gives hE6 rfl (run_call rfl Tryz.call60) (HhB.out _) ?_)
 intro w7 hb7 hE7
 clear hE6
 simp only [qZ]
 refine wl_step (sqA (ints .u8 (List.replicate 32 0)) hE7 ?_)
 intro g3 w8 hb8 hE8
 clear hE7
 simp only [qZ]
 refine wl_step (sqS 0 32 hE8 ?_)
 intro w9 hE9
 clear hE8
 simp only [qpB, qpC] at hE9
 simp only [qZ]
 repeat ((fail_if_success refine sqx ?_); go_step)
 refine wqv (v_field0 (s := 7) rfl rfl Tryz.underlying43 rfl (by kernel_rfl) rfl) ?_
 refine wqv (v_loadPartE (i := 3) (n := 8) Hp1.out hE9 rfl rfl rfl Tryz.underlying41 rfl (by kernel_rfl) (by omega)) ?_
 refine wqv (vqL 1 8 hE9 Tryz.underlying41) ?_
 refine wl_step (st_gives hE9 rfl (run_call rfl Tryz.call43) (HhM2.out _) ?_)
 intro w10 hb10 hE10
 clear hE9
 simp only [qZ]
 refine wl_step (st_gives hE10 rfl (run_call rfl Tryz.call61) (HhO.out _) ?_)
 intro w11 hb11 hE11
 clear hE10
 simp only [qZ]
 repeat ((fail_if_success refine sqy ?_); go_step)
 by_cases ho : x % 2 = 1
 ·skip
  repeat ((fail_if_success refine sqy ?_); go_step)
  refine cqT ?_
  skip
  repeat ((fail_if_success refine sqx ?_); go_step)
  refine wqv (vqI (j := 31) Tryz.underlying22) ?_
  refine wqv (vqC 0 hE11 Tryz.underlying5) ?_
  rw [Hht.out]
  refine wqv (v_add rfl rfl rfl Hhw.out) ?_
  refine wqv (vqI (j := 31) Tryz.underlying22) ?_
  refine wl_step (st_putN (i := 0) hE11 rfl rfl rfl rfl rfl (by kernel_rfl) (by first | assumption | omega | (simp only [List.length_set, List.length_replicate]; first | assumption | omega)) ?_)
  intro w12 hE12
  clear hE11
  simp only [qpB, qpC] at hE12
  simp only [qZ]
  rw [Hhs.out] at hE12
  repeat ((fail_if_success refine sqx ?_); go_step)
  refine wqv (vqL 0 32 hE12 Tryz.underlying22) ?_
  refine wl_step (sqS 2 32 hE12 ?_)
  intro w13 hE13
  clear hE12
  simp only [qpB, qpC] at hE13
  simp only [qZ]
  repeat ((fail_if_success refine sqx ?_); go_step)
  refine bodyPost_ret (results_cell_row rfl _ _ _ _ _ (0, 0) _ rfl (hE13.get (i := 2) rfl) Tryz.underlying22 rfl (szqA (n := 32))) rfl ⟨by rw [ho, Nat.mul_one] <;> rfl, hE13.below⟩
 ·have h0 : x % 2 = 0 := by omega
  repeat ((fail_if_success refine sqy ?_); go_step)
  refine cqF ?_
  skip
  repeat ((fail_if_success refine sqx ?_); go_step)
  refine wqv (vqL 0 32 hE11 Tryz.underlying22) ?_
  refine wl_step (sqS 2 32 hE11 ?_)
  intro w12 hE12
  clear hE11
  simp only [qpB, qpC] at hE12
  simp only [qZ]
  repeat ((fail_if_success refine sqx ?_); go_step)
  refine bodyPost_ret (results_cell_row rfl _ _ _ _ _ (0, 0) _ rfl (hE12.get (i := 2) rfl) Tryz.underlying22 rfl (szqA (n := 32))) rfl ⟨by rw [h0, Nat.mul_zero, Nat.add_zero] <;> rfl, hE12.below⟩
end Go.Proofs.YthddoelflmoedaaGreat
namespace Go.Proofs.YthddoelflmoedaaGreat
open Go.RowKit
set_option maxRecDepth 100000

abbrev P3 := Nat × Nat × Nat
def add3 (p q : P3) : P3 := (raX p.1 p.2.1 p.2.2 q.1 q.2.1 q.2.2, raY p.1 p.2.1 p.2.2 q.1 q.2.1 q.2.2, raZ p.1 p.2.1 p.2.2 q.1 q.2.1 q.2.2)
def R3 (p : P3) (P : Pt) : Prop := RRep p.1 p.2.1 p.2.2 P
abbrev rv (p : P3) : Value := rp p.1 p.2.1 p.2.2
theorem add3_ok {p q : P3} {P Q : Pt} (h : R3 p P) (h' : R3 q Q) : R3 (add3 p q) (padd P Q) := ra_ok h h'
theorem add3_any {p q : P3} {P Q : Pt} (h : R3 p P) (h' : R3 q Q) (w : World) : Gives 34 #[rv p, rv q, nm dN] w (rv (add3 p q)) := rPAdd_any h.lx h.ly h.lz h'.lx h'.ly h'.lz w
def dbl3 (p : P3) : Nat → P3
 | 0 => p
 | k + 1 => add3 (dbl3 p k) (dbl3 p k)
def out3 (N : Nat) (p : P3) : Nat → P3
 | 0 => (0, 1, 1)
 | k + 1 => if N / 2 ^ k % 2 = 1 then add3 (out3 N p k) (dbl3 p k) else out3 N p k
theorem dbl3_ok {p : P3} {P : Pt} (h : R3 p P) : ∀ k, R3 (dbl3 p k) (smul (2 ^ k) P)
 | 0 => by
  rw [Nat.pow_zero, smul_one]
  exact h
 | k + 1 => by
  rw [Nat.pow_succ, Nat.mul_comm, smul_two]
  exact add3_ok (dbl3_ok h k) (dbl3_ok h k)
theorem out3_ok {p : P3} {P : Pt} (h : R3 p P) (N : Nat) : ∀ k, R3 (out3 N p k) (smul (N % 2 ^ k) P)
 | 0 => by
  rw [Nat.pow_zero, Nat.mod_one]
  exact RRep_zero
 | k + 1 => by
  have e : N % 2 ^ (k + 1) = N % 2 ^ k + 2 ^ k * (N / 2 ^ k % 2) := by rw [Nat.pow_succ, Nat.mod_mul]
  unfold out3
  by_cases h1 : N / 2 ^ k % 2 = 1
  ·rw [if_pos h1, e, h1, Nat.mul_one, smul_add]
   exact add3_ok (out3_ok h N k) (dbl3_ok h k)
  ·have h0 : N / 2 ^ k % 2 = 0 := by omega
   rw [if_neg h1, e, h0, Nat.mul_zero, Nat.add_zero]
   exact out3_ok h N k
theorem bit_byte {b : List Nat} (db : Digs 256 b) (i : Nat) : b.getD (i / 8) 0 / 2 ^ (i % 8) % 2 = val 256 b / 2 ^ i % 2 := by
 rw [← val_div_mod db (by decide), show (256 : Nat) = 2 ^ 8 from rfl, ← Nat.pow_mul, mod_pow_div_mod (B := 2) _ 8 (i % 8) (Nat.mod_lt _ (by decide)), Nat.div_div_eq_div_mul, ← Nat.pow_add, show 8 * (i / 8) + i % 8 = i by omega]

set_option maxRecDepth 100000 in
set_option maxHeartbeats 8000000 in
theorem rPMul_walk {p : P3} {b : List Nat} {P : Pt} (h : R3 p P) (hb : b.length = 32) (db : Digs 256 b) (w : World) : Gives 22 #[rv p, .agg (ints .u8 b)] w (rv (out3 (val 256 b) p 256)) := by
 have Hbit := Lib.hid (fun j => bit_byte db j)
 have Hbyte := Lib.hid (fun j => db.getD (by decide) j)
 obtain ⟨N, hNe⟩ : ∃ N, val 256 b = N := ⟨_, rfl⟩
 rw [hNe] at Hbit ⊢
 have Hd := Lib.hid (fun k => dbl3_ok h k)
 have Ho := Lib.hid (fun k => out3_ok h N k)
 have HD := Lib.hid (fun w => rD_any w)
 have HZ := Lib.hid (fun w => rZero_any w)
 have n1 := nm_len dN
 have l1 := rpL_len p.1 p.2.1 p.2.2
 have l2 := rpL_len 0 1 1
 clear h db hNe
 have hE0 := Env.nil w
 go_enter Tryz.func22, Tryz.ntmps22
 repeat ((fail_if_success refine sqx ?_); go_step)
 refine wl_step (st_boxA hE0 rfl rfl rfl ?_)
 intro g0 w1 hb1 hE1
 clear hE0
 simp only [qZ]
 refine wl_step (st_boxA hE1 rfl rfl rfl ?_)
 intro g1 w2 hb2 hE2
 clear hE1
 simp only [qZ]
 refine wl_step (sqA (ints .u32 (List.replicate 24 0)) hE2 ?_)
 intro g2 w3 hb3 hE3
 clear hE2
 simp only [qZ]
 repeat ((fail_if_success refine sqx ?_); go_step)
 refine wl_step (st_gives hE3 rfl (run_call rfl Tryz.call36) (HD.out _) ?_)
 intro w4 hb4 hE4
 clear hE3
 simp only [qZ]
 refine wl_step (sqA (ints .u32 (List.replicate 8 0)) hE4 ?_)
 intro g3 w5 hb5 hE5
 clear hE4
 simp only [qZ]
 refine wl_step (sqS 0 8 hE5 ?_)
 intro w6 hE6
 clear hE5
 simp only [qpB, qpC] at hE6
 simp only [qZ]
 repeat ((fail_if_success refine sqx ?_); go_step)
 refine wl_step (st_gives hE6 rfl (run_call rfl Tryz.call40) (HZ.out _) ?_)
 intro w7 hb7 hE7
 clear hE6
 simp only [qZ]
 refine wl_step (sqA (ints .u32 (List.replicate 24 0)) hE7 ?_)
 intro g4 w8 hb8 hE8
 clear hE7
 simp only [qZ]
 refine wl_step (sqS 0 24 hE8 ?_)
 intro w9 hE9
 clear hE8
 simp only [qpB, qpC] at hE9
 simp only [qZ]
 repeat ((fail_if_success refine sqx ?_); go_step)
 refine mqC ?_
 go_wp2
 go_loopw [7] (fun i wr => ∃ K : Nat, K ≤ 256 ∧ i = .int .i64 K ∧ Env w [⟨g4, 43, ints .u32 (rpL (out3 N p K).1 (out3 N p K).2.1 (out3 N p K).2.2)⟩, ⟨g3, 41, ints .u32 (digs 4294967296 8 dN)⟩, ⟨g2, 43, ints .u32 (List.replicate 24 0)⟩, ⟨g1, 22, ints .u8 b⟩, ⟨g0, 43, ints .u32 (rpL (dbl3 p K).1 (dbl3 p K).2.1 (dbl3 p K).2.2)⟩] wr) (fun i _ => 256 - (intOf i).toNat)
 case atStart => exact ⟨0, Nat.zero_le _, rfl, hE9⟩
 case round =>
  clear hE9
  obtain ⟨K, hK, rfl, hE0⟩ := hrel
  have ld := rpL_len (dbl3 p K).1 (dbl3 p K).2.1 (dbl3 p K).2.2
  have lo := rpL_len (out3 N p K).1 (out3 N p K).2.1 (out3 N p K).2.2
  by_cases hlt : K < 256
  ·have hd := Hd.out K
   have ho := Ho.out K
   have ga := Lib.hid (fun w => add3_any ho hd w)
   have gd := Lib.hid (fun w => add3_any hd hd w)
   have ed : dbl3 p (K + 1) = add3 (dbl3 p K) (dbl3 p K) := rfl
   have eo : out3 N p (K + 1) = if N / 2 ^ K % 2 = 1 then add3 (out3 N p K) (dbl3 p K) else out3 N p K := rfl
   obtain ⟨D, hD⟩ : ∃ D, dbl3 p K = D := ⟨_, rfl⟩
   obtain ⟨O, hO⟩ : ∃ O, out3 N p K = O := ⟨_, rfl⟩
   rw [hD] at hE0 ld hd ga gd ed eo
   rw [hO] at hE0 lo ho ga eo
   obtain ⟨DD, hDD⟩ : ∃ D', add3 D D = D' := ⟨_, rfl⟩
   obtain ⟨OD, hOD⟩ : ∃ D', add3 O D = D' := ⟨_, rfl⟩
   rw [hDD] at gd ed
   rw [hOD] at ga eo
   have lDD := rpL_len DD.1 DD.2.1 DD.2.2
   have lOD := rpL_len OD.1 OD.2.1 OD.2.2
   obtain ⟨d1, d2, d3⟩ := D
   obtain ⟨o1, o2, o3⟩ := O
   obtain ⟨e1, e2, e3⟩ := DD
   obtain ⟨f1, f2, f3⟩ := OD
   simp only at hE0 ld lo lDD lOD
   have GA : Hid (∀ w, Gives 34 #[.agg (ints .u32 (rpL o1 o2 o3)), .agg (ints .u32 (rpL d1 d2 d3)), nm dN] w (.agg (ints .u32 (rpL f1 f2 f3)))) := ga
   have GD : Hid (∀ w, Gives 34 #[.agg (ints .u32 (rpL d1 d2 d3)), .agg (ints .u32 (rpL d1 d2 d3)), nm dN] w (.agg (ints .u32 (rpL e1 e2 e3)))) := gd
   have hb1 := Hbit.out K
   have hb2 := Hbyte.out (K / 8)
   have hi : K / 8 < b.length := by omega
   have hi' : K / 8 < 32 := by omega
   obtain ⟨c, hc⟩ : ∃ c, b.getD (K / 8) 0 = c := ⟨_, rfl⟩
   rw [hc] at hb1 hb2
   have h9 : K % 8 ≤ IntKind.u8.bits := by simp only [IntKind.bits]; omega
   have HC := Lib.hid hc
   have Ed := Lib.hid ed
   clear hc hD hO hDD hOD ed ga gd hd ho
   by_cases h1 : N / 2 ^ K % 2 = 1
   ·rw [if_pos h1] at eo
    have Eo := Lib.hid eo
    have HB := Lib.hid (decide_eq_true (show c / 2 ^ (K % 8) % 2 = 1 by rw [hb1]; exact h1))
    clear eo h1 hb1
    repeat ((fail_if_success refine sqx ?_); go_step)
    refine mqA ?_
    refine wqv (v_lss (n := 256) rfl rfl rfl) ?_
    repeat ((fail_if_success refine sqx ?_); go_step)
    refine mqA ?_
    refine wqv (v_quo (n := 8) rfl rfl rfl (by omega) (w_i64 (by omega))) ?_
    refine wqv (vqI Tryz.underlying22) ?_
    refine wqv (vqC 3 hE0 Tryz.underlying5) ?_
    rw [HC.out]
    refine mqA ?_
    refine wqv (v_rem (n := 8) rfl rfl rfl (by omega)) ?_
    refine wqv (v_shr rfl rfl rfl h9) ?_
    refine wqv (v_rem (n := 2) rfl rfl rfl (by omega)) ?_
    refine wqv (v_eql (n := 1) rfl rfl rfl) ?_
    rw [HB.out]
    repeat ((fail_if_success refine sqy ?_); go_step)
    refine cqT ?_
    skip
    repeat ((fail_if_success refine sqx ?_); go_step)
    refine wqv (vqL 0 24 hE0 Tryz.underlying43) ?_
    refine wqv (vqL 4 24 hE0 Tryz.underlying43) ?_
    refine wqv (vqL 1 8 hE0 Tryz.underlying41) ?_
    refine wl_step (st_gives hE0 rfl (run_call rfl Tryz.call34) (GA.out _) ?_)
    intro w1 hb1 hE1
    clear hE0
    simp only [qZ]
    refine wl_step (sqS 0 24 hE1 ?_)
    intro w2 hE2
    clear hE1
    simp only [qpB, qpC] at hE2
    simp only [qZ]
    repeat ((fail_if_success refine sqx ?_); go_step)
    refine wqv (vqL 4 24 hE2 Tryz.underlying43) ?_
    refine wqv (vqL 4 24 hE2 Tryz.underlying43) ?_
    refine wqv (vqL 1 8 hE2 Tryz.underlying41) ?_
    refine wl_step (st_gives hE2 rfl (run_call rfl Tryz.call34) (GD.out _) ?_)
    intro w3 hb3 hE3
    clear hE2
    simp only [qZ]
    refine wl_step (sqS 4 24 hE3 ?_)
    intro w4 hE4
    clear hE3
    simp only [qpB, qpC] at hE4
    simp only [qZ]
    repeat ((fail_if_success refine sqx ?_); go_step)
    refine mqA ?_
    refine wqv (v_add (n := 1) rfl rfl rfl (w_i64 (by omega))) ?_
    refine mqB ?_
    go_wp2
    go_roundw
    case rel => exact ⟨K + 1, by omega, rfl, by rw [Eo.out, Ed.out]; exact hE4⟩
    case measure => simp [intOf]; omega
   ·rw [if_neg h1] at eo
    have Eo := Lib.hid eo
    have HB := Lib.hid (decide_eq_false (show ¬ c / 2 ^ (K % 8) % 2 = 1 by rw [hb1]; exact h1))
    clear eo h1 hb1
    repeat ((fail_if_success refine sqx ?_); go_step)
    refine mqA ?_
    refine wqv (v_lss (n := 256) rfl rfl rfl) ?_
    repeat ((fail_if_success refine sqx ?_); go_step)
    refine mqA ?_
    refine wqv (v_quo (n := 8) rfl rfl rfl (by omega) (w_i64 (by omega))) ?_
    refine wqv (vqI Tryz.underlying22) ?_
    refine wqv (vqC 3 hE0 Tryz.underlying5) ?_
    rw [HC.out]
    refine mqA ?_
    refine wqv (v_rem (n := 8) rfl rfl rfl (by omega)) ?_
    refine wqv (v_shr rfl rfl rfl h9) ?_
    refine wqv (v_rem (n := 2) rfl rfl rfl (by omega)) ?_
    refine wqv (v_eql (n := 1) rfl rfl rfl) ?_
    rw [HB.out]
    repeat ((fail_if_success refine sqy ?_); go_step)
    refine cqF ?_
    skip
    repeat ((fail_if_success refine sqx ?_); go_step)
    refine wqv (vqL 4 24 hE0 Tryz.underlying43) ?_
    refine wqv (vqL 4 24 hE0 Tryz.underlying43) ?_
    refine wqv (vqL 1 8 hE0 Tryz.underlying41) ?_
    refine wl_step (st_gives hE0 rfl (run_call rfl Tryz.call34) (GD.out _) ?_)
    intro w1 hb1 hE1
    clear hE0
    simp only [qZ]
    refine wl_step (sqS 4 24 hE1 ?_)
    intro w2 hE2
    clear hE1
    simp only [qpB, qpC] at hE2
    simp only [qZ]
    repeat ((fail_if_success refine sqx ?_); go_step)
    refine mqA ?_
    refine wqv (v_add (n := 1) rfl rfl rfl (w_i64 (by omega))) ?_
    refine mqB ?_
    go_wp2
    go_roundw
    case rel => exact ⟨K + 1, by omega, rfl, by rw [Eo.out, Ed.out]; exact hE2⟩
    case measure => simp [intOf]; omega
  ·have hK' : K = 256 := by omega
   subst hK'
   repeat ((fail_if_success refine sqx ?_); go_step)
   refine mqA ?_
   refine wqv (v_lss (n := 256) rfl rfl rfl) ?_
   repeat ((fail_if_success refine sqx ?_); go_step)
   refine wqv (vqL 0 24 hE0 Tryz.underlying43) ?_
   refine wl_step (sqS 2 24 hE0 ?_)
   intro w1 hE1
   clear hE0
   simp only [qpB, qpC] at hE1
   simp only [qZ]
   repeat ((fail_if_success refine sqx ?_); go_step)
   refine bodyPost_ret (results_cell_row rfl _ _ _ _ _ (0, 0) _ rfl (hE1.get (i := 2) rfl) Tryz.underlying43 rfl (szqA (n := 24))) rfl ⟨rfl, hE1.below⟩
theorem rPMul_any {p : P3} {b : List Nat} {P : Pt} (h : R3 p P) (hb : b.length = 32) (db : Digs 256 b) : ∃ r, R3 r (smul (val 256 b) P) ∧ ∀ w, Gives 22 #[rv p, .agg (ints .u8 b)] w (rv r) := by
 have h1 := out3_ok h (val 256 b) 256
 rw [Nat.mod_eq_of_lt (show val 256 b < 2 ^ 256 by have := val_lt db; rw [hb] at this; exact this)] at h1
 exact ⟨_, h1, fun w => rPMul_walk h hb db w⟩
end Go.Proofs.YthddoelflmoedaaGreat
namespace Go.Proofs.YthddoelflmoedaaGreat
open Go.RowKit
set_option maxRecDepth 100000

end Go.Proofs.YthddoelflmoedaaGreat
