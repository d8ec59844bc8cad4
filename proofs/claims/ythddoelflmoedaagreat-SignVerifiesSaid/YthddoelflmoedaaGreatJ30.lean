/-
  Layer 3, the document's: the sum of bytes.
  Layer 3, the document's: the greater sum, as an array.
  Layer 6: the point of bytes.
  Layer 4, the document's answer: numbers of eight digits: which is less; a difference; the number below p; bytes.
-/
import Derived.Test.YthddoelflmoedaaGreatJ12
import Derived.Test.YthddoelflmoedaaGreatJ14
import Derived.Test.YthddoelflmoedaaGreatJ28
import Derived.Test.YthddoelflmoedaaGreatJ29
set_option linter.unusedVariables false
set_option linter.unusedSimpArgs false
namespace Go.Proofs.YthddoelflmoedaaGreat
open Go.RowKit
set_option maxRecDepth 100000

def tailL (r x : Nat) : List Nat := List.replicate (r - 8) 0 ++ beD 8 x
theorem tailL_len {r : Nat} (hr : 8 ≤ r) (x : Nat) : (tailL r x).length = r := by
 unfold tailL
 rw [List.length_append, List.length_replicate, beD_len]
 omega
theorem tailL_hi {r x K : Nat} (hK : 8 ≤ K) (hKr : K < r) : (tailL r x).getD (r - (K + 1)) 0 = 0 := by
 unfold tailL
 rw [List.getD_eq_getElem?_getD, List.getElem?_append_left (by rw [List.length_replicate]; omega), List.getElem?_replicate, if_pos (by omega)]
 rfl
theorem tailL_lo {r x K : Nat} (hr : 8 ≤ r) (hK : K < 8) : (tailL r x).getD (r - (K + 1)) 0 = x / 2 ^ (8 * K) % 256 := by
 unfold tailL
 rw [List.getD_eq_getElem?_getD, List.getElem?_append_right (by rw [List.length_replicate]; omega), List.length_replicate, List.getElem?_eq_getElem (by rw [beD_len]; omega)]
 rw [beD_get (by omega)]
 show x / 256 ^ (8 - 1 - (r - (K + 1) - (r - 8))) % 256 = _
 rw [show 8 - 1 - (r - (K + 1) - (r - 8)) = K by omega, show (256 : Nat) = 2 ^ 8 from rfl, ← Nat.pow_mul]
theorem take_snoc {l : List Nat} {n : Nat} (h : n < l.length) : l.take n ++ [l.getD n 0] = l.take (n + 1) := by
 rw [List.take_succ_eq_append_getElem h, List.getD_eq_getElem?_getD, List.getElem?_eq_getElem h]
 rfl
theorem padL_eq (B r : Nat) (m : List Nat) : padL B r m = (m ++ 128 :: List.replicate (padK m.length B r) 0) ++ tailL r (m.length * 8 % 18446744073709551616) := by
 unfold padL fillL tailL
 simp
 rw [← List.append_assoc, List.replicate_append_replicate]
theorem dbyte_of {w c x : Nat} (h8 : w = 8 * (w / 8)) (hc : c < w / 8) : (beD (w / 8) x).getD c 0 = x / 2 ^ (w - 8 - 8 * c) % 256 := by
 rw [List.getD_eq_getElem?_getD, List.getElem?_eq_getElem (by rw [beD_len]; exact hc), beD_get hc]
 show x / 256 ^ (w / 8 - 1 - c) % 256 = _
 rw [show (256 : Nat) = 2 ^ 8 from rfl, ← Nat.pow_mul, show 8 * (w / 8 - 1 - c) = w - 8 - 8 * c by omega]

def Sees (w0 : World) (l : List Blk) (k : IntKind) (ns : List Nat) (v : Value) : Prop := ∀ w', Env w0 l w' → RdS k ns v w'
theorem Ow.sees {w0 : World} {e : TypeId} {k : IntKind} {ns : List Nat} {v : Value} {bs : List Blk} (h : Ow e (nats k ns) v bs) : Sees w0 bs k ns v := fun w' hE => (h.sl (l := []) (by rw [List.append_nil]; exact hE)).rdS
theorem RdS.sees {w0 : World} {k : IntKind} {ns : List Nat} {v : Value} (h : RdS k ns v w0) : Sees w0 [] k ns v := fun w' hE => h.below hE.below
theorem Sees.len {w0 w : World} {l : List Blk} {k : IntKind} {ns : List Nat} {v : Value} (h : Sees w0 l k ns v) (hE : Env w0 l w) : ∃ p c, v = .slice p ns.length c ∧ ns.length ≤ c := by
 obtain ⟨p, c, h1, h2, -⟩ := h w hE
 exact ⟨p, c, h1, h2⟩

set_option maxRecDepth 100000 in
set_option maxHeartbeats 16000000 in
theorem rSum_any {k : Kd} {r : Nat} {m : List Nat} {fv rv mv : Value} {w : World} (hk : KOk k) (hf : k.first.length = 8) (hfd : ∀ j, k.first.getD j 0 < 2 ^ k.w) (hw0 : 8 ≤ k.w) (hr : 8 ≤ r) (hr2 : r ≤ 16) (hm : m.length < 549755813888) (dm : Digs 256 m)
  (hF : RdS .u64 k.first fv w) (hR : RdS .u64 k.rounds rv w) (hM : RdS .u8 m mv w) :
  Calls Tryz.prog 99 #[.agg (kcl k r fv rv).toArray, mv] w fun e w' => ∃ v, e = .returned v ∧ Sl w [] 5 (nats .u8 (sumS k (2 * k.w) r m)) v w' := by
 obtain ⟨p1, c1, rfl, hc1, -⟩ := id hM
 obtain ⟨p2, c2, rfl, hc2, -⟩ := id hF
 have hw64 := hk.w64
 have hb8 := hk.b8
 have Hk := Lib.hid hk
 obtain ⟨iu, hi, hz, hs, hby⟩ := info_u8
 have Hi := Lib.hid hi
 have Hz := Lib.hid hz
 have Hs := Lib.hid hs
 have Hby := Lib.hid hby
 have Hby8 := Lib.hid hby
 have HF := Lib.hid hF
 have HR := Lib.hid hR
 have HM := Lib.hid hM
 have Hdm := Lib.hid dm
 have hB0 : 0 < 2 * k.w := by omega
 have Hpk := Lib.hid (padK_zero (n := m.length) (r := r) hB0)
 have Hpm := Lib.hid (fun j (hj : j < padK m.length (2 * k.w) r) => padK_min (n := m.length) (r := r) hB0 hj)
 have hpl := padK_lt (n := m.length) (r := r) hB0
 have hpe := padL_eq (2 * k.w) r m
 have hpmod := padL_mod hB0 hr m
 have dP : Digs 256 (padL (2 * k.w) r m) := padL_Digs dm
 have hres : sumS k (2 * k.w) r m = outL (k.w / 8) (chainS k (2 * k.w) k.first (padL (2 * k.w) r m) ((padL (2 * k.w) r m).length / (2 * k.w))) := rfl
 obtain ⟨pk, hpk⟩ : ∃ pk, padK m.length (2 * k.w) r = pk := ⟨_, rfl⟩
 rw [hpk] at Hpk Hpm hpl hpe
 obtain ⟨BB, hBB⟩ : ∃ BB, 2 * k.w = BB := ⟨_, rfl⟩
 rw [hBB] at hB0 Hpk Hpm hpl hpe hpmod dP hres hpk ⊢
 obtain ⟨x8, hx8⟩ : ∃ x8, m.length * 8 % 18446744073709551616 = x8 := ⟨_, rfl⟩
 have hx8l : x8 < 18446744073709551616 := by rw [← hx8]; exact Nat.mod_lt _ (by decide)
 rw [hx8] at hpe
 obtain ⟨PP, hPP⟩ : ∃ PP, padL BB r m = PP := ⟨_, rfl⟩
 rw [hPP] at hpe hpmod dP hres
 have Hres := Lib.hid hres
 have Hpe := Lib.hid hpe
 have HdP := Lib.hid dP
 have Hx8 := Lib.hid hx8
 have hPl : PP.length < 1099511627776 := by
  rw [hpe, List.length_append, List.length_append, List.length_cons, List.length_replicate, tailL_len hr]
  omega
 have Hfd := Lib.hid hfd
 have hsum : Hid (∃ ss, sumS k BB r m = ss) := Lib.hid ⟨_, rfl⟩
 clear hi hz hs hby hF hR hM dm hk hpk hPP dP hpe hres hx8 hfd hsum
 have HBB := Lib.hid hBB
 have hone : ([] : List Value).length + m.length ≤ maxLen := by simp only [List.length_nil, maxLen]; omega
 have hfit : (([] : List Value).length + m.length) * 1 ≤ 140737488355328 := by simp only [List.length_nil]; omega
 have hone2 : (nats .u8 m).length + ([128] : List Nat).length ≤ maxLen := by rw [nats_len]; simp only [List.length_singleton, maxLen]; omega
 have hfit2 : ((nats .u8 m).length + ([128] : List Nat).length) * 1 ≤ 140737488355328 := by rw [nats_len]; simp only [List.length_singleton]; omega
 have hE0 := Env.nil w
 go_enter Tryz.func99, Tryz.ntmps99
 repeat ((fail_if_success refine sqx ?_); go_step)
 refine wl_step (st_boxA hE0 rfl rfl rfl ?_)
 intro g0 w1 hb1 hE1
 clear hE0
 simp only [qZ]
 refine mqC ?_
 repeat ((fail_if_success refine sqx ?_); go_step)
 refine wl_step (st_build0 hE1 rfl rfl Tryz.underlying24 (by kernel_rfl) ?_)
 intro g1 w2 hb2 hE2
 clear hE1
 simp only [qZ]
 refine mqA ?_
 refine wl_step (st_append (Sl.of_block hE2 (by decide)) rfl rfl Tryz.underlying24 Hi.out Hz.out Hs.out rfl Hby.out rfl rfl (HM.out.below hE2.below) hone hfit ?_)
 intro v3 w3 hS3
 have hE3 := hS3.env
 clear hE2
 simp only [qZ]
 obtain ⟨bs0, ho0, hEE⟩ := hS3.ow
 clear hE3 hS3
 have hE3 := hEE
 clear hEE
 refine wl_step (st_buildNums (k := .u8) [128] hE3 rfl rfl (by first | (kernel_rfl; done) | (simp only [List.map_cons, List.map_nil, List.zipIdx_cons, List.zipIdx_nil]; rfl)) rfl (by decide) (by decide) Tryz.underlying24 (by kernel_rfl) Tryz.zeroValue5 ?_)
 intro g2 w4 hb4 hE4
 clear hE3
 simp only [qZ]
 refine wl_step (st_append (Ow.sl (xs := nats .u8 m) ho0 (hE4.perm List.perm_middle.symm)) rfl rfl Tryz.underlying24 Hi.out Hz.out Hs.out rfl Hby.out rfl rfl (RdS.of_block (hE4.get (i := 0) rfl)) hone2 hfit2 ?_)
 intro v5 w5 hS5
 have hE5 := hS5.env
 clear hE4
 simp only [qZ]
 obtain ⟨bs1, ho1, hEE⟩ := hS5.ow
 clear hE5 hS5
 have hE5 := (Env.mid.1 (hEE.sub (List.Sublist.append_left (List.Sublist.cons _ (List.Sublist.refl _)) _)))
 clear hEE ho0
 rw [nats_append] at ho1
 refine mqB ?_
 repeat ((fail_if_success refine sqx ?_); go_step)
 refine wqv (v_field0 (s := 0) rfl rfl Tryz.underlying135 rfl (by kernel_rfl) rfl) ?_
 refine wqv (v_cellB (i := 0) hE5 rfl rfl rfl Tryz.underlying3 rfl kcl_w) ?_
 refine wqv (v_mul (m := 2) rfl rfl rfl (w_i64 (by omega))) ?_
 rw [HBB.out]
 refine mqB ?_
 have Ho1 : Hid (Ow 5 (nats .u8 (m ++ 128 :: List.replicate 0 0)) v5 bs1) := Lib.hid ho1
 have hst := hE5
 clear hE5 ho1 hone hfit hone2 hfit2
 go_wp2
 go_loopw [5] (fun s wr => ∃ (j : Nat) (bs : List Blk), j ≤ pk ∧ Hid (Ow 5 (nats .u8 (m ++ 128 :: List.replicate j 0)) s bs) ∧ Env w (⟨g0, 135, (kcl k r (.slice p2 k.first.length c2) rv).toArray⟩ :: (bs ++ [])) wr) (fun s _ => 1099511627776 - valLen s)
 case atStart => exact ⟨0, bs1, Nat.zero_le _, Ho1, hst⟩
 case round =>
  clear hst Ho1
  obtain ⟨j, bs, hj, hO, hE0⟩ := hrel
  obtain ⟨p, c, rfl, hc⟩ := hO.out.lenN
  have hL : (m ++ 128 :: List.replicate j 0).length = m.length + (1 + j) := by rw [List.length_append, List.length_cons, List.length_replicate]; omega
  have hLn : (m ++ 128 :: List.replicate j 0).length < 9223372036854775808 := by omega
  by_cases hjp : j < pk
  ·have hne := Hpm.out j (by omega)
   rw [← hL] at hne
   have Hne := Lib.hid (decide_eq_true hne)
   have e : nats .u8 (m ++ 128 :: List.replicate j 0) ++ nats .u8 [0] = nats .u8 (m ++ 128 :: List.replicate (j + 1) 0) := by
    rw [nats_append, List.append_assoc]
    congr 2
    rw [List.cons_append, List.replicate_succ']
   have He := Lib.hid e
   have h63 : (nats .u8 (m ++ 128 :: List.replicate j 0)).length + ([0] : List Nat).length ≤ maxLen := by rw [nats_len, hL]; simp only [List.length_singleton, maxLen]; omega
   have hft : ((nats .u8 (m ++ 128 :: List.replicate j 0)).length + ([0] : List Nat).length) * 1 ≤ 140737488355328 := by rw [nats_len, hL]; simp only [List.length_singleton]; omega
   have hL2 : (m ++ 128 :: List.replicate (j + 1) 0).length = m.length + (1 + j) + 1 := by rw [List.length_append, List.length_cons, List.length_replicate]; omega
   clear hne e
   repeat ((fail_if_success refine sqx ?_); go_step)
   refine mqA ?_
   refine wqv (v_len rfl rfl Tryz.underlying24 hLn) ?_
   refine wqv (v_fieldB (s := 0) rfl rfl Tryz.underlying135 rfl (by kernel_rfl) rfl) ?_
   refine wqv (v_cellB (i := 0) hE0 rfl rfl rfl Tryz.underlying3 rfl kcl_m) ?_
   refine wqv (v_add rfl rfl rfl (w_i64 (by omega))) ?_
   refine mqA ?_
   refine wqv (v_rem rfl rfl rfl (by omega)) ?_
   refine wqv (v_neq (n := 0) rfl rfl rfl) ?_
   rw [Hne.out]
   repeat ((fail_if_success refine sqy ?_); go_step)
   refine cqT ?_
   skip
   repeat ((fail_if_success refine sqx ?_); go_step)
   refine mqA ?_
   refine wl_step (st_buildNums (k := .u8) [0] hE0 rfl rfl (by first | (kernel_rfl; done) | (simp only [List.map_cons, List.map_nil, List.zipIdx_cons, List.zipIdx_nil]; rfl)) rfl (by decide) (by decide) Tryz.underlying24 (by kernel_rfl) Tryz.zeroValue5 ?_)
   intro g1 w1 hb1 hE1
   clear hE0
   simp only [qZ]
   refine wl_step (st_append (hO.out.sl (hE1.perm ((List.Perm.cons _ List.perm_middle.symm).trans List.perm_middle.symm))) rfl rfl Tryz.underlying24 Hi.out Hz.out Hs.out rfl Hby.out rfl rfl (RdS.of_block (hE1.get (i := 0) rfl)) h63 hft ?_)
   intro v2 w2 hS2
   have hE2 := hS2.env
   clear hE1
   simp only [qZ]
   obtain ⟨bs2, ho2, hEE⟩ := hS2.ow
   rw [He.out] at ho2
   refine mqB ?_
   obtain ⟨p5, c5, hv5, hc5⟩ := ho2.lenN
   subst hv5
   go_wp2
   go_roundw
   case rel => exact ⟨j + 1, bs2, by omega, Lib.hid ho2, Env.mid.1 (hEE.sub (List.Sublist.append_left (List.Sublist.cons _ (List.Sublist.refl _)) _))⟩
   case measure => simp only [valLen, hL, hL2]; omega
  ·have hjp' : j = pk := by omega
   subst hjp'
   have hne := Hpk.out
   rw [Nat.add_assoc m.length, ← Nat.add_assoc m.length] at hne
   rw [← hL] at hne
   have Hne := Lib.hid (decide_eq_false (show ¬ ((m ++ 128 :: List.replicate j 0).length + r) % BB ≠ 0 from fun h => h hne))
   have hml : m.length < 9223372036854775808 := by omega
   obtain ⟨base, hbase⟩ : ∃ base, m ++ 128 :: List.replicate j 0 = base := ⟨_, rfl⟩
   rw [hbase] at hL hLn hO Hne Hpe
   have tl := tailL_len hr x8
   rw [hbase]
   clear hne hbase
   repeat ((fail_if_success refine sqx ?_); go_step)
   refine mqA ?_
   refine wqv (v_len rfl rfl Tryz.underlying24 hLn) ?_
   refine wqv (v_fieldB (s := 0) rfl rfl Tryz.underlying135 rfl (by kernel_rfl) rfl) ?_
   refine wqv (v_cellB (i := 0) hE0 rfl rfl rfl Tryz.underlying3 rfl kcl_m) ?_
   refine wqv (v_add rfl rfl rfl (w_i64 (by omega))) ?_
   refine mqA ?_
   refine wqv (v_rem rfl rfl rfl (by omega)) ?_
   refine wqv (v_neq (n := 0) rfl rfl rfl) ?_
   rw [Hne.out]
   repeat ((fail_if_success refine sqy ?_); go_step)
   refine cqF ?_
   skip
   repeat ((fail_if_success refine sqx ?_); go_step)
   refine mqA ?_
   refine wqv (v_len rfl rfl Tryz.underlying24 hml) ?_
   refine wqv (v_convInt rfl rfl Tryz.underlying3 Tryz.underlying50 (w_u64 (by omega))) ?_
   refine wqv (v_mul (n := 8) rfl rfl rfl (w_u64m _)) ?_
   rw [Hx8.out]
   refine mqB ?_
   repeat ((fail_if_success refine sqx ?_); go_step)
   refine wqv (v_fieldB (s := 0) rfl rfl Tryz.underlying135 rfl (by kernel_rfl) rfl) ?_
   refine wqv (v_cellB (i := 0) hE0 rfl rfl rfl Tryz.underlying3 rfl kcl_m) ?_
   refine wqv (v_sub (n := 1) rfl rfl rfl (w_i64s (by omega) (by omega))) ?_
   refine mqB ?_
   have hst : Env w (⟨g0, 135, (kcl k r (.slice p2 k.first.length c2) rv).toArray⟩ :: (bs ++ [])) wr := hE0
   have hO2 : Hid (Ow 5 (nats .u8 (base ++ (tailL r x8).take (r - r))) (.slice p base.length c) bs) := Lib.hid (by rw [Nat.sub_self, List.take_zero, List.append_nil]; exact hO.out)
   clear hE0 hO
   go_wp2
   go_loopw [5, 8] (fun s i wr => ∃ (K : Nat) (bs : List Blk), K ≤ r ∧ i = .int .i64 ((K : Int) - 1) ∧ Hid (Ow 5 (nats .u8 (base ++ (tailL r x8).take (r - K))) s bs) ∧ Env w (⟨g0, 135, (kcl k r (.slice p2 k.first.length c2) rv).toArray⟩ :: (bs ++ [])) wr) (fun _ i _ => (intOf i + 1).toNat)
   case atStart => exact ⟨r, bs, Nat.le_refl _, by rw [show ((r - 1 : Nat) : Int) = (r : Int) - 1 by omega], hO2, hst⟩
   case round =>
    clear hst hO2
    obtain ⟨K, bs, hK, rfl, hO, hE0⟩ := hrel
    cases K with
    | succ K =>
     have hKi : ((K + 1 : Nat) : Int) - 1 = (K : Int) := by omega
     rw [hKi]
     clear hKi
     have hts := take_snoc (l := tailL r x8) (n := r - (K + 1)) (by rw [tl]; omega)
     rw [show r - (K + 1) + 1 = r - K by omega] at hts
     have hlen : (base ++ (tailL r x8).take (r - (K + 1))).length < 1099511627776 := by
      rw [List.length_append, List.length_take, tl]
      omega
     have h63 : (nats .u8 (base ++ (tailL r x8).take (r - (K + 1)))).length + ([0] : List Nat).length ≤ maxLen := by rw [nats_len]; simp only [List.length_singleton, maxLen]; omega
     have hft : ((nats .u8 (base ++ (tailL r x8).take (r - (K + 1)))).length + ([0] : List Nat).length) * 1 ≤ 140737488355328 := by rw [nats_len]; simp only [List.length_singleton]; omega
     have d1 := Lib.hid (decide_eq_true (show 0 ≤ K from Nat.zero_le _))
     by_cases h8 : 8 ≤ K
     ·have d2 := Lib.hid (decide_eq_true h8)
      rw [tailL_hi h8 (by omega)] at hts
      have e : nats .u8 (base ++ (tailL r x8).take (r - (K + 1))) ++ nats .u8 [0] = nats .u8 (base ++ (tailL r x8).take (r - K)) := by rw [nats_append, List.append_assoc, hts]
      have He := Lib.hid e
      clear hts e
      repeat ((fail_if_success refine sqx ?_); go_step)
      refine mqA ?_
      refine wqv (v_geq (n := 0) rfl rfl rfl) ?_
      rw [d1.out]
      repeat ((fail_if_success refine sqy ?_); go_step)
      refine cqT ?_
      skip
      repeat ((fail_if_success refine sqx ?_); go_step)
      refine mqA ?_
      refine wqv (v_geq (n := 8) rfl rfl rfl) ?_
      rw [d2.out]
      repeat ((fail_if_success refine sqy ?_); go_step)
      refine cqT ?_
      skip
      repeat ((fail_if_success refine sqx ?_); go_step)
      refine mqA ?_
      refine wl_step (st_buildNums (k := .u8) [0] hE0 rfl rfl (by first | (kernel_rfl; done) | (simp only [List.map_cons, List.map_nil, List.zipIdx_cons, List.zipIdx_nil]; rfl)) rfl (by decide) (by decide) Tryz.underlying24 (by kernel_rfl) Tryz.zeroValue5 ?_)
      intro g1 w1 hb1 hE1
      clear hE0
      simp only [qZ]
      refine wl_step (st_append (hO.out.sl (hE1.perm ((List.Perm.cons _ List.perm_middle.symm).trans List.perm_middle.symm))) rfl rfl Tryz.underlying24 Hi.out Hz.out Hs.out rfl Hby.out rfl rfl (RdS.of_block (hE1.get (i := 0) rfl)) h63 hft ?_)
      intro v2 w2 hS2
      have hE2 := hS2.env
      clear hE1
      simp only [qZ]
      obtain ⟨bs2, ho2, hEE⟩ := hS2.ow
      rw [He.out] at ho2
      refine mqB ?_
      repeat ((fail_if_success refine sqx ?_); go_step)
      refine mqA ?_
      refine wqv (v_sub (n := 1) rfl rfl rfl (w_i64I (by omega) (by omega))) ?_
      refine mqB ?_
      go_wp2
      go_roundw
      case rel => exact ⟨K, bs2, by omega, rfl, Lib.hid ho2, Env.mid.1 (hEE.sub (List.Sublist.append_left (List.Sublist.cons _ (List.Sublist.refl _)) _))⟩
      case measure => simp only [intOf]; omega
     ·have d2 := Lib.hid (decide_eq_false h8)
      rw [tailL_lo hr (by omega)] at hts
      have s64 : 8 * K ≤ IntKind.u64.bits := by show 8 * K ≤ 64; omega
      obtain ⟨y, hy⟩ : ∃ y, x8 / 2 ^ (8 * K) % 256 = y := ⟨_, rfl⟩
      rw [hy] at hts
      have e : nats .u8 (base ++ (tailL r x8).take (r - (K + 1))) ++ nats .u8 [y] = nats .u8 (base ++ (tailL r x8).take (r - K)) := by rw [nats_append, List.append_assoc, hts]
      have He := Lib.hid e
      have Hy := Lib.hid hy
      clear hts e hy
      repeat ((fail_if_success refine sqx ?_); go_step)
      refine mqA ?_
      refine wqv (v_geq (n := 0) rfl rfl rfl) ?_
      rw [d1.out]
      repeat ((fail_if_success refine sqy ?_); go_step)
      refine cqT ?_
      skip
      repeat ((fail_if_success refine sqx ?_); go_step)
      refine mqA ?_
      refine wqv (v_geq (n := 8) rfl rfl rfl) ?_
      rw [d2.out]
      repeat ((fail_if_success refine sqy ?_); go_step)
      refine cqF ?_
      skip
      repeat ((fail_if_success refine sqx ?_); go_step)
      refine mqA ?_
      refine mqA ?_
      refine mqA ?_
      refine wqv (v_mul (m := 8) rfl rfl rfl (w_i64 (by omega))) ?_
      refine wqv (v_shr rfl rfl rfl s64) ?_
      refine wqv (v_convInt rfl rfl Tryz.underlying50 Tryz.underlying5 (w_u8m _)) ?_
      rw [Hy.out]
      refine wl_step (st_buildNums (k := .u8) [y] hE0 rfl rfl (by first | (kernel_rfl; done) | (simp only [List.map_cons, List.map_nil, List.zipIdx_cons, List.zipIdx_nil]; rfl)) rfl (by decide) (by decide) Tryz.underlying24 (by kernel_rfl) Tryz.zeroValue5 ?_)
      intro g1 w1 hb1 hE1
      clear hE0
      simp only [qZ]
      refine wl_step (st_append (hO.out.sl (hE1.perm ((List.Perm.cons _ List.perm_middle.symm).trans List.perm_middle.symm))) rfl rfl Tryz.underlying24 Hi.out Hz.out Hs.out rfl Hby.out rfl rfl (RdS.of_block (hE1.get (i := 0) rfl)) h63 hft ?_)
      intro v2 w2 hS2
      have hE2 := hS2.env
      clear hE1
      simp only [qZ]
      obtain ⟨bs2, ho2, hEE⟩ := hS2.ow
      rw [He.out] at ho2
      refine mqB ?_
      repeat ((fail_if_success refine sqx ?_); go_step)
      refine mqA ?_
      refine wqv (v_sub (n := 1) rfl rfl rfl (w_i64I (by omega) (by omega))) ?_
      refine mqB ?_
      go_wp2
      go_roundw
      case rel => exact ⟨K, bs2, by omega, rfl, Lib.hid ho2, Env.mid.1 (hEE.sub (List.Sublist.append_left (List.Sublist.cons _ (List.Sublist.refl _)) _))⟩
      case measure => simp only [intOf]; omega
    | zero =>
     have hfull : base ++ (tailL r x8).take (r - 0) = PP := by rw [Nat.sub_zero, List.take_of_length_le (by omega), Hpe.out]
     rw [hfull] at hO
     clear hfull
     obtain ⟨p5, c5, hv5, hc5⟩ := hO.out.lenN
     subst hv5
     have hM0 := (hO.out.sl (l := []) (hE0.sub (List.sublist_cons_self _ _))).rdS
     have HM0 := Lib.hid hM0
     clear hM0 hO
     repeat ((fail_if_success refine sqx ?_); go_step)
     refine mqA ?_
     refine wqv (v_geqI rfl rfl rfl) ?_
     repeat ((fail_if_success refine sqy ?_); go_step)
     refine cqF ?_
     skip
     repeat ((fail_if_success refine sqx ?_); go_step)
     refine wqv (v_fieldB (s := 0) rfl rfl Tryz.underlying135 rfl (by kernel_rfl) rfl) ?_
     refine wqv (v_cellB (i := 0) hE0 rfl rfl rfl Tryz.underlying102 rfl kcl_f) ?_
     refine mqB ?_
     have hst := hE0
     clear hE0
     have h8a := fun n => chainS_len (k := k) (B := BB) hf PP n
     have hda := fun n => chainS_lt (k := k) (B := BB) Hfd.out PP n
     obtain ⟨ST, hST⟩ : ∃ ST : Nat → List Nat, (fun n => chainS k BB k.first PP n) = ST := ⟨_, rfl⟩
     have hST' : ∀ n, chainS k BB k.first PP n = ST n := fun n => congrFun hST n
     have HS1 : Hid (∀ n, ST (n + 1) = blockS k (ST n) ((PP.drop (n * BB)).take BB)) := Lib.hid (fun n => by
      rw [← hST', ← hST']
      rfl)
     have hF0 : RdS .u64 (ST 0) (.slice p2 k.first.length c2) w := by rw [← hST']; exact HF.out
     have HF0 := Lib.hid (RdS.sees hF0)
     have hres := Hres.out
     simp only [hST'] at h8a hda hres
     have H8 := Lib.hid h8a
     have HD := Lib.hid hda
     have Hres2 := Lib.hid hres
     have hM1 : RdS .u8 (PP.drop (0 * BB)) (.slice p5 PP.length c5) wr := by
      rw [Nat.zero_mul, List.drop_zero]
      exact HM0.out
     have HM1 := Lib.hid hM1
     clear hM1 HM0 hF0 h8a hda hres hST hST'
     go_wp2
     go_loopw [5, 9] (fun s h wr => ∃ (n : Nat) (lh : List Blk), n * BB ≤ PP.length ∧ Hid (Sees w lh .u64 (ST n) h) ∧ Hid (RdS .u8 (PP.drop (n * BB)) s wr) ∧ Env w (⟨g0, 135, (kcl k r (.slice p2 k.first.length c2) rv).toArray⟩ :: lh) wr) (fun s _ _ => valLen s)
     case atStart => exact ⟨0, [], by omega, HF0, HM1, hst.sub (List.Sublist.cons_cons _ (List.nil_sublist _))⟩
     case round =>
      clear hst HM1 HF0
      obtain ⟨n, lh, hnP, hH, hM, hE0⟩ := hrel
      obtain ⟨p6, c6, hv6, hc6, -⟩ := id hM.out
      subst hv6
      obtain ⟨R, hR⟩ : ∃ R, PP.drop (n * BB) = R := ⟨_, rfl⟩
      have hRn : R.length = PP.length - n * BB := by rw [← hR, List.length_drop]
      have hRl : R.length < 9223372036854775808 := by omega
      have dR : Digs 256 R := hR ▸ (HdP.out.drop _)
      have hRR : R.drop BB = PP.drop ((n + 1) * BB) := by rw [← hR, List.drop_drop, Nat.add_mul, Nat.one_mul]
      have hs1 := HS1.out n
      rw [hR] at hs1 hM hc6 ⊢
      have h8 := H8.out n
      obtain ⟨p7, c7, hv7, hc7⟩ := hH.out.len (hE0.sub (List.sublist_cons_self _ _))
      subst hv7
      by_cases h0 : 0 < R.length
      ·have hBR : BB ≤ R.length := by
        have h1 := Nat.div_add_mod PP.length BB
        rw [hpmod, Nat.add_zero] at h1
        have h2 : n < PP.length / BB := by
         rcases Nat.lt_or_ge n (PP.length / BB) with h | h
         ·exact h
         ·have := Nat.mul_le_mul_right BB h
          rw [Nat.mul_comm (PP.length / BB), h1] at this
          omega
        have h3 := Nat.mul_le_mul_right BB (show n + 1 ≤ PP.length / BB from h2)
        rw [Nat.mul_comm (PP.length / BB), h1, Nat.add_mul, Nat.one_mul] at h3
        omega
       have d1 := Lib.hid (decide_eq_true h0)
       have hsl0 := RdS.slcd hM.out (Nat.zero_le BB) hBR
       rw [List.drop_zero, Nat.sub_zero] at hsl0
       have hsl1 := RdS.slcd hM.out hBR (Nat.le_refl _)
       have e1 : (R.drop BB).take (R.length - BB) = R.drop BB := List.take_of_length_le (by rw [List.length_drop]; exact Nat.le_refl _)
       rw [e1, hRR] at hsl1
       have hm16 : (R.take BB).length = 16 * (k.w / 8) := by rw [List.length_take]; omega
       have Hsl0 := Lib.hid hsl0
       have Hsl1 := Lib.hid hsl1
       have Hdt := Lib.hid (dR.take BB)
       have hcB : BB ≤ c6 := by omega
       have HS2 := Lib.hid hs1
       clear hsl0 hsl1 e1 hs1 dR hR hRR
       repeat ((fail_if_success refine sqx ?_); go_step)
       refine mqA ?_
       refine wqv (v_len rfl rfl Tryz.underlying24 hRl) ?_
       refine wqv (v_gtr (n := 0) rfl rfl rfl) ?_
       rw [d1.out]
       repeat ((fail_if_success refine sqy ?_); go_step)
       refine cqT ?_
       skip
       repeat ((fail_if_success refine sqx ?_); go_step)
       refine wp_region_B (n := 7) 6 (by kernel_rfl) rfl hE0 ?_
       intro w1 hb1 hE1
       clear hE0
       refine tqB 0 rfl (vqL 0 17 hE1 Tryz.underlying135) ?_
       refine tqB 1 rfl (v_moveT (.inl rfl) rfl) ?_
       refine tqB 2 rfl (v_moveT (.inl rfl) rfl) ?_
       refine tqB 3 rfl (v_moveT (.inl rfl) rfl) ?_
       refine tqB 4 rfl (v_sliceH rfl rfl rfl Tryz.underlying24 (by kernel_rfl) hcB) ?_
       refine sqB 5 rfl (st_calls rfl (run_call rfl Tryz.call115) (block_any Hk.out h8 (HD.out n) hm16 Hdt.out (HR.out.below hE1.below) (hH.out _ (hE1.sub (List.sublist_cons_self _ _))) (Hsl0.out.below hb1)) ?_)
       rintro _ w2 ⟨v6, rfl, hBk⟩
       have hb2 := hBk.env.below
       obtain ⟨bs6, ho6, hE2⟩ := hE1.lift hBk
       refine ⟨_, rfl, ?_⟩
       clear hE1
       refine ⟨fun _ => hb2, ?_⟩
       simp only [qZ]
       refine sqB 6 rfl (st_val rfl (v_moveT (.inr rfl) rfl) ?_)
       refine ⟨fun _ => Below.refl _ _, ?_⟩
       simp only [qZ]
       refine wpB_done (by kernel_rfl) ?_ _
       rw [← HS2.out] at ho6
       have hEE := (hE2).sub (List.Sublist.append_left (List.Sublist.cons_cons _ (List.nil_sublist lh)) _)
       have hM2 := Hsl1.out.below (hb1.trans (hb2.mono hb1.size))
       have HM2 := Lib.hid hM2
       have hEf := Env.mid.1 hEE
       clear hE2 hEE hM2
       repeat ((fail_if_success refine sqx ?_); go_step)
       refine mqA ?_
       refine mqA ?_
       refine wqv (v_sliceL rfl rfl rfl Tryz.underlying24 (by kernel_rfl) hBR) ?_
       refine mqB ?_
       go_wp2
       go_roundw
       case rel => exact ⟨n + 1, bs6, by rw [Nat.add_mul, Nat.one_mul]; omega, Lib.hid ho6.sees, HM2, by rw [List.append_nil] at hEf; exact hEf⟩
       case measure =>
        simp only [valLen, slcd]
        omega
      ·have d1 := Lib.hid (decide_eq_false h0)
       have hnn : PP.length / BB = n := Nat.div_eq_of_eq_mul_left hB0 (by omega)
       have hres := Hres2.out
       rw [hnn] at hres
       obtain ⟨V, hVV⟩ : ∃ V, ST n = V := ⟨_, rfl⟩
       have hVd := HD.out n
       rw [hVV] at hres hVd h8 hH hc7
       rw [hVV]
       have HVd := Lib.hid hVd
       have HR3 := Lib.hid hres
       clear hnn hVV hres hVd hs1 dR hR hRR
       repeat ((fail_if_success refine sqx ?_); go_step)
       refine mqA ?_
       refine wqv (v_len rfl rfl Tryz.underlying24 hRl) ?_
       refine wqv (v_gtr (n := 0) rfl rfl rfl) ?_
       rw [d1.out]
       repeat ((fail_if_success refine sqy ?_); go_step)
       refine cqF ?_
       skip
       repeat ((fail_if_success refine sqx ?_); go_step)
       refine mqC ?_
       repeat ((fail_if_success refine sqx ?_); go_step)
       refine mqC ?_
       have hst : Env w (⟨g0, 135, (kcl k r (.slice p2 k.first.length c2) rv).toArray⟩ :: ([] ++ lh)) wr := hE0
       clear hE0
       go_wp2
       go_loopw [10, 11] (fun s i wr => ∃ (j : Nat) (bs : List Blk), j ≤ 8 ∧ i = .int .i64 j ∧ Hid (Ow 5 (nats .u8 (outL (k.w / 8) (V.take j))) s bs) ∧ Env w (⟨g0, 135, (kcl k r (.slice p2 k.first.length c2) rv).toArray⟩ :: (bs ++ lh)) wr) (fun _ i _ => 8 - (intOf i).toNat)
       case atStart => exact ⟨0, [], Nat.zero_le _, rfl, Lib.hid (Ow.nil _), hst⟩
       case round =>
        clear hst
        obtain ⟨j, bs, hj, rfl, hO, hE0⟩ := hrel
        by_cases hj8 : j < 8
        ·have d2 := Lib.hid (decide_eq_true hj8)
         have hjV : j < V.length := by rw [h8]; exact hj8
         have hxb := HVd.out j
         have hgj : V.getD j 0 = V[j] := by rw [List.getD_eq_getElem?_getD, List.getElem?_eq_getElem hjV]; rfl
         obtain ⟨x, hx⟩ : ∃ x, V.getD j 0 = x := ⟨_, rfl⟩
         have hend : outL (k.w / 8) (V.take j) ++ beD (k.w / 8) x = outL (k.w / 8) (V.take (j + 1)) := by
          rw [List.take_succ_eq_append_getElem hjV, outL_snoc, ← hgj, hx]
         have hbl := beD_len (k.w / 8) x
         have hob : (outL (k.w / 8) (V.take j)).length ≤ 64 := by
          rw [outL_len, List.length_take]
          have : min j V.length * (k.w / 8) ≤ 8 * 8 := Nat.mul_le_mul (by omega) (by omega)
          exact this
         have hby : ∀ c, c < k.w / 8 → (beD (k.w / 8) x).getD c 0 = x / 2 ^ (k.w - 8 - 8 * c) % 256 := fun c hc => dbyte_of hb8 hc
         obtain ⟨OU, hOU⟩ : ∃ OU, outL (k.w / 8) (V.take j) = OU := ⟨_, rfl⟩
         obtain ⟨BY, hBY⟩ : ∃ BY, beD (k.w / 8) x = BY := ⟨_, rfl⟩
         rw [hOU, hBY] at hend
         rw [hOU] at hob hO
         rw [hBY] at hbl
         simp only [hBY] at hby
         obtain ⟨wb, hwb⟩ : ∃ wb, k.w / 8 = wb := ⟨_, rfl⟩
         have hkw : k.w = 8 * wb := by omega
         rw [hwb] at hbl
         simp only [hwb] at hby
         have Hend := Lib.hid hend
         have Hby := Lib.hid hby
         have Hx := Lib.hid hx
         have HO0 : Hid (Ow 5 (nats .u8 (OU ++ BY.take 0)) u10 bs) := Lib.hid (by rw [List.take_zero, List.append_nil]; exact hO.out)
         clear hend hby hx hgj hOU hBY hO
         repeat ((fail_if_success refine sqx ?_); go_step)
         refine mqA ?_
         refine wqv (v_lss (n := 8) rfl rfl rfl) ?_
         rw [d2.out]
         repeat ((fail_if_success refine sqy ?_); go_step)
         refine cqT ?_
         skip
         repeat ((fail_if_success refine sqx ?_); go_step)
         refine wqv (v_field0 (s := 0) rfl rfl Tryz.underlying135 rfl (by kernel_rfl) rfl) ?_
         refine wqv (v_cellB (i := 0) hE0 rfl rfl rfl Tryz.underlying3 rfl kcl_w) ?_
         refine wqv (v_sub (n := 8) (r := (k.w : Int) - 8) rfl rfl rfl (w_i64I (by omega) (by omega))) ?_
         refine mqB ?_
         have hst := hE0
         clear hE0
         obtain ⟨wo, hwo⟩ : ∃ wo : World, wo = wr := ⟨_, rfl⟩
         subst hwo
         go_wp2
         go_loopw [10, 12] (fun s i w2 => ∃ (c : Nat) (bs : List Blk), c ≤ wb ∧ i = .int .i64 ((k.w : Int) - 8 - 8 * (c : Int)) ∧ Hid (Ow 5 (nats .u8 (OU ++ BY.take c)) s bs) ∧ Env w (⟨g0, 135, (kcl k r (.slice p2 k.first.length c2) rv).toArray⟩ :: (bs ++ lh)) w2) (fun _ i _ => (intOf i + 8).toNat)
         case atStart => exact ⟨0, bs, Nat.zero_le _, congrArg (Value.int .i64) (by omega), HO0, hst⟩
         case round =>
          clear hst HO0
          obtain ⟨c, bs, hc, rfl, hO, hE0⟩ := hrel
          by_cases hcw : c < wb
          ·have hD : (k.w : Int) - 8 - 8 * (c : Int) = ((k.w - 8 - 8 * c : Nat) : Int) := by omega
           rw [hD]
           have hbyc := Hby.out c hcw
           have hbt := take_snoc (l := BY) (n := c) (by omega)
           obtain ⟨D, hDD⟩ : ∃ D, k.w - 8 - 8 * c = D := ⟨_, rfl⟩
           rw [hDD] at hbyc
           rw [hDD]
           have hDn : (D : Int) - 8 = (k.w : Int) - 8 - 8 * ((c + 1 : Nat) : Int) := by omega
           have s64 : D ≤ IntKind.u64.bits := by show D ≤ 64; omega
           have hD63 : D < 64 := by omega
           obtain ⟨b, off, hp7, hcell⟩ := (hH.out _ (hE0.sub ((List.sublist_append_right _ _).trans (List.sublist_cons_self _ _)))).at hjV
           subst hp7
           rw [Hx.out] at hcell
           obtain ⟨y, hy⟩ : ∃ y, x / 2 ^ D % 256 = y := ⟨_, rfl⟩
           rw [hy] at hbyc
           rw [hbyc] at hbt
           have hcat : nats .u8 (OU ++ BY.take c) ++ nats .u8 [y] = nats .u8 (OU ++ BY.take (c + 1)) := by rw [nats_append, List.append_assoc, hbt]
           have h63 : (nats .u8 (OU ++ BY.take c)).length + ([0] : List Nat).length ≤ maxLen := by rw [nats_len, List.length_append, List.length_take]; simp only [List.length_singleton, maxLen]; omega
           have hft : ((nats .u8 (OU ++ BY.take c)).length + ([0] : List Nat).length) * 1 ≤ 140737488355328 := by rw [nats_len, List.length_append, List.length_take]; simp only [List.length_singleton]; omega
           have HC := Lib.hid hcell
           have Hy := Lib.hid hy
           have Hcat := Lib.hid hcat
           have d3 := Lib.hid (decide_eq_true (show 0 ≤ D from Nat.zero_le _))
           clear hcell hbyc hbt hcat hy hD hDD
           repeat ((fail_if_success refine sqx ?_); go_step)
           refine mqA ?_
           refine wqv (v_geq (n := 0) rfl rfl rfl) ?_
           rw [d3.out]
           repeat ((fail_if_success refine sqy ?_); go_step)
           refine cqT ?_
           skip
           repeat ((fail_if_success refine sqx ?_); go_step)
           refine mqA ?_
           refine mqA ?_
           refine mqA ?_
           refine wqv (v_indexS rfl rfl rfl Tryz.underlying102 (by kernel_rfl) (by first | exact hjV | exact hj8)) ?_
           refine wqv (v_cell rfl rfl Tryz.underlying50 rfl (fun w1 hb => HC.out w1 hb)) ?_
           refine mqA ?_
           refine wqv (v_shr rfl rfl rfl s64) ?_
           refine wqv (v_convInt rfl rfl Tryz.underlying50 Tryz.underlying5 (w_u8m _)) ?_
           rw [Hy.out]
           refine wl_step (st_buildNums (k := .u8) [y] hE0 rfl rfl (by first | (kernel_rfl; done) | (simp only [List.map_cons, List.map_nil, List.zipIdx_cons, List.zipIdx_nil]; rfl)) rfl (by decide) (by decide) Tryz.underlying24 (by kernel_rfl) Tryz.zeroValue5 ?_)
           intro g1 w11 hb11 hE11
           clear hE0
           simp only [qZ]
           refine wl_step (st_append (hO.out.sl (hE11.perm ((List.Perm.cons _ List.perm_middle.symm).trans List.perm_middle.symm))) rfl rfl Tryz.underlying24 Hi.out Hz.out Hs.out rfl Hby8.out rfl rfl (RdS.of_block (hE11.get (i := 0) rfl)) h63 hft ?_)
           intro v12 w12 hS12
           have hE12 := hS12.env
           clear hE11
           simp only [qZ]
           obtain ⟨bs2, ho2, hEE⟩ := hS12.ow
           rw [Hcat.out] at ho2
           refine mqB ?_
           repeat ((fail_if_success refine sqx ?_); go_step)
           refine mqA ?_
           refine wqv (v_sub (n := 8) (r := (D : Int) - 8) rfl rfl rfl (w_i64I (by omega) (by omega))) ?_
           refine mqB ?_
           go_wp2
           go_roundw
           case rel => exact ⟨c + 1, bs2, by omega, congrArg (Value.int .i64) hDn, Lib.hid ho2, Env.mid.1 (hEE.sub (List.Sublist.append_left (List.Sublist.cons _ (List.Sublist.refl _)) _))⟩
           case measure => simp only [intOf]; omega
          ·have hcw' : c = wb := by omega
           subst hcw'
           have hfl : OU ++ BY.take c = outL (k.w / 8) (V.take (j + 1)) := by rw [List.take_of_length_le (by omega), Hend.out]
           rw [hfl] at hO
           clear hfl
           repeat ((fail_if_success refine sqx ?_); go_step)
           refine mqA ?_
           refine wqv (v_geqI rfl rfl rfl) ?_
           repeat ((fail_if_success refine sqy ?_); go_step)
           refine cqF ?_
           skip
           repeat ((fail_if_success refine sqx ?_); go_step)
           refine mqA ?_
           refine wqv (v_add (n := 1) rfl rfl rfl (w_i64 (by omega))) ?_
           refine mqB ?_
           go_wp2
           go_roundw
           case rel => exact ⟨j + 1, bs, by omega, rfl, hO, hE0⟩
           case measure => simp [intOf]; omega
        ·have hj' : j = 8 := by omega
         subst hj'
         have d2 := Lib.hid (decide_eq_false hj8)
         have hS := hO.out.sl (l := []) (hE0.sub ((List.Sublist.append_left (List.nil_sublist _) _).trans (List.sublist_cons_self _ _)))
         rw [List.take_of_length_le (by omega), ← HR3.out] at hS
         have HS := Lib.hid hS
         clear hS
         repeat ((fail_if_success refine sqx ?_); go_step)
         refine mqA ?_
         refine wqv (v_lss (n := 8) rfl rfl rfl) ?_
         rw [d2.out]
         repeat ((fail_if_success refine sqy ?_); go_step)
         refine cqF ?_
         skip
         repeat ((fail_if_success refine sqx ?_); go_step)
         refine mqA ?_
         refine mqB ?_
         go_wp2
         go_returns
         exact ⟨_, rfl, HS.out⟩
end Go.Proofs.YthddoelflmoedaaGreat
namespace Go.Proofs.YthddoelflmoedaaGreat
open Go.RowKit
set_option maxRecDepth 100000

set_option maxRecDepth 100000 in
set_option maxHeartbeats 8000000 in
theorem rSum64_any {m : List Nat} {v : Value} {w : World} (hM : RdS .u8 m v w) (dm : Digs 256 m) (hm : m.length < 549755813888) : Gives 58 #[v] w (.agg (ints .u8 (sum512 m))) := by
 have HM := Lib.hid hM
 have Hd := Lib.hid dm
 have hl := sum512_len m
 clear hM dm
 have hE0 := Env.nil w
 go_enter Tryz.func58, Tryz.ntmps58
 repeat ((fail_if_success refine sqx ?_); go_step)
 refine wl_step (sqA (ints .u8 (List.replicate 64 0)) hE0 ?_)
 intro g0 w1 hb1 hE1
 clear hE0
 simp only [qZ]
 repeat ((fail_if_success refine sqx ?_); go_step)
 refine wl_step (sqA (ints .u8 (List.replicate 64 0)) hE1 ?_)
 intro g1 w2 hb2 hE2
 clear hE1
 simp only [qZ]
 repeat ((fail_if_success refine sqx ?_); go_step)
 refine wp_region_B (n := 5) 4 (by kernel_rfl) rfl hE2 ?_
 intro w3 hb3 hE3
 clear hE2
 refine tqB 0 rfl (v_sliceAll rfl rfl Tryz.underlying30 (by kernel_rfl)) ?_
 refine tqB 2 rfl (v_moveT (.inl rfl) rfl) ?_
 refine sqB 1 rfl (st_calls rfl (run_call rfl Tryz.call100) (KGreat_any _) ?_)
 rintro _ w4 ⟨fv, rv, rfl, hb4, hF, hR⟩
 have hE4 := hE3.call hb4
 refine ⟨_, rfl, ?_⟩
 clear hE3
 refine ⟨fun _ => hb4, ?_⟩
 simp only [qZ]
 refine sqB 3 rfl (st_calls rfl (run_call rfl Tryz.call99) (rSum_any k512_ok k512_first (fun j => k512_firstD j) (by decide) (by decide) (by decide) hm Hd.out hF hR (HM.out.below hE4.below)) ?_)
 rintro _ w5 ⟨v7, rfl, hS⟩
 have hb5 := hS.env.below
 have hE5 := hE4.call hb5
 rw [sum512_r] at hS
 refine ⟨_, rfl, ?_⟩
 clear hE4
 refine ⟨fun _ => hb5, ?_⟩
 simp only [qZ]
 refine sqB 4 rfl (st_copyAll (i := 0) hE5 rfl rfl rfl rfl hS.rdS hl (by decide) Tryz.underlying24 (by kernel_rfl) rfl (by rw [ints_size]; rfl) ?_)
 intro w6 hE6
 clear hE5
 simp only [List.set_cons_zero] at hE6
 refine nqB ?_
 simp only [qZ]
 refine wpB_done (by kernel_rfl) ?_ _
 repeat ((fail_if_success refine sqx ?_); go_step)
 refine wqv (vqL 0 64 hE6 Tryz.underlying30) ?_
 refine wl_step (sqS 1 64 hE6 ?_)
 intro w7 hE7
 clear hE6
 simp only [qpB, qpC] at hE7
 simp only [qZ]
 repeat ((fail_if_success refine sqx ?_); go_step)
 refine bodyPost_ret (results_cell_row rfl _ _ _ _ _ (0, 0) _ rfl (hE7.get (i := 1) rfl) Tryz.underlying30 rfl (szqA (n := 64))) rfl ⟨rfl, hE7.below⟩

end Go.Proofs.YthddoelflmoedaaGreat
namespace Go.Proofs.YthddoelflmoedaaGreat
open Go.RowKit
set_option maxRecDepth 100000

theorem strike {b : List Nat} (hb : b.length = 32) (db : Digs 256 b) : ∃ T, b.getD 31 0 = T ∧ T < 256 ∧ (b.set 31 (T % 128)).length = 32 ∧ Digs 256 (b.set 31 (T % 128)) ∧
  val 256 (b.set 31 (T % 128)) = val 256 b % 57896044618658097711785492504343953926634992332820282019728792003956564819968 ∧ T / 128 = val 256 b / 57896044618658097711785492504343953926634992332820282019728792003956564819968 := by
 have h1 := val_div_mod db (by decide) 31
 have hV := val_lt db
 rw [hb] at hV
 have hlt : val 256 b / 256 ^ 31 < 256 := Nat.div_lt_of_lt_mul (by rw [← Nat.pow_succ]; exact hV)
 rw [Nat.mod_eq_of_lt hlt] at h1
 have hset := val_set (B := 256) b 31 (val 256 b / 256 ^ 31 % 128) (by omega)
 have hg : b[31]'(by omega) = val 256 b / 256 ^ 31 := by
  rw [h1, List.getD_eq_getElem?_getD, List.getElem?_eq_getElem (by omega)]
  rfl
 rw [hg] at hset
 refine ⟨_, h1.symm, hlt, by rw [List.length_set]; exact hb, db.set _ (by omega), ?_, ?_⟩
 ·rw [half_pow, Nat.mod_mul]
  have h2 := Nat.div_add_mod (val 256 b) (256 ^ 31)
  generalize val 256 b / 256 ^ 31 = T at *
  generalize val 256 b % 256 ^ 31 = R at *
  generalize val 256 (b.set 31 (T % 128)) = W at *
  generalize (256 : Nat) ^ 31 = M at *
  omega
 ·rw [half_pow, ← Nat.div_div_eq_div_mul]

theorem fk_of {c : List Nat} {n : Nat} (h : fk c = kk pN n) : fval c % pN = n % pN := kk_iff.1 h
set_option maxRecDepth 100000 in
set_option maxHeartbeats 16000000 in
theorem PDecode_walk {b : List Nat} (hb : b.length = 32) (db : Digs 256 b) (V : Nat) (hV : val 256 b = V) :
  (∀ P, encN P = V → ∃ c, PRep c P ∧ ∀ w, Gives 28 #[.agg (ints .u8 b)] w (.tuple #[pt c, .bool true])) ∧
  (¬ isPt V → ∀ w, Gives 28 #[.agg (ints .u8 b)] w (.tuple #[pt zeroL, .bool false])) := by
 obtain ⟨T, ht, hT, lb', db', hv, ho⟩ := strike hb db
 rw [hV] at hv ho
 have hVl : V < 115792089237316195423570985008687907853269984665640564039457584007913129639936 := by
  have := val_lt db
  rw [hb, hV] at this
  exact this
 obtain ⟨b', hbe⟩ : ∃ b', b.set 31 (T % 128) = b' := ⟨_, rfl⟩
 rw [hbe] at lb' db' hv
 have hC := fun w => Canonical_any lb' db' w
 have hO := fun w => Of_any b' lb' db' w
 rw [hv] at hC hO
 obtain ⟨Y, hYe⟩ : ∃ Y, V % 57896044618658097711785492504343953926634992332820282019728792003956564819968 = Y := ⟨_, rfl⟩
 obtain ⟨o, hoe⟩ : ∃ o, V / 57896044618658097711785492504343953926634992332820282019728792003956564819968 = o := ⟨_, rfl⟩
 have hpt : isPt V ↔ Y < pN ∧ (rootN (uN Y) (vN Y)).2 = true ∧ ¬ (o = 1 ∧ (rootN (uN Y) (vN Y)).1 = 0) := by
  unfold isPt
  rw [hYe, hoe]
 have hyes : ∀ P, encN P = V → isPt V ∧ P.y = kk pN Y ∧ P.x = kk pN (xOf Y o) := fun P hP => by
  have hi : isPt V := hP ▸ of_pt P
  obtain ⟨P', h1, h2, h3⟩ := pt_of hVl hi
  obtain rfl : P' = P := encN_inj (h1.trans hP.symm)
  rw [hYe] at h2 h3
  rw [hoe] at h3
  exact ⟨hi, by rw [← h2]; exact kk_all _, by rw [← h3]; exact kk_all _⟩
 rw [hpt] at hyes ⊢
 rw [hYe] at hC hO
 rw [hoe] at ho
 have fy := digs_Fe Y
 have ey : Y < pN → fk (digs 2251799813685248 5 Y) = kk pN Y := fun h => of_fk h
 obtain ⟨y, hye⟩ : ∃ y, digs 2251799813685248 5 Y = y := ⟨_, rfl⟩
 rw [hye] at fy ey hO
 obtain ⟨f1, e1, G1⟩ := Small_K (n := 1) (by decide)
 rw [kk_one] at e1
 obtain ⟨sq, fsq, esq, Gsq⟩ := Mul_K fy fy
 obtain ⟨u, fu, eu, Gu⟩ := Sub_K fsq f1
 obtain ⟨d, fd, ed, Gd⟩ := once_any
 obtain ⟨sd, fsd, esd, Gsd⟩ := Mul_K fsq fd
 obtain ⟨v, fv, ev, Gv⟩ := Add_K fsd f1
 obtain ⟨x, fx, ex, Gx⟩ := Root_any fu fv
 obtain ⟨nx, fnx, enx, Gnx⟩ := Neg_K fx
 have hZ := fun w => Zero_any fx w
 have hroot : Y < pN → rootN (fval u) (fval v) = rootN (uN Y) (vN Y) := fun h => by
  have hy := ey h
  refine rootN_congr (fk_of ?_) (fk_of ?_)
  ·rw [eu, esq, hy, e1, kk_uN]
  ·rw [ev, esd, esq, hy, ed, e1, kk_vN]
   grobner
 have hrl := rootN_lt (fval u) (fval v)
 rw [ex] at hZ
 have exk : fk x = kk pN (rootN (fval u) (fval v)).1 := by
  unfold fk
  exact kk_of (by rw [ex, Nat.mod_eq_of_lt hrl])
 have l1 := fsq.1
 have l2 := fu.1
 have l3 := fv.1
 have l4 := fx.1
 have l5 := fnx.1
 have l6 := fy.1
 have l7 := f1.1
 have lz : zeroL.length = 20 := rfl
 have Ht := Lib.hid ht
 have Hbe := Lib.hid hbe
 have HC := Lib.hid hC
 have HO := Lib.hid hO
 have H1 := Lib.hid G1
 have Hsq := Lib.hid Gsq
 have Hu := Lib.hid Gu
 have Hd := Lib.hid Gd
 have Hsd := Lib.hid Gsd
 have Hv := Lib.hid Gv
 have Hnx := Lib.hid Gnx
 have HR := Lib.hid hroot
 have Hyes := Lib.hid hyes
 have Ey := Lib.hid ey
 have Fy := Lib.hid fy
 have Fx := Lib.hid fx
 have Fnx := Lib.hid fnx
 have Enx := Lib.hid enx
 have Exk := Lib.hid exk
 have hord : decide (T / 128 = 1) = decide (o = 1) := by rw [ho]
 have Hod := Lib.hid hord
 clear ht hbe hC hO G1 Gsq Gu Gd Gsd Gv Gnx hroot hyes ey fy fx fnx enx exk hord ho hv hpt hYe hoe hye db db' hV hVl e1 f1 esq fsq eu fu ed fd esd fsd ev fv ex hrl
 obtain ⟨r, hr⟩ : ∃ r, rootN (fval u) (fval v) = r := ⟨_, rfl⟩
 rw [hr] at HR Exk Gx hZ
 have HX := Lib.hid Gx
 have HZ := Lib.hid hZ
 clear Gx hZ hr
 by_cases hY : Y < pN
 ·have hR := HR.out hY
  rw [← hR] at Hyes ⊢
  have hCw := HC.out
  rw [decide_eq_true hY] at hCw
  have HC1 := Lib.hid hCw
  clear hCw HC
  cases hok : r.2 with
  | false =>
   refine ⟨fun P hP => ?_, fun _ w => ?_⟩
   ·have := (Hyes.out P hP).1.2.1
    rw [hok] at this
    cases this
   ·have hXw := HX.out
    rw [hok] at hXw
    have HX1 := Lib.hid hXw
    clear hXw HX Hyes hR hok hY
    have hE0 := Env.nil w
    go_enter Tryz.func28, Tryz.ntmps28
    repeat ((fail_if_success refine sqx ?_); go_step)
    refine wl_step (st_boxA hE0 rfl rfl rfl ?_)
    intro g0 w1 hb1 hE1
    clear hE0
    simp only [qZ]
    refine wl_step (sqA (ints .u64 (List.replicate 20 0)) hE1 ?_)
    intro g1 w2 hb2 hE2
    clear hE1
    simp only [qZ]
    refine mqC ?_
    repeat ((fail_if_success refine sqx ?_); go_step)
    refine wqv (vqI (j := 31) Tryz.underlying22) ?_
    refine wqv (vqC 1 hE2 Tryz.underlying5) ?_
    rw [Ht.out]
    refine wqv (v_shrC (s := 7) (d := 128) rfl rfl rfl (by decide) (by decide)) ?_
    refine wqv (v_eql (n := 1) rfl rfl rfl) ?_
    rw [Hod.out]
    refine mqB ?_
    repeat ((fail_if_success refine sqx ?_); go_step)
    refine wqv (vqI (j := 31) Tryz.underlying22) ?_
    refine wqv (vqC 1 hE2 Tryz.underlying5) ?_
    rw [Ht.out]
    refine wqv (v_mask (c := 127) (s := 7) (d := 128) rfl rfl rfl (by decide) (by decide) rfl (by simp only [IntKind.bits]; omega) (by decide)) ?_
    refine wqv (vqI (j := 31) Tryz.underlying22) ?_
    refine wl_step (st_putN (i := 1) hE2 rfl rfl rfl rfl rfl (by kernel_rfl) (by first | assumption | omega | (simp only [List.length_set, List.length_replicate]; first | assumption | omega)) ?_)
    intro w3 hE3
    clear hE2
    simp only [qpB, qpC] at hE3
    simp only [qZ]
    rw [Hbe.out] at hE3
    repeat ((fail_if_success refine sqx ?_); go_step)
    refine wqv (vqL 1 32 hE3 Tryz.underlying22) ?_
    refine wl_step (st_gives hE3 rfl (run_call rfl Tryz.call69) (HC1.out _) ?_)
    intro w4 hb4 hE4
    clear hE3
    simp only [qZ]
    refine wqv (v_not rfl rfl) ?_
    repeat ((fail_if_success refine sqy ?_); go_step)
    refine cqF ?_
    skip
    repeat ((fail_if_success refine sqx ?_); go_step)
    refine wl_step (st_gives hE4 rfl (run_call rfl Tryz.call70) (H1.out _) ?_)
    intro w5 hb5 hE5
    clear hE4
    simp only [qZ]
    refine wl_step (sqA (ints .u64 (List.replicate 5 0)) hE5 ?_)
    intro g2 w6 hb6 hE6
    clear hE5
    simp only [qZ]
    refine wl_step (sqS 0 5 hE6 ?_)
    intro w7 hE7
    clear hE6
    simp only [qpB, qpC] at hE7
    simp only [qZ]
    repeat ((fail_if_success refine sqx ?_); go_step)
    refine wqv (vqL 2 32 hE7 Tryz.underlying22) ?_
    refine wl_step (st_gives hE7 rfl (run_call rfl Tryz.call49) (HO.out _) ?_)
    intro w8 hb8 hE8
    clear hE7
    simp only [qZ]
    refine wl_step (sqA (ints .u64 (List.replicate 5 0)) hE8 ?_)
    intro g3 w9 hb9 hE9
    clear hE8
    simp only [qZ]
    refine wl_step (sqS 0 5 hE9 ?_)
    intro w10 hE10
    clear hE9
    simp only [qpB, qpC] at hE10
    simp only [qZ]
    repeat ((fail_if_success refine sqx ?_); go_step)
    refine wqv (vqL 0 5 hE10 Tryz.underlying53) ?_
    refine wqv (vqL 0 5 hE10 Tryz.underlying53) ?_
    refine wl_step (st_gives hE10 rfl (run_call rfl Tryz.call55) (Hsq.out _) ?_)
    intro w11 hb11 hE11
    clear hE10
    simp only [qZ]
    refine wl_step (sqA (ints .u64 (List.replicate 5 0)) hE11 ?_)
    intro g4 w12 hb12 hE12
    clear hE11
    simp only [qZ]
    refine wl_step (sqS 0 5 hE12 ?_)
    intro w13 hE13
    clear hE12
    simp only [qpB, qpC] at hE13
    simp only [qZ]
    repeat ((fail_if_success refine sqx ?_); go_step)
    refine wp_region_env 13 (by kernel_rfl) (by kernel_rfl) (fun _ _ d _ _ h => by cases d <;> exact h) hE13 ?_
    refine hqv (fun _ hW => (vqL 0 5 hW Tryz.underlying53)) ?_
    refine hqv (fun _ hW => (vqL 2 5 hW Tryz.underlying53)) ?_
    refine headRun_call (fun w1 => run_call rfl Tryz.call72) (fun w1 hW => Hu.out _) ?_
    simp only [qZ]
    refine hqv (fun _ hW => (vqL 0 5 hW Tryz.underlying53)) ?_
    refine headRun_call (fun w1 => run_call rfl Tryz.call73) (fun w1 hW => Hd.out _) ?_
    simp only [qZ]
    refine headRun_call (fun w1 => run_call rfl Tryz.call55) (fun w1 hW => Hsd.out _) ?_
    simp only [qZ]
    refine hqv (fun _ hW => (vqL 2 5 hW Tryz.underlying53)) ?_
    refine headRun_call (fun w1 => run_call rfl Tryz.call74) (fun w1 hW => Hv.out _) ?_
    simp only [qZ]
    refine headRun_call (fun w1 => run_call rfl Tryz.call71) (fun w1 hW => HX1.out _) ?_
    simp only [qZ]
    refine hqv (fun _ hW => (v_moveT (.inl rfl) rfl)) ?_
    refine hqv (fun _ hW => (v_extract rfl rfl rfl)) ?_
    refine hqv (fun _ hW => (v_extract rfl rfl rfl)) ?_
    refine headRun_alloc (zs := ints .u64 (List.replicate 5 0)) rfl rfl (fun w => by kernel_rfl) ?_
    simp only [qZ]
    refine headRun_nil (endK1 ?_)
    intro g5 w14 hE14
    clear hE13
    simp only [List.drop_succ_cons, List.drop_zero, Act.put, qpA, qpB, qpC]
    refine wl_step (sqS 0 5 hE14 ?_)
    intro w15 hE15
    clear hE14
    simp only [qpB, qpC] at hE15
    simp only [qZ]
    refine mqB ?_
    repeat ((fail_if_success refine sqx ?_); go_step)
    refine mqA ?_
    refine wqv (v_not rfl rfl) ?_
    refine mqA ?_
    refine wl_step (st_skip rfl ?_)
    simp only [qZ]
    refine wl_step (st_skip rfl ?_)
    simp only [qZ]
    refine wl_step (st_skip rfl ?_)
    simp only [qZ]
    refine wl_step (st_skip rfl ?_)
    simp only [qZ]
    refine wl_step (st_skip rfl ?_)
    simp only [qZ]
    refine wqv (v_orT rfl rfl) ?_
    repeat ((fail_if_success refine sqy ?_); go_step)
    refine cqT ?_
    skip
    repeat ((fail_if_success refine sqx ?_); go_step)
    refine wl_step (st_gives hE15 rfl (run_call rfl Tryz.call51) (PZero_any _) ?_)
    intro w16 hb16 hE16
    clear hE15
    simp only [qZ]
    refine wl_step (sqS 4 20 hE16 ?_)
    intro w17 hE17
    clear hE16
    simp only [qpB, qpC] at hE17
    simp only [qZ]
    refine mqC ?_
    repeat ((fail_if_success refine sqx ?_); go_step)
    refine bodyPost_ret (results_ct rfl _ _ _ _ _ (0, 0) _ rfl (hE17.get (i := 4) rfl) Tryz.underlying55 rfl (szqA (n := 20)) rfl) rfl ⟨rfl, hE17.below⟩
  | true =>
   have hXw := HX.out
   rw [hok] at hXw
   have HX1 := Lib.hid hXw
   clear hXw HX
   by_cases ho1 : o = 1
   ·have hxo : xOf Y o = (pN - r.1) % pN := by unfold xOf; rw [if_pos ho1, hR]
    rw [decide_eq_true ho1] at Hod
    by_cases hr0 : r.1 = 0
    ·refine ⟨fun P hP => absurd ⟨ho1, hr0⟩ (Hyes.out P hP).1.2.2, fun _ w => ?_⟩
     have hZw := HZ.out
     rw [decide_eq_true hr0] at hZw
     have HZ1 := Lib.hid hZw
     clear hZw HZ Hyes hR hok hY hxo hr0 ho1
     have hE0 := Env.nil w
     go_enter Tryz.func28, Tryz.ntmps28
     repeat ((fail_if_success refine sqx ?_); go_step)
     refine wl_step (st_boxA hE0 rfl rfl rfl ?_)
     intro g0 w1 hb1 hE1
     clear hE0
     simp only [qZ]
     refine wl_step (sqA (ints .u64 (List.replicate 20 0)) hE1 ?_)
     intro g1 w2 hb2 hE2
     clear hE1
     simp only [qZ]
     refine mqC ?_
     repeat ((fail_if_success refine sqx ?_); go_step)
     refine wqv (vqI (j := 31) Tryz.underlying22) ?_
     refine wqv (vqC 1 hE2 Tryz.underlying5) ?_
     rw [Ht.out]
     refine wqv (v_shrC (s := 7) (d := 128) rfl rfl rfl (by decide) (by decide)) ?_
     refine wqv (v_eql (n := 1) rfl rfl rfl) ?_
     rw [Hod.out]
     refine mqB ?_
     repeat ((fail_if_success refine sqx ?_); go_step)
     refine wqv (vqI (j := 31) Tryz.underlying22) ?_
     refine wqv (vqC 1 hE2 Tryz.underlying5) ?_
     rw [Ht.out]
     refine wqv (v_mask (c := 127) (s := 7) (d := 128) rfl rfl rfl (by decide) (by decide) rfl (by simp only [IntKind.bits]; omega) (by decide)) ?_
     refine wqv (vqI (j := 31) Tryz.underlying22) ?_
     refine wl_step (st_putN (i := 1) hE2 rfl rfl rfl rfl rfl (by kernel_rfl) (by first | assumption | omega | (simp only [List.length_set, List.length_replicate]; first | assumption | omega)) ?_)
     intro w3 hE3
     clear hE2
     simp only [qpB, qpC] at hE3
     simp only [qZ]
     rw [Hbe.out] at hE3
     repeat ((fail_if_success refine sqx ?_); go_step)
     refine wqv (vqL 1 32 hE3 Tryz.underlying22) ?_
     refine wl_step (st_gives hE3 rfl (run_call rfl Tryz.call69) (HC1.out _) ?_)
     intro w4 hb4 hE4
     clear hE3
     simp only [qZ]
     refine wqv (v_not rfl rfl) ?_
     repeat ((fail_if_success refine sqy ?_); go_step)
     refine cqF ?_
     skip
     repeat ((fail_if_success refine sqx ?_); go_step)
     refine wl_step (st_gives hE4 rfl (run_call rfl Tryz.call70) (H1.out _) ?_)
     intro w5 hb5 hE5
     clear hE4
     simp only [qZ]
     refine wl_step (sqA (ints .u64 (List.replicate 5 0)) hE5 ?_)
     intro g2 w6 hb6 hE6
     clear hE5
     simp only [qZ]
     refine wl_step (sqS 0 5 hE6 ?_)
     intro w7 hE7
     clear hE6
     simp only [qpB, qpC] at hE7
     simp only [qZ]
     repeat ((fail_if_success refine sqx ?_); go_step)
     refine wqv (vqL 2 32 hE7 Tryz.underlying22) ?_
     refine wl_step (st_gives hE7 rfl (run_call rfl Tryz.call49) (HO.out _) ?_)
     intro w8 hb8 hE8
     clear hE7
     simp only [qZ]
     refine wl_step (sqA (ints .u64 (List.replicate 5 0)) hE8 ?_)
     intro g3 w9 hb9 hE9
     clear hE8
     simp only [qZ]
     refine wl_step (sqS 0 5 hE9 ?_)
     intro w10 hE10
     clear hE9
     simp only [qpB, qpC] at hE10
     simp only [qZ]
     repeat ((fail_if_success refine sqx ?_); go_step)
     refine wqv (vqL 0 5 hE10 Tryz.underlying53) ?_
     refine wqv (vqL 0 5 hE10 Tryz.underlying53) ?_
     refine wl_step (st_gives hE10 rfl (run_call rfl Tryz.call55) (Hsq.out _) ?_)
     intro w11 hb11 hE11
     clear hE10
     simp only [qZ]
     refine wl_step (sqA (ints .u64 (List.replicate 5 0)) hE11 ?_)
     intro g4 w12 hb12 hE12
     clear hE11
     simp only [qZ]
     refine wl_step (sqS 0 5 hE12 ?_)
     intro w13 hE13
     clear hE12
     simp only [qpB, qpC] at hE13
     simp only [qZ]
     repeat ((fail_if_success refine sqx ?_); go_step)
     refine wp_region_env 13 (by kernel_rfl) (by kernel_rfl) (fun _ _ d _ _ h => by cases d <;> exact h) hE13 ?_
     refine hqv (fun _ hW => (vqL 0 5 hW Tryz.underlying53)) ?_
     refine hqv (fun _ hW => (vqL 2 5 hW Tryz.underlying53)) ?_
     refine headRun_call (fun w1 => run_call rfl Tryz.call72) (fun w1 hW => Hu.out _) ?_
     simp only [qZ]
     refine hqv (fun _ hW => (vqL 0 5 hW Tryz.underlying53)) ?_
     refine headRun_call (fun w1 => run_call rfl Tryz.call73) (fun w1 hW => Hd.out _) ?_
     simp only [qZ]
     refine headRun_call (fun w1 => run_call rfl Tryz.call55) (fun w1 hW => Hsd.out _) ?_
     simp only [qZ]
     refine hqv (fun _ hW => (vqL 2 5 hW Tryz.underlying53)) ?_
     refine headRun_call (fun w1 => run_call rfl Tryz.call74) (fun w1 hW => Hv.out _) ?_
     simp only [qZ]
     refine headRun_call (fun w1 => run_call rfl Tryz.call71) (fun w1 hW => HX1.out _) ?_
     simp only [qZ]
     refine hqv (fun _ hW => (v_moveT (.inl rfl) rfl)) ?_
     refine hqv (fun _ hW => (v_extract rfl rfl rfl)) ?_
     refine hqv (fun _ hW => (v_extract rfl rfl rfl)) ?_
     refine headRun_alloc (zs := ints .u64 (List.replicate 5 0)) rfl rfl (fun w => by kernel_rfl) ?_
     simp only [qZ]
     refine headRun_nil (endK1 ?_)
     intro g5 w14 hE14
     clear hE13
     simp only [List.drop_succ_cons, List.drop_zero, Act.put, qpA, qpB, qpC]
     refine wl_step (sqS 0 5 hE14 ?_)
     intro w15 hE15
     clear hE14
     simp only [qpB, qpC] at hE15
     simp only [qZ]
     refine mqB ?_
     repeat ((fail_if_success refine sqx ?_); go_step)
     refine mqA ?_
     refine wqv (v_not rfl rfl) ?_
     refine mqA ?_
     refine mqA ?_
     refine mqA ?_
     refine wqv (vqL 0 5 hE15 Tryz.underlying53) ?_
     refine wl_step (st_gives hE15 rfl (run_call rfl Tryz.call75) (HZ1.out _) ?_)
     intro w16 hb16 hE16
     clear hE15
     simp only [qZ]
     refine wqv (v_and rfl rfl (fun _ => rfl)) ?_
     refine wqv (v_or rfl rfl (fun _ => rfl)) ?_
     repeat ((fail_if_success refine sqy ?_); go_step)
     refine cqT ?_
     skip
     repeat ((fail_if_success refine sqx ?_); go_step)
     refine wl_step (st_gives hE16 rfl (run_call rfl Tryz.call51) (PZero_any _) ?_)
     intro w17 hb17 hE17
     clear hE16
     simp only [qZ]
     refine wl_step (sqS 4 20 hE17 ?_)
     intro w18 hE18
     clear hE17
     simp only [qpB, qpC] at hE18
     simp only [qZ]
     refine mqC ?_
     repeat ((fail_if_success refine sqx ?_); go_step)
     refine bodyPost_ret (results_ct rfl _ _ _ _ _ (0, 0) _ rfl (hE18.get (i := 4) rfl) Tryz.underlying55 rfl (szqA (n := 20)) rfl) rfl ⟨rfl, hE18.below⟩
    ·refine ⟨fun P hP => ?_, fun h => absurd ⟨hY, rfl, fun h' => hr0 h'.2⟩ h⟩
     obtain ⟨_, hPy, hPx⟩ := Hyes.out P hP
     obtain ⟨c, hc, Gc⟩ := affine_any (P := P) Fnx.out Fy.out (by
      have hl : r.1 < pN := hR ▸ rootN_lt _ _
      rw [Enx.out, Exk.out, hPx, hxo, kk_mod, kk_neg (Nat.le_of_lt hl)]) (by rw [Ey.out hY, hPy])
     refine ⟨c, hc, fun w => ?_⟩
     have lc := hc.len
     have Hc := Lib.hid Gc
     have hZw := HZ.out
     rw [decide_eq_false hr0] at hZw
     have HZ1 := Lib.hid hZw
     clear hZw HZ Hyes hR hok hY hxo hr0 ho1 Gc hc hPy hPx
     have hE0 := Env.nil w
     go_enter Tryz.func28, Tryz.ntmps28
     repeat ((fail_if_success refine sqx ?_); go_step)
     refine wl_step (st_boxA hE0 rfl rfl rfl ?_)
     intro g0 w1 hb1 hE1
     clear hE0
     simp only [qZ]
     refine wl_step (sqA (ints .u64 (List.replicate 20 0)) hE1 ?_)
     intro g1 w2 hb2 hE2
     clear hE1
     simp only [qZ]
     refine mqC ?_
     repeat ((fail_if_success refine sqx ?_); go_step)
     refine wqv (vqI (j := 31) Tryz.underlying22) ?_
     refine wqv (vqC 1 hE2 Tryz.underlying5) ?_
     rw [Ht.out]
     refine wqv (v_shrC (s := 7) (d := 128) rfl rfl rfl (by decide) (by decide)) ?_
     refine wqv (v_eql (n := 1) rfl rfl rfl) ?_
     rw [Hod.out]
     refine mqB ?_
     repeat ((fail_if_success refine sqx ?_); go_step)
     refine wqv (vqI (j := 31) Tryz.underlying22) ?_
     refine wqv (vqC 1 hE2 Tryz.underlying5) ?_
     rw [Ht.out]
     refine wqv (v_mask (c := 127) (s := 7) (d := 128) rfl rfl rfl (by decide) (by decide) rfl (by simp only [IntKind.bits]; omega) (by decide)) ?_
     refine wqv (vqI (j := 31) Tryz.underlying22) ?_
     refine wl_step (st_putN (i := 1) hE2 rfl rfl rfl rfl rfl (by kernel_rfl) (by first | assumption | omega | (simp only [List.length_set, List.length_replicate]; first | assumption | omega)) ?_)
     intro w3 hE3
     clear hE2
     simp only [qpB, qpC] at hE3
     simp only [qZ]
     rw [Hbe.out] at hE3
     repeat ((fail_if_success refine sqx ?_); go_step)
     refine wqv (vqL 1 32 hE3 Tryz.underlying22) ?_
     refine wl_step (st_gives hE3 rfl (run_call rfl Tryz.call69) (HC1.out _) ?_)
     intro w4 hb4 hE4
     clear hE3
     simp only [qZ]
     refine wqv (v_not rfl rfl) ?_
     repeat ((fail_if_success refine sqy ?_); go_step)
     refine cqF ?_
     skip
     repeat ((fail_if_success refine sqx ?_); go_step)
     refine wl_step (st_gives hE4 rfl (run_call rfl Tryz.call70) (H1.out _) ?_)
     intro w5 hb5 hE5
     clear hE4
     simp only [qZ]
     refine wl_step (sqA (ints .u64 (List.replicate 5 0)) hE5 ?_)
     intro g2 w6 hb6 hE6
     clear hE5
     simp only [qZ]
     refine wl_step (sqS 0 5 hE6 ?_)
     intro w7 hE7
     clear hE6
     simp only [qpB, qpC] at hE7
     simp only [qZ]
     repeat ((fail_if_success refine sqx ?_); go_step)
     refine wqv (vqL 2 32 hE7 Tryz.underlying22) ?_
     refine wl_step (st_gives hE7 rfl (run_call rfl Tryz.call49) (HO.out _) ?_)
     intro w8 hb8 hE8
     clear hE7
     simp only [qZ]
     refine wl_step (sqA (ints .u64 (List.replicate 5 0)) hE8 ?_)
     intro g3 w9 hb9 hE9
     clear hE8
     simp only [qZ]
     refine wl_step (sqS 0 5 hE9 ?_)
     intro w10 hE10
     clear hE9
     simp only [qpB, qpC] at hE10
     simp only [qZ]
     repeat ((fail_if_success refine sqx ?_); go_step)
     refine wqv (vqL 0 5 hE10 Tryz.underlying53) ?_
     refine wqv (vqL 0 5 hE10 Tryz.underlying53) ?_
     refine wl_step (st_gives hE10 rfl (run_call rfl Tryz.call55) (Hsq.out _) ?_)
     intro w11 hb11 hE11
     clear hE10
     simp only [qZ]
     refine wl_step (sqA (ints .u64 (List.replicate 5 0)) hE11 ?_)
     intro g4 w12 hb12 hE12
     clear hE11
     simp only [qZ]
     refine wl_step (sqS 0 5 hE12 ?_)
     intro w13 hE13
     clear hE12
     simp only [qpB, qpC] at hE13
     simp only [qZ]
     repeat ((fail_if_success refine sqx ?_); go_step)
     refine wp_region_env 13 (by kernel_rfl) (by kernel_rfl) (fun _ _ d _ _ h => by cases d <;> exact h) hE13 ?_
     refine hqv (fun _ hW => (vqL 0 5 hW Tryz.underlying53)) ?_
     refine hqv (fun _ hW => (vqL 2 5 hW Tryz.underlying53)) ?_
     refine headRun_call (fun w1 => run_call rfl Tryz.call72) (fun w1 hW => Hu.out _) ?_
     simp only [qZ]
     refine hqv (fun _ hW => (vqL 0 5 hW Tryz.underlying53)) ?_
     refine headRun_call (fun w1 => run_call rfl Tryz.call73) (fun w1 hW => Hd.out _) ?_
     simp only [qZ]
     refine headRun_call (fun w1 => run_call rfl Tryz.call55) (fun w1 hW => Hsd.out _) ?_
     simp only [qZ]
     refine hqv (fun _ hW => (vqL 2 5 hW Tryz.underlying53)) ?_
     refine headRun_call (fun w1 => run_call rfl Tryz.call74) (fun w1 hW => Hv.out _) ?_
     simp only [qZ]
     refine headRun_call (fun w1 => run_call rfl Tryz.call71) (fun w1 hW => HX1.out _) ?_
     simp only [qZ]
     refine hqv (fun _ hW => (v_moveT (.inl rfl) rfl)) ?_
     refine hqv (fun _ hW => (v_extract rfl rfl rfl)) ?_
     refine hqv (fun _ hW => (v_extract rfl rfl rfl)) ?_
     refine headRun_alloc (zs := ints .u64 (List.replicate 5 0)) rfl rfl (fun w => by kernel_rfl) ?_
     simp only [qZ]
     refine headRun_nil (endK1 ?_)
     intro g5 w14 hE14
     clear hE13
     simp only [List.drop_succ_cons, List.drop_zero, Act.put, qpA, qpB, qpC]
     refine wl_step (sqS 0 5 hE14 ?_)
     intro w15 hE15
     clear hE14
     simp only [qpB, qpC] at hE15
     simp only [qZ]
     refine mqB ?_
     repeat ((fail_if_success refine sqx ?_); go_step)
     refine mqA ?_
     refine wqv (v_not rfl rfl) ?_
     refine mqA ?_
     refine mqA ?_
     refine mqA ?_
     refine wqv (vqL 0 5 hE15 Tryz.underlying53) ?_
     refine wl_step (st_gives hE15 rfl (run_call rfl Tryz.call75) (HZ1.out _) ?_)
     intro w16 hb16 hE16
     clear hE15
     simp only [qZ]
     refine wqv (v_and rfl rfl (fun _ => rfl)) ?_
     refine wqv (v_or rfl rfl (fun _ => rfl)) ?_
     repeat ((fail_if_success refine sqy ?_); go_step)
     refine cqF ?_
     skip
     repeat ((fail_if_success refine sqx ?_); go_step)
     refine mqA ?_
     repeat ((fail_if_success refine sqy ?_); go_step)
     refine cqT ?_
     skip
     repeat ((fail_if_success refine sqx ?_); go_step)
     refine wqv (vqL 0 5 hE16 Tryz.underlying53) ?_
     refine wl_step (st_gives hE16 rfl (run_call rfl Tryz.call76) (Hnx.out _) ?_)
     intro w17 hb17 hE17
     clear hE16
     simp only [qZ]
     refine wl_step (sqS 0 5 hE17 ?_)
     intro w18 hE18
     clear hE17
     simp only [qpB, qpC] at hE18
     simp only [qZ]
     repeat ((fail_if_success refine sqx ?_); go_step)
     refine wqv (vqL 0 5 hE18 Tryz.underlying53) ?_
     refine wqv (vqL 2 5 hE18 Tryz.underlying53) ?_
     refine wl_step (st_gives hE18 rfl (run_call rfl Tryz.call48) (Hc.out _) ?_)
     intro w19 hb19 hE19
     clear hE18
     simp only [qZ]
     refine wl_step (sqS 4 20 hE19 ?_)
     intro w20 hE20
     clear hE19
     simp only [qpB, qpC] at hE20
     simp only [qZ]
     refine mqC ?_
     repeat ((fail_if_success refine sqx ?_); go_step)
     refine bodyPost_ret (results_ct rfl _ _ _ _ _ (0, 0) _ rfl (hE20.get (i := 4) rfl) Tryz.underlying55 rfl (szqA (n := 20)) rfl) rfl ⟨rfl, hE20.below⟩
   ·have hxo : xOf Y o = r.1 := by unfold xOf; rw [if_neg ho1, hR]
    rw [decide_eq_false ho1] at Hod
    refine ⟨fun P hP => ?_, fun h => absurd ⟨hY, rfl, fun h' => ho1 h'.1⟩ h⟩
    obtain ⟨_, hPy, hPx⟩ := Hyes.out P hP
    obtain ⟨c, hc, Gc⟩ := affine_any (P := P) Fx.out Fy.out (by rw [Exk.out, hPx, hxo]) (by rw [Ey.out hY, hPy])
    refine ⟨c, hc, fun w => ?_⟩
    have lc := hc.len
    have Hc := Lib.hid Gc
    clear HZ Hyes hR hok hY hxo ho1 Gc hc hPy hPx
    have hE0 := Env.nil w
    go_enter Tryz.func28, Tryz.ntmps28
    repeat ((fail_if_success refine sqx ?_); go_step)
    refine wl_step (st_boxA hE0 rfl rfl rfl ?_)
    intro g0 w1 hb1 hE1
    clear hE0
    simp only [qZ]
    refine wl_step (sqA (ints .u64 (List.replicate 20 0)) hE1 ?_)
    intro g1 w2 hb2 hE2
    clear hE1
    simp only [qZ]
    refine mqC ?_
    repeat ((fail_if_success refine sqx ?_); go_step)
    refine wqv (vqI (j := 31) Tryz.underlying22) ?_
    refine wqv (vqC 1 hE2 Tryz.underlying5) ?_
    rw [Ht.out]
    refine wqv (v_shrC (s := 7) (d := 128) rfl rfl rfl (by decide) (by decide)) ?_
    refine wqv (v_eql (n := 1) rfl rfl rfl) ?_
    rw [Hod.out]
    refine mqB ?_
    repeat ((fail_if_success refine sqx ?_); go_step)
    refine wqv (vqI (j := 31) Tryz.underlying22) ?_
    refine wqv (vqC 1 hE2 Tryz.underlying5) ?_
    rw [Ht.out]
    refine wqv (v_mask (c := 127) (s := 7) (d := 128) rfl rfl rfl (by decide) (by decide) rfl (by simp only [IntKind.bits]; omega) (by decide)) ?_
    refine wqv (vqI (j := 31) Tryz.underlying22) ?_
    refine wl_step (st_putN (i := 1) hE2 rfl rfl rfl rfl rfl (by kernel_rfl) (by first | assumption | omega | (simp only [List.length_set, List.length_replicate]; first | assumption | omega)) ?_)
    intro w3 hE3
    clear hE2
    simp only [qpB, qpC] at hE3
    simp only [qZ]
    rw [Hbe.out] at hE3
    repeat ((fail_if_success refine sqx ?_); go_step)
    refine wqv (vqL 1 32 hE3 Tryz.underlying22) ?_
    refine wl_step (st_gives hE3 rfl (run_call rfl Tryz.call69) (HC1.out _) ?_)
    intro w4 hb4 hE4
    clear hE3
    simp only [qZ]
    refine wqv (v_not rfl rfl) ?_
    repeat ((fail_if_success refine sqy ?_); go_step)
    refine cqF ?_
    skip
    repeat ((fail_if_success refine sqx ?_); go_step)
    refine wl_step (st_gives hE4 rfl (run_call rfl Tryz.call70) (H1.out _) ?_)
    intro w5 hb5 hE5
    clear hE4
    simp only [qZ]
    refine wl_step (sqA (ints .u64 (List.replicate 5 0)) hE5 ?_)
    intro g2 w6 hb6 hE6
    clear hE5
    simp only [qZ]
    refine wl_step (sqS 0 5 hE6 ?_)
    intro w7 hE7
    clear hE6
    simp only [qpB, qpC] at hE7
    simp only [qZ]
    repeat ((fail_if_success refine sqx ?_); go_step)
    refine wqv (vqL 2 32 hE7 Tryz.underlying22) ?_
    refine wl_step (st_gives hE7 rfl (run_call rfl Tryz.call49) (HO.out _) ?_)
    intro w8 hb8 hE8
    clear hE7
    simp only [qZ]
    refine wl_step (sqA (ints .u64 (List.replicate 5 0)) hE8 ?_)
    intro g3 w9 hb9 hE9
    clear hE8
    simp only [qZ]
    refine wl_step (sqS 0 5 hE9 ?_)
    intro w10 hE10
    clear hE9
    simp only [qpB, qpC] at hE10
    simp only [qZ]
    repeat ((fail_if_success refine sqx ?_); go_step)
    refine wqv (vqL 0 5 hE10 Tryz.underlying53) ?_
    refine wqv (vqL 0 5 hE10 Tryz.underlying53) ?_
    refine wl_step (st_gives hE10 rfl (run_call rfl Tryz.call55) (Hsq.out _) ?_)
    intro w11 hb11 hE11
    clear hE10
    simp only [qZ]
    refine wl_step (sqA (ints .u64 (List.replicate 5 0)) hE11 ?_)
    intro g4 w12 hb12 hE12
    clear hE11
    simp only [qZ]
    refine wl_step (sqS 0 5 hE12 ?_)
    intro w13 hE13
    clear hE12
    simp only [qpB, qpC] at hE13
    simp only [qZ]
    repeat ((fail_if_success refine sqx ?_); go_step)
    refine wp_region_env 13 (by kernel_rfl) (by kernel_rfl) (fun _ _ d _ _ h => by cases d <;> exact h) hE13 ?_
    refine hqv (fun _ hW => (vqL 0 5 hW Tryz.underlying53)) ?_
    refine hqv (fun _ hW => (vqL 2 5 hW Tryz.underlying53)) ?_
    refine headRun_call (fun w1 => run_call rfl Tryz.call72) (fun w1 hW => Hu.out _) ?_
    simp only [qZ]
    refine hqv (fun _ hW => (vqL 0 5 hW Tryz.underlying53)) ?_
    refine headRun_call (fun w1 => run_call rfl Tryz.call73) (fun w1 hW => Hd.out _) ?_
    simp only [qZ]
    refine headRun_call (fun w1 => run_call rfl Tryz.call55) (fun w1 hW => Hsd.out _) ?_
    simp only [qZ]
    refine hqv (fun _ hW => (vqL 2 5 hW Tryz.underlying53)) ?_
    refine headRun_call (fun w1 => run_call rfl Tryz.call74) (fun w1 hW => Hv.out _) ?_
    simp only [qZ]
    refine headRun_call (fun w1 => run_call rfl Tryz.call71) (fun w1 hW => HX1.out _) ?_
    simp only [qZ]
    refine hqv (fun _ hW => (v_moveT (.inl rfl) rfl)) ?_
    refine hqv (fun _ hW => (v_extract rfl rfl rfl)) ?_
    refine hqv (fun _ hW => (v_extract rfl rfl rfl)) ?_
    refine headRun_alloc (zs := ints .u64 (List.replicate 5 0)) rfl rfl (fun w => by kernel_rfl) ?_
    simp only [qZ]
    refine headRun_nil (endK1 ?_)
    intro g5 w14 hE14
    clear hE13
    simp only [List.drop_succ_cons, List.drop_zero, Act.put, qpA, qpB, qpC]
    refine wl_step (sqS 0 5 hE14 ?_)
    intro w15 hE15
    clear hE14
    simp only [qpB, qpC] at hE15
    simp only [qZ]
    refine mqB ?_
    repeat ((fail_if_success refine sqx ?_); go_step)
    refine mqA ?_
    refine wqv (v_not rfl rfl) ?_
    refine mqA ?_
    refine mqA ?_
    refine mqA ?_
    refine wl_step (st_skip rfl ?_)
    simp only [qZ]
    refine wl_step (st_skip rfl ?_)
    simp only [qZ]
    refine wqv (v_andF rfl rfl) ?_
    refine wqv (v_or rfl rfl (fun _ => rfl)) ?_
    repeat ((fail_if_success refine sqy ?_); go_step)
    refine cqF ?_
    skip
    repeat ((fail_if_success refine sqx ?_); go_step)
    refine mqA ?_
    repeat ((fail_if_success refine sqy ?_); go_step)
    refine cqF ?_
    skip
    repeat ((fail_if_success refine sqx ?_); go_step)
    refine wqv (vqL 0 5 hE15 Tryz.underlying53) ?_
    refine wqv (vqL 2 5 hE15 Tryz.underlying53) ?_
    refine wl_step (st_gives hE15 rfl (run_call rfl Tryz.call48) (Hc.out _) ?_)
    intro w16 hb16 hE16
    clear hE15
    simp only [qZ]
    refine wl_step (sqS 4 20 hE16 ?_)
    intro w17 hE17
    clear hE16
    simp only [qpB, qpC] at hE17
    simp only [qZ]
    refine mqC ?_
    repeat ((fail_if_success refine sqx ?_); go_step)
    refine bodyPost_ret (results_ct rfl _ _ _ _ _ (0, 0) _ rfl (hE17.get (i := 4) rfl) Tryz.underlying55 rfl (szqA (n := 20)) rfl) rfl ⟨rfl, hE17.below⟩
 ·refine ⟨fun P hP => absurd (Hyes.out P hP).1.1 hY, fun _ w => ?_⟩
  have hCw := HC.out
  rw [decide_eq_false hY] at hCw
  have HC1 := Lib.hid hCw
  clear hCw HC Hyes hY
  have hE0 := Env.nil w
  go_enter Tryz.func28, Tryz.ntmps28
  repeat ((fail_if_success refine sqx ?_); go_step)
  refine wl_step (st_boxA hE0 rfl rfl rfl ?_)
  intro g0 w1 hb1 hE1
  clear hE0
  simp only [qZ]
  refine wl_step (sqA (ints .u64 (List.replicate 20 0)) hE1 ?_)
  intro g1 w2 hb2 hE2
  clear hE1
  simp only [qZ]
  refine mqC ?_
  repeat ((fail_if_success refine sqx ?_); go_step)
  refine wqv (vqI (j := 31) Tryz.underlying22) ?_
  refine wqv (vqC 1 hE2 Tryz.underlying5) ?_
  rw [Ht.out]
  refine wqv (v_shrC (s := 7) (d := 128) rfl rfl rfl (by decide) (by decide)) ?_
  refine wqv (v_eql (n := 1) rfl rfl rfl) ?_
  rw [Hod.out]
  refine mqB ?_
  repeat ((fail_if_success refine sqx ?_); go_step)
  refine wqv (vqI (j := 31) Tryz.underlying22) ?_
  refine wqv (vqC 1 hE2 Tryz.underlying5) ?_
  rw [Ht.out]
  refine wqv (v_mask (c := 127) (s := 7) (d := 128) rfl rfl rfl (by decide) (by decide) rfl (by simp only [IntKind.bits]; omega) (by decide)) ?_
  refine wqv (vqI (j := 31) Tryz.underlying22) ?_
  refine wl_step (st_putN (i := 1) hE2 rfl rfl rfl rfl rfl (by kernel_rfl) (by first | assumption | omega | (simp only [List.length_set, List.length_replicate]; first | assumption | omega)) ?_)
  intro w3 hE3
  clear hE2
  simp only [qpB, qpC] at hE3
  simp only [qZ]
  rw [Hbe.out] at hE3
  repeat ((fail_if_success refine sqx ?_); go_step)
  refine wqv (vqL 1 32 hE3 Tryz.underlying22) ?_
  refine wl_step (st_gives hE3 rfl (run_call rfl Tryz.call69) (HC1.out _) ?_)
  intro w4 hb4 hE4
  clear hE3
  simp only [qZ]
  refine wqv (v_not rfl rfl) ?_
  repeat ((fail_if_success refine sqy ?_); go_step)
  refine cqT ?_
  skip
  repeat ((fail_if_success refine sqx ?_); go_step)
  refine wl_step (st_gives hE4 rfl (run_call rfl Tryz.call51) (PZero_any _) ?_)
  intro w5 hb5 hE5
  clear hE4
  simp only [qZ]
  refine wl_step (sqS 0 20 hE5 ?_)
  intro w6 hE6
  clear hE5
  simp only [qpB, qpC] at hE6
  simp only [qZ]
  refine mqC ?_
  repeat ((fail_if_success refine sqx ?_); go_step)
  refine bodyPost_ret (results_ct rfl _ _ _ _ _ (0, 0) _ rfl (hE6.get (i := 0) rfl) Tryz.underlying55 rfl (szqA (n := 20)) rfl) rfl ⟨rfl, hE6.below⟩
theorem PDecode_yes {b : List Nat} {P : Pt} (hb : b.length = 32) (db : Digs 256 b) (hP : encN P = val 256 b) : ∃ c, PRep c P ∧ ∀ w, Gives 28 #[.agg (ints .u8 b)] w (.tuple #[pt c, .bool true]) := (PDecode_walk hb db _ rfl).1 P hP
theorem PDecode_no {b : List Nat} (hb : b.length = 32) (db : Digs 256 b) (h : ¬ isPt (val 256 b)) (w : World) : Gives 28 #[.agg (ints .u8 b)] w (.tuple #[pt zeroL, .bool false]) := (PDecode_walk hb db _ rfl).2 h w
end Go.Proofs.YthddoelflmoedaaGreat
namespace Go.Proofs.YthddoelflmoedaaGreat
open Go.RowKit
set_option maxRecDepth 100000

def big8 : Nat := 115792089237316195423570985008687907853269984665640564039457584007913129639936
theorem big8_eq : big8 = 4294967296 ^ 8 := by decide
abbrev nm (n : Nat) : Value := .agg (ints .u32 (digs 4294967296 8 n))
theorem nm_len (n : Nat) : (digs 4294967296 8 n).length = 8 := digs_length _ _ _
theorem nm_get (n i : Nat) (h : i < 8) : (digs 4294967296 8 n).getD i 0 = n / 4294967296 ^ i % 4294967296 := digs_getD _ _ _ _ h
theorem nm_val {n : Nat} (h : n < big8) : val 4294967296 (digs 4294967296 8 n) = n := by
 rw [val_digs]
 exact Nat.mod_eq_of_lt h
theorem w_u32 {n : Nat} (h : n < 4294967296) : IntKind.u32.wrap (n : Int) = (n : Int) := w_uns rfl h
theorem w_u32m (n : Nat) : IntKind.u32.wrap (n : Int) = ((n % 4294967296 : Nat) : Int) := by simp [IntKind.wrap, IntKind.bits, IntKind.signed]
theorem w_u64d (m n : Nat) (hn : n ≤ 18446744073709551616) : IntKind.u64.wrap ((m : Int) - (n : Int)) = (((m + 18446744073709551616 - n) % 18446744073709551616 : Nat) : Int) := by rw [IntKind.wrap_u64]; omega

set_option maxHeartbeats 1000000 in
theorem P_any (w : World) : Gives 39 #[] w (nm pN) := by
 have hE0 := Env.nil w
 go_enter Tryz.func39, Tryz.ntmps39
 repeat ((fail_if_success refine sqx ?_); go_step)
 refine wl_step (sqA (ints .u32 (List.replicate 8 0)) hE0 ?_)
 intro g0 w1 hb1 hE1
 clear hE0
 simp only [qZ]
 repeat ((fail_if_success refine sqx ?_); go_step)
 refine wqv (v_built (k := .u32) (l := digs 4294967296 8 pN) rfl (fun w => by kernel_rfl)) ?_
 refine wl_step (sqS 0 8 hE1 ?_)
 intro w2 hE2
 clear hE1
 simp only [qpB, qpC] at hE2
 simp only [qZ]
 repeat ((fail_if_success refine sqx ?_); go_step)
 refine bodyPost_ret (results_cell_row rfl _ _ _ _ _ (0, 0) _ rfl (hE2.get (i := 0) rfl) Tryz.underlying41 rfl (szqA (n := 8))) rfl ⟨rfl, hE2.below⟩
set_option maxHeartbeats 1000000 in
theorem rSmall_any {n : Nat} (hn : n < 4294967296) (w : World) : Gives 42 #[.int .u32 n] w (nm n) := by
 have e : digs 4294967296 8 n = [n, 0, 0, 0, 0, 0, 0, 0] := by
  rw [show digs 4294967296 8 n = n % 4294967296 :: digs 4294967296 7 (n / 4294967296) from rfl, Nat.mod_eq_of_lt hn, Nat.div_eq_of_lt hn]
  rfl
 show Gives _ _ w (.agg (ints .u32 (digs 4294967296 8 n)))
 rw [e]
 have hE0 := Env.nil w
 go_enter Tryz.func42, Tryz.ntmps42
 repeat ((fail_if_success refine sqx ?_); go_step)
 refine wl_step (sqA (ints .u32 (List.replicate 8 0)) hE0 ?_)
 intro g0 w1 hb1 hE1
 clear hE0
 simp only [qZ]
 repeat ((fail_if_success refine sqx ?_); go_step)
 refine mqA ?_
 refine wqv (v_built (k := .u32) (l := [n, 0, 0, 0, 0, 0, 0, 0]) rfl (fun w => by kernel_rfl)) ?_
 refine wl_step (sqS 0 8 hE1 ?_)
 intro w2 hE2
 clear hE1
 simp only [qpB, qpC] at hE2
 simp only [qZ]
 repeat ((fail_if_success refine sqx ?_); go_step)
 refine bodyPost_ret (results_cell_row rfl _ _ _ _ _ (0, 0) _ rfl (hE2.get (i := 0) rfl) Tryz.underlying41 rfl (szqA (n := 8))) rfl ⟨rfl, hE2.below⟩
set_option maxHeartbeats 1000000 in
theorem rOdd_any {n : Nat} (hn : n < big8) (w : World) : Gives 61 #[nm n] w (.bool (decide (n % 2 = 1))) := by
 have hl := nm_len n
 have hg := Lib.hid (nm_get n 0 (by decide))
 have hm : n / 4294967296 ^ 0 % 4294967296 % 2 = n % 2 := by
  rw [Nat.pow_zero, Nat.div_one]
  exact Nat.mod_mod_of_dvd _ (by decide)
 have Hm := Lib.hid hm
 clear hm hn
 have hE0 := Env.nil w
 go_enter Tryz.func61, Tryz.ntmps61
 repeat ((fail_if_success refine sqx ?_); go_step)
 refine wl_step (st_boxA hE0 rfl rfl rfl ?_)
 intro g0 w1 hb1 hE1
 clear hE0
 simp only [qZ]
 refine mqC ?_
 repeat ((fail_if_success refine sqx ?_); go_step)
 refine wqv (vqI (j := 0) Tryz.underlying41) ?_
 refine wqv (vqC 0 hE1 Tryz.underlying39) ?_
 rw [hg.out]
 refine wqv (v_rem (n := 2) rfl rfl rfl (by omega)) ?_
 rw [Hm.out]
 refine wqv (v_eql (n := 1) rfl rfl rfl) ?_
 refine mqB ?_
 repeat ((fail_if_success refine sqx ?_); go_step)
 go_returns
 exact ⟨rfl, hE1.below⟩

/-! ### Which is less -/
theorem dstep (B A j : Nat) : A / B ^ j = B * (A / B ^ (j + 1)) + A / B ^ j % B := by
 rw [Nat.pow_succ, ← Nat.div_div_eq_div_mul]
 exact (Nat.div_add_mod _ _).symm
theorem lt_of_div' {B A C j : Nat} (h : A / B ^ j < C / B ^ j) : A < C := by
 rcases Nat.lt_or_ge A C with h' | h'
 ·exact h'
 ·have := Nat.div_le_div_right (c := B ^ j) h'
  omega
theorem tells' {B A C j : Nat} (hB : 0 < B) (h : A / B ^ (j + 1) = C / B ^ (j + 1)) (hne : ¬ A / B ^ j % B = C / B ^ j % B) : decide (A / B ^ j % B < C / B ^ j % B) = decide (A < C) := by
 apply decide_eq_decide.2
 have ha := dstep B A j
 have hb := dstep B C j
 rw [h] at ha
 constructor
 ·intro h'
  exact lt_of_div' (B := B) (j := j) (by omega)
 ·intro h'
  rcases Nat.lt_trichotomy (A / B ^ j) (C / B ^ j) with h1 | h1 | h1
  ·omega
  ·omega
  ·have := lt_of_div' h1
   omega
theorem goes' {B A C j : Nat} (h : A / B ^ (j + 1) = C / B ^ (j + 1)) (he : A / B ^ j % B = C / B ^ j % B) : A / B ^ j = C / B ^ j := by
 rw [dstep B A j, dstep B C j, h, he]

theorem v_ltS {a : Act} {w : World} {o : Oper} {P : Program} {t t' : TypeId} {x y : Operand} {k : IntKind} {m n : Nat} {b : Bool} (ho : o.op = .binOp .lss t x y t') (hx : a.eval x = .int k (m : Int)) (hy : a.eval y = .int k (n : Int)) (hb : decide (m < n) = b) : Val P o a (.bool b) w := by
 subst hb
 exact v_lss ho hx hy
theorem v_neS {a : Act} {w : World} {o : Oper} {P : Program} {t t' : TypeId} {x y : Operand} {k : IntKind} {m n : Nat} {b : Bool} (ho : o.op = .binOp .neq t x y t') (hx : a.eval x = .int k (m : Int)) (hy : a.eval y = .int k (n : Int)) (hb : decide (m ≠ n) = b) : Val P o a (.bool b) w := by
 subst hb
 exact v_neq ho hx hy

set_option maxHeartbeats 2000000 in
theorem Less_any {m n : Nat} (hm : m < big8) (hn : n < big8) (w : World) : Gives 37 #[nm m, nm n] w (.bool (decide (m < n))) := by
 have hm8 := nm_len m
 have hn8 := nm_len n
 have h8 : m / 4294967296 ^ 8 = n / 4294967296 ^ 8 := by rw [Nat.div_eq_of_lt (big8_eq ▸ hm), Nat.div_eq_of_lt (big8_eq ▸ hn)]
 have H8 := Lib.hid h8
 have Hgm := Lib.hid (nm_get m)
 have Hgn := Lib.hid (nm_get n)
 clear hm hn h8
 have hE0 := Env.nil w
 go_enter Tryz.func37, Tryz.ntmps37
 repeat ((fail_if_success refine sqx ?_); go_step)
 refine wl_step (st_boxA hE0 rfl rfl rfl ?_)
 intro g0 w1 hb1 hE1
 clear hE0
 simp only [qZ]
 refine wl_step (st_boxA hE1 rfl rfl rfl ?_)
 intro g1 w2 hb2 hE2
 clear hE1
 simp only [qZ]
 refine mqC ?_
 repeat ((fail_if_success refine sqx ?_); go_step)
 refine mqC ?_
 go_wp2
 go_loopw [5] (fun i wr => ∃ K : Nat, K ≤ 8 ∧ i = .int .i64 ((K : Int) - 1) ∧ Hid (m / 4294967296 ^ K = n / 4294967296 ^ K) ∧ Env w [⟨g1, 41, ints .u32 (digs 4294967296 8 n)⟩, ⟨g0, 41, ints .u32 (digs 4294967296 8 m)⟩] wr) (fun i _ => (intOf i + 1).toNat)
 case atStart => exact ⟨8, Nat.le_refl _, rfl, H8, hE2⟩
 case round =>
  clear hE2
  obtain ⟨K, hK, rfl, hAB, hE0⟩ := hrel
  cases K with
  | zero =>
   have hfin : decide (m < n) = false := by
    have h := hAB.out
    rw [Nat.pow_zero, Nat.div_one, Nat.div_one] at h
    rw [h]
    exact decide_eq_false (Nat.lt_irrefl _)
   have HF := Lib.hid hfin
   clear hfin
   repeat ((fail_if_success refine sqx ?_); go_step)
   refine mqA ?_
   refine wqv (v_geqI rfl rfl rfl) ?_
   repeat ((fail_if_success refine sqx ?_); go_step)
   refine mqC ?_
   repeat ((fail_if_success refine sqx ?_); go_step)
   go_returns
   exact ⟨by rw [HF.out]; rfl, hE0.below⟩
  | succ j =>
   have hj : ((j + 1 : Nat) : Int) - 1 = (j : Int) := by omega
   rw [hj]
   clear hj
   have hj8 : j < 8 := by omega
   have hgm := Lib.hid (Hgm.out j hj8)
   have hgn := Lib.hid (Hgn.out j hj8)
   by_cases he : m / 4294967296 ^ j % 4294967296 = n / 4294967296 ^ j % 4294967296
   ·have hgo := Lib.hid (goes' hAB.out he)
    have hd := Lib.hid (decide_eq_false (not_not_intro he))
    clear he hAB
    repeat ((fail_if_success refine sqx ?_); go_step)
    refine mqA ?_
    refine wqv (v_geqI rfl rfl rfl) ?_
    repeat ((fail_if_success refine sqx ?_); go_step)
    refine wp_region_B (n := 7) 7 (by kernel_rfl) rfl hE0 ?_
    intro w1 hb1 hE1
    clear hE0
    refine tqB 0 rfl (v_moveT (.inl rfl) rfl) ?_
    refine tqB 1 rfl (vqI Tryz.underlying41) ?_
    refine tqB 2 rfl (vqC 1 hE1 Tryz.underlying39) ?_
    rw [hgm.out]
    refine tqB 3 rfl (v_moveT (.inl rfl) rfl) ?_
    refine tqB 4 rfl (vqI Tryz.underlying41) ?_
    refine tqB 5 rfl (vqC 0 hE1 Tryz.underlying39) ?_
    rw [hgn.out]
    refine tqB 6 rfl (v_neS rfl rfl rfl hd.out) ?_
    refine wpB_done (by kernel_rfl) ?_ _
    repeat ((fail_if_success refine sqy ?_); go_step)
    refine cqF ?_
    skip
    repeat ((fail_if_success refine sqx ?_); go_step)
    refine mqA ?_
    refine wqv (v_sub (n := 1) rfl rfl rfl (by first | exact w_i64s (by omega) (by omega) | exact w_i64I (by omega) (by omega))) ?_
    refine mqB ?_
    go_wp2
    go_roundw
    case rel => exact ⟨j, by omega, rfl, hgo, hE1⟩
    case measure => simp [intOf]
   ·have hte := Lib.hid (tells' (by decide) hAB.out he)
    have hd := Lib.hid (decide_eq_true he)
    clear he hAB
    repeat ((fail_if_success refine sqx ?_); go_step)
    refine mqA ?_
    refine wqv (v_geqI rfl rfl rfl) ?_
    repeat ((fail_if_success refine sqx ?_); go_step)
    refine wp_region_B (n := 7) 7 (by kernel_rfl) rfl hE0 ?_
    intro w1 hb1 hE1
    clear hE0
    refine tqB 0 rfl (v_moveT (.inl rfl) rfl) ?_
    refine tqB 1 rfl (vqI Tryz.underlying41) ?_
    refine tqB 2 rfl (vqC 1 hE1 Tryz.underlying39) ?_
    rw [hgm.out]
    refine tqB 3 rfl (v_moveT (.inl rfl) rfl) ?_
    refine tqB 4 rfl (vqI Tryz.underlying41) ?_
    refine tqB 5 rfl (vqC 0 hE1 Tryz.underlying39) ?_
    rw [hgn.out]
    refine tqB 6 rfl (v_neS rfl rfl rfl hd.out) ?_
    refine wpB_done (by kernel_rfl) ?_ _
    repeat ((fail_if_success refine sqy ?_); go_step)
    refine cqT ?_
    skip
    repeat ((fail_if_success refine sqx ?_); go_step)
    refine wp_region_B (n := 8) 7 (by kernel_rfl) rfl hE1 ?_
    intro w2 hb2 hE2
    clear hE1
    refine tqB 0 rfl (v_moveT (.inl rfl) rfl) ?_
    refine tqB 1 rfl (vqI Tryz.underlying41) ?_
    refine tqB 2 rfl (vqC 1 hE2 Tryz.underlying39) ?_
    rw [hgm.out]
    refine tqB 3 rfl (v_moveT (.inl rfl) rfl) ?_
    refine tqB 4 rfl (vqI Tryz.underlying41) ?_
    refine tqB 5 rfl (vqC 0 hE2 Tryz.underlying39) ?_
    rw [hgn.out]
    refine tqB 6 rfl (v_ltS rfl rfl rfl hte.out) ?_
    refine sqB 7 rfl (st_val rfl (v_moveT (.inr rfl) rfl) ?_)
    refine ⟨fun _ => Below.refl _ _, ?_⟩
    simp only [qZ]
    refine wpB_done (by kernel_rfl) ?_ _
    repeat ((fail_if_success refine sqx ?_); go_step)
    go_returns
    exact ⟨rfl, hE2.below⟩
end Go.Proofs.YthddoelflmoedaaGreat
