/-
  Layer 3, the document's: the sum of bytes.
-/
import Derived.Test.YtndnmghlgcamfaaDigO
namespace Go.Proofs.Ytndnmghlgcamfaa
open Go.RowKit
set_option linter.unusedVariables false
set_option linter.unusedSimpArgs false

/-- What a message's length is told by, with what stands ahead of it. -/
def tailL (r x : Nat) : List Nat := List.replicate (r - 8) 0 ++ beD 8 x
theorem tailL_len {r : Nat} (hr : 8 ≤ r) (x : Nat) : (tailL r x).length = r := by
  unfold tailL
  rw [List.length_append, List.length_replicate, beD_len]
  omega
theorem tailL_hi {r x K : Nat} (hK : 8 ≤ K) (hKr : K < r) : (tailL r x).getD (r - (K + 1)) 0 = 0 := by
  unfold tailL
  rw [List.getD_eq_getElem?_getD, List.getElem?_append_left (by rw [List.length_replicate]; omega), List.getElem?_replicate, if_pos (by omega)]
  rfl
theorem tailL_lo {r x K : Nat} (hr : 8 ≤ r) (hK : K < 8) : (tailL r x).getD (r - (K + 1)) 0 = x / 2 ^ (8 * K) % 256 := by
  unfold tailL
  rw [List.getD_eq_getElem?_getD, List.getElem?_append_right (by rw [List.length_replicate]; omega), List.length_replicate, List.getElem?_eq_getElem (by rw [beD_len]; omega)]
  rw [beD_get (by omega)]
  show x / 256 ^ (8 - 1 - (r - (K + 1) - (r - 8))) % 256 = _
  rw [show 8 - 1 - (r - (K + 1) - (r - 8)) = K by omega, show (256 : Nat) = 2 ^ 8 from rfl, ← Nat.pow_mul]
theorem take_snoc {l : List Nat} {n : Nat} (h : n < l.length) : l.take n ++ [l.getD n 0] = l.take (n + 1) := by
  rw [List.take_succ_eq_append_getElem h, List.getD_eq_getElem?_getD, List.getElem?_eq_getElem h]
  rfl
theorem padL_eq (B r : Nat) (m : List Nat) : padL B r m = (m ++ 128 :: List.replicate (padK m.length B r) 0) ++ tailL r (m.length * 8 % 18446744073709551616) := by
  unfold padL fillL tailL
  simp
  rw [← List.append_assoc, List.replicate_append_replicate]
/-- The byte c of a word. -/
theorem byte_of {w c x : Nat} (h8 : w = 8 * (w / 8)) (hc : c < w / 8) : (beD (w / 8) x).getD c 0 = x / 2 ^ (w - 8 - 8 * c) % 256 := by
  rw [List.getD_eq_getElem?_getD, List.getElem?_eq_getElem (by rw [beD_len]; exact hc), beD_get hc]
  show x / 256 ^ (w / 8 - 1 - c) % 256 = _
  rw [show (256 : Nat) = 2 ^ 8 from rfl, ← Nat.pow_mul, show 8 * (w / 8 - 1 - c) = w - 8 - 8 * c by omega]

/-- What reads in every world that holds these blocks. -/
def Sees (w0 : World) (l : List Blk) (k : IntKind) (ns : List Nat) (v : Value) : Prop := ∀ w', Env w0 l w' → RdS k ns v w'
theorem Ow.sees {w0 : World} {e : TypeId} {k : IntKind} {ns : List Nat} {v : Value} {bs : List Blk} (h : Ow e (nats k ns) v bs) : Sees w0 bs k ns v := fun w' hE => (h.sl (l := []) (by rw [List.append_nil]; exact hE)).rd
theorem RdS.sees {w0 : World} {k : IntKind} {ns : List Nat} {v : Value} (h : RdS k ns v w0) : Sees w0 [] k ns v := fun w' hE => h.below hE.below
theorem Sees.len {w0 w : World} {l : List Blk} {k : IntKind} {ns : List Nat} {v : Value} (h : Sees w0 l k ns v) (hE : Env w0 l w) : ∃ p c, v = .slice p ns.length c ∧ ns.length ≤ c := by
  obtain ⟨p, c, h1, h2, -⟩ := h w hE
  exact ⟨p, c, h1, h2⟩

set_option maxRecDepth 100000 in
set_option maxHeartbeats 16000000 in
theorem rSum_any {k : Kd} {r : Nat} {m : List Nat} {fv rv mv : Value} {w : World} (hk : KOk k) (hf : k.first.length = 8) (hfd : ∀ j, k.first.getD j 0 < 2 ^ k.w) (hw0 : 8 ≤ k.w) (hr : 8 ≤ r) (hr2 : r ≤ 16) (hm : m.length < 549755813888) (dm : Digs 256 m)
    (hF : RdS .u64 k.first fv w) (hR : RdS .u64 k.rounds rv w) (hM : RdS .u8 m mv w) :
    Calls Try.prog 22 #[.agg (kcl k r fv rv).toArray, mv] w fun e w' => ∃ v, e = .returned v ∧ Sl w [] 5 (nats .u8 (sumS k (2 * k.w) r m)) v w' := by
  obtain ⟨p1, c1, rfl, hc1, -⟩ := id hM
  obtain ⟨p2, c2, rfl, hc2, -⟩ := id hF
  have hw64 := hk.w64
  have hb8 := hk.b8
  have Hk := Lib.hid hk
  obtain ⟨iu, hi, hz, hs, hby⟩ := info_u8
  have Hi := Lib.hid hi
  have Hz := Lib.hid hz
  have Hs := Lib.hid hs
  have Hby := Lib.hid hby
  have Hby8 := Lib.hid hby
  have HF := Lib.hid hF
  have HR := Lib.hid hR
  have HM := Lib.hid hM
  have Hdm := Lib.hid dm
  have hB0 : 0 < 2 * k.w := by omega
  have Hpk := Lib.hid (padK_zero (n := m.length) (r := r) hB0)
  have Hpm := Lib.hid (fun j (hj : j < padK m.length (2 * k.w) r) => padK_min (n := m.length) (r := r) hB0 hj)
  have hpl := padK_lt (n := m.length) (r := r) hB0
  have hpe := padL_eq (2 * k.w) r m
  have hpmod := padL_mod hB0 hr m
  have dP : Digs 256 (padL (2 * k.w) r m) := padL_Digs dm
  have hres : sumS k (2 * k.w) r m = outL (k.w / 8) (chainS k (2 * k.w) k.first (padL (2 * k.w) r m) ((padL (2 * k.w) r m).length / (2 * k.w))) := rfl
  obtain ⟨pk, hpk⟩ : ∃ pk, padK m.length (2 * k.w) r = pk := ⟨_, rfl⟩
  rw [hpk] at Hpk Hpm hpl hpe
  obtain ⟨BB, hBB⟩ : ∃ BB, 2 * k.w = BB := ⟨_, rfl⟩
  rw [hBB] at hB0 Hpk Hpm hpl hpe hpmod dP hres hpk ⊢
  obtain ⟨x8, hx8⟩ : ∃ x8, m.length * 8 % 18446744073709551616 = x8 := ⟨_, rfl⟩
  have hx8l : x8 < 18446744073709551616 := by rw [← hx8]; exact Nat.mod_lt _ (by decide)
  rw [hx8] at hpe
  obtain ⟨PP, hPP⟩ : ∃ PP, padL BB r m = PP := ⟨_, rfl⟩
  rw [hPP] at hpe hpmod dP hres
  have Hres := Lib.hid hres
  have Hpe := Lib.hid hpe
  have HdP := Lib.hid dP
  have Hx8 := Lib.hid hx8
  have hPl : PP.length < 1099511627776 := by
    rw [hpe, List.length_append, List.length_append, List.length_cons, List.length_replicate, tailL_len hr]
    omega
  have Hfd := Lib.hid hfd
  have hsum : Hid (∃ ss, sumS k BB r m = ss) := Lib.hid ⟨_, rfl⟩
  clear hi hz hs hby hF hR hM dm hk hpk hPP dP hpe hres hx8 hfd hsum
  have HBB := Lib.hid hBB
  have hone : ([] : List Value).length + m.length ≤ maxLen := by simp only [List.length_nil, maxLen]; omega
  have hfit : (([] : List Value).length + m.length) * 1 ≤ 140737488355328 := by simp only [List.length_nil]; omega
  have hone2 : (nats .u8 m).length + ([128] : List Nat).length ≤ maxLen := by rw [nats_len]; simp only [List.length_singleton, maxLen]; omega
  have hfit2 : ((nats .u8 m).length + ([128] : List Nat).length) * 1 ≤ 140737488355328 := by rw [nats_len]; simp only [List.length_singleton]; omega
  have hE0 := Env.nil w
  go_enter Try.func22, Try.ntmps22
  repeat ((fail_if_success (with_reducible show wpList _ _ _ (List.cons _ _) _ _)); (fail_if_success (with_reducible show Code.wp _ (Code.region _ _ true) _ _ _)); go_step)
  refine wl_step (st_boxA hE0 rfl rfl rfl ?_)
  intro g0 w1 hb1 hE1
  clear hE0
  simp only [Act.put, List.setIfInBounds_toArray, List.set_cons_zero, List.set_cons_succ]
  refine wl_step (st_val rfl (v_moveC (.inr rfl)) ?_)
  simp only [Act.put, List.setIfInBounds_toArray, List.set_cons_zero, List.set_cons_succ]
  repeat ((fail_if_success (with_reducible show wpList _ _ _ (List.cons _ _) _ _)); (fail_if_success (with_reducible show Code.wp _ (Code.region _ _ true) _ _ _)); go_step)
  refine wl_step (st_build0 hE1 rfl rfl Try.underlying25 (by kernel_rfl) ?_)
  intro g1 w2 hb2 hE2
  clear hE1
  simp only [Act.put, List.setIfInBounds_toArray, List.set_cons_zero, List.set_cons_succ]
  refine wl_step (st_val rfl (v_moveT (.inl rfl) rfl) ?_)
  simp only [Act.put, List.setIfInBounds_toArray, List.set_cons_zero, List.set_cons_succ]
  refine wl_step (st_append (Sl.of_block hE2 (by decide)) rfl rfl Try.underlying25 Hi.out Hz.out Hs.out rfl Hby.out rfl rfl (HM.out.below hE2.below) hone hfit ?_)
  intro v3 w3 hS3
  have hE3 := hS3.env
  clear hE2
  simp only [Act.put, List.setIfInBounds_toArray, List.set_cons_zero, List.set_cons_succ]
  obtain ⟨bs0, ho0, hEE⟩ := hS3.ow
  clear hE3 hS3
  have hE3 := hEE
  clear hEE
  refine wl_step (st_buildNums (k := .u8) [128] hE3 rfl rfl (by first | (kernel_rfl; done) | (simp only [List.map_cons, List.map_nil, List.zipIdx_cons, List.zipIdx_nil]; rfl)) rfl (by decide) (by decide) Try.underlying25 (by kernel_rfl) Try.zeroValue5 ?_)
  intro g2 w4 hb4 hE4
  clear hE3
  simp only [Act.put, List.setIfInBounds_toArray, List.set_cons_zero, List.set_cons_succ]
  refine wl_step (st_append (Ow.sl (xs := nats .u8 m) ho0 (hE4.perm List.perm_middle.symm)) rfl rfl Try.underlying25 Hi.out Hz.out Hs.out rfl Hby.out rfl rfl (RdS.of_block (hE4.get (i := 0) rfl)) hone2 hfit2 ?_)
  intro v5 w5 hS5
  have hE5 := hS5.env
  clear hE4
  simp only [Act.put, List.setIfInBounds_toArray, List.set_cons_zero, List.set_cons_succ]
  obtain ⟨bs1, ho1, hEE⟩ := hS5.ow
  clear hE5 hS5
  have hE5 := (Env.mid.1 (hEE.sub (List.Sublist.append_left (List.Sublist.cons _ (List.Sublist.refl _)) _)))
  clear hEE ho0
  rw [nats_append] at ho1
  refine wl_step (st_val rfl (v_moveT (.inr rfl) rfl) ?_)
  simp only [Act.put, List.setIfInBounds_toArray, List.set_cons_zero, List.set_cons_succ]
  repeat ((fail_if_success (with_reducible show wpList _ _ _ (List.cons _ _) _ _)); (fail_if_success (with_reducible show Code.wp _ (Code.region _ _ true) _ _ _)); go_step)
  refine wl_step (st_val rfl (v_field0 (s := 0) rfl rfl Try.underlying57 rfl (by kernel_rfl) rfl) ?_)
  simp only [Act.put, List.setIfInBounds_toArray, List.set_cons_zero, List.set_cons_succ]
  refine wl_step (st_val rfl (v_cellB (i := 0) hE5 rfl rfl rfl Try.underlying3 rfl kcl_w) ?_)
  simp only [Act.put, List.setIfInBounds_toArray, List.set_cons_zero, List.set_cons_succ]
  refine wl_step (st_val rfl (v_mul (m := 2) rfl rfl rfl (w_i64 (by omega))) ?_)
  simp only [Act.put, List.setIfInBounds_toArray, List.set_cons_zero, List.set_cons_succ]
  rw [HBB.out]
  refine wl_step (st_val rfl (v_moveT (.inr rfl) rfl) ?_)
  simp only [Act.put, List.setIfInBounds_toArray, List.set_cons_zero, List.set_cons_succ]
  have Ho1 : Hid (Ow 5 (nats .u8 (m ++ 128 :: List.replicate 0 0)) v5 bs1) := Lib.hid ho1
  have hst := hE5
  clear hE5 ho1 hone hfit hone2 hfit2
  go_wp2
  go_loopw [5] (fun s wr => ∃ (j : Nat) (bs : List Blk), j ≤ pk ∧ Hid (Ow 5 (nats .u8 (m ++ 128 :: List.replicate j 0)) s bs) ∧ Env w (⟨g0, 57, (kcl k r (.slice p2 k.first.length c2) rv).toArray⟩ :: (bs ++ [])) wr) (fun s _ => 1099511627776 - valLen s)
  case atStart => exact ⟨0, bs1, Nat.zero_le _, Ho1, hst⟩
  case round =>
    clear hst Ho1
    obtain ⟨j, bs, hj, hO, hE0⟩ := hrel
    obtain ⟨p, c, rfl, hc⟩ := hO.out.lenN
    have hL : (m ++ 128 :: List.replicate j 0).length = m.length + (1 + j) := by rw [List.length_append, List.length_cons, List.length_replicate]; omega
    have hLn : (m ++ 128 :: List.replicate j 0).length < 9223372036854775808 := by omega
    by_cases hjp : j < pk
    · have hne := Hpm.out j (by omega)
      rw [← hL] at hne
      have Hne := Lib.hid (decide_eq_true hne)
      have e : nats .u8 (m ++ 128 :: List.replicate j 0) ++ nats .u8 [0] = nats .u8 (m ++ 128 :: List.replicate (j + 1) 0) := by
        rw [nats_append, List.append_assoc]
        congr 2
        rw [List.cons_append, List.replicate_succ']
      have He := Lib.hid e
      have h63 : (nats .u8 (m ++ 128 :: List.replicate j 0)).length + ([0] : List Nat).length ≤ maxLen := by rw [nats_len, hL]; simp only [List.length_singleton, maxLen]; omega
      have hft : ((nats .u8 (m ++ 128 :: List.replicate j 0)).length + ([0] : List Nat).length) * 1 ≤ 140737488355328 := by rw [nats_len, hL]; simp only [List.length_singleton]; omega
      have hL2 : (m ++ 128 :: List.replicate (j + 1) 0).length = m.length + (1 + j) + 1 := by rw [List.length_append, List.length_cons, List.length_replicate]; omega
      clear hne e
      repeat ((fail_if_success (with_reducible show wpList _ _ _ (List.cons _ _) _ _)); (fail_if_success (with_reducible show Code.wp _ (Code.region _ _ true) _ _ _)); go_step)
      refine wl_step (st_val rfl (v_moveT (.inl rfl) rfl) ?_)
      simp only [Act.put, List.setIfInBounds_toArray, List.set_cons_zero, List.set_cons_succ]
      refine wl_step (st_val rfl (v_len rfl rfl Try.underlying25 hLn) ?_)
      simp only [Act.put, List.setIfInBounds_toArray, List.set_cons_zero, List.set_cons_succ]
      refine wl_step (st_val rfl (v_fieldB (s := 0) rfl rfl Try.underlying57 rfl (by kernel_rfl) rfl) ?_)
      simp only [Act.put, List.setIfInBounds_toArray, List.set_cons_zero, List.set_cons_succ]
      refine wl_step (st_val rfl (v_cellB (i := 0) hE0 rfl rfl rfl Try.underlying3 rfl kcl_m) ?_)
      simp only [Act.put, List.setIfInBounds_toArray, List.set_cons_zero, List.set_cons_succ]
      refine wl_step (st_val rfl (v_add rfl rfl rfl (w_i64 (by omega))) ?_)
      simp only [Act.put, List.setIfInBounds_toArray, List.set_cons_zero, List.set_cons_succ]
      refine wl_step (st_val rfl (v_moveT (.inl rfl) rfl) ?_)
      simp only [Act.put, List.setIfInBounds_toArray, List.set_cons_zero, List.set_cons_succ]
      refine wl_step (st_val rfl (v_rem rfl rfl rfl (by omega)) ?_)
      simp only [Act.put, List.setIfInBounds_toArray, List.set_cons_zero, List.set_cons_succ]
      refine wl_step (st_val rfl (v_neq (n := 0) rfl rfl rfl) ?_)
      simp only [Act.put, List.setIfInBounds_toArray, List.set_cons_zero, List.set_cons_succ]
      rw [Hne.out]
      repeat ((fail_if_success (with_reducible show wpList _ _ _ (List.cons _ _) _ _)); (fail_if_success (with_reducible show Code.wp _ (Code.region _ _ true) _ _ _)); (fail_if_success (with_reducible show Code.wp _ (Code.cond _ _ _) _ _ _)); go_step)
      refine wp_cond_true (by first | rfl | exact congrArg Value.bool (decide_eq_true (by omega))) ?_
      skip
      repeat ((fail_if_success (with_reducible show wpList _ _ _ (List.cons _ _) _ _)); (fail_if_success (with_reducible show Code.wp _ (Code.region _ _ true) _ _ _)); go_step)
      refine wl_step (st_val rfl (v_moveT (.inl rfl) rfl) ?_)
      simp only [Act.put, List.setIfInBounds_toArray, List.set_cons_zero, List.set_cons_succ]
      refine wl_step (st_buildNums (k := .u8) [0] hE0 rfl rfl (by first | (kernel_rfl; done) | (simp only [List.map_cons, List.map_nil, List.zipIdx_cons, List.zipIdx_nil]; rfl)) rfl (by decide) (by decide) Try.underlying25 (by kernel_rfl) Try.zeroValue5 ?_)
      intro g1 w1 hb1 hE1
      clear hE0
      simp only [Act.put, List.setIfInBounds_toArray, List.set_cons_zero, List.set_cons_succ]
      refine wl_step (st_append (hO.out.sl (hE1.perm ((List.Perm.cons _ List.perm_middle.symm).trans List.perm_middle.symm))) rfl rfl Try.underlying25 Hi.out Hz.out Hs.out rfl Hby.out rfl rfl (RdS.of_block (hE1.get (i := 0) rfl)) h63 hft ?_)
      intro v2 w2 hS2
      have hE2 := hS2.env
      clear hE1
      simp only [Act.put, List.setIfInBounds_toArray, List.set_cons_zero, List.set_cons_succ]
      obtain ⟨bs2, ho2, hEE⟩ := hS2.ow
      rw [He.out] at ho2
      refine wl_step (st_val rfl (v_moveT (.inr rfl) rfl) ?_)
      simp only [Act.put, List.setIfInBounds_toArray, List.set_cons_zero, List.set_cons_succ]
      obtain ⟨p5, c5, hv5, hc5⟩ := ho2.lenN
      subst hv5
      go_wp2
      go_roundw
      case rel => exact ⟨j + 1, bs2, by omega, Lib.hid ho2, Env.mid.1 (hEE.sub (List.Sublist.append_left (List.Sublist.cons _ (List.Sublist.refl _)) _))⟩
      case measure => simp only [valLen, hL, hL2]; omega
    · have hjp' : j = pk := by omega
      subst hjp'
      have hne := Hpk.out
      rw [Nat.add_assoc m.length, ← Nat.add_assoc m.length] at hne
      rw [← hL] at hne
      have Hne := Lib.hid (decide_eq_false (show ¬ ((m ++ 128 :: List.replicate j 0).length + r) % BB ≠ 0 from fun h => h hne))
      have hml : m.length < 9223372036854775808 := by omega
      obtain ⟨base, hbase⟩ : ∃ base, m ++ 128 :: List.replicate j 0 = base := ⟨_, rfl⟩
      rw [hbase] at hL hLn hO Hne Hpe
      have tl := tailL_len hr x8
      rw [hbase]
      clear hne hbase
      repeat ((fail_if_success (with_reducible show wpList _ _ _ (List.cons _ _) _ _)); (fail_if_success (with_reducible show Code.wp _ (Code.region _ _ true) _ _ _)); go_step)
      refine wl_step (st_val rfl (v_moveT (.inl rfl) rfl) ?_)
      simp only [Act.put, List.setIfInBounds_toArray, List.set_cons_zero, List.set_cons_succ]
      refine wl_step (st_val rfl (v_len rfl rfl Try.underlying25 hLn) ?_)
      simp only [Act.put, List.setIfInBounds_toArray, List.set_cons_zero, List.set_cons_succ]
      refine wl_step (st_val rfl (v_fieldB (s := 0) rfl rfl Try.underlying57 rfl (by kernel_rfl) rfl) ?_)
      simp only [Act.put, List.setIfInBounds_toArray, List.set_cons_zero, List.set_cons_succ]
      refine wl_step (st_val rfl (v_cellB (i := 0) hE0 rfl rfl rfl Try.underlying3 rfl kcl_m) ?_)
      simp only [Act.put, List.setIfInBounds_toArray, List.set_cons_zero, List.set_cons_succ]
      refine wl_step (st_val rfl (v_add rfl rfl rfl (w_i64 (by omega))) ?_)
      simp only [Act.put, List.setIfInBounds_toArray, List.set_cons_zero, List.set_cons_succ]
      refine wl_step (st_val rfl (v_moveT (.inl rfl) rfl) ?_)
      simp only [Act.put, List.setIfInBounds_toArray, List.set_cons_zero, List.set_cons_succ]
      refine wl_step (st_val rfl (v_rem rfl rfl rfl (by omega)) ?_)
      simp only [Act.put, List.setIfInBounds_toArray, List.set_cons_zero, List.set_cons_succ]
      refine wl_step (st_val rfl (v_neq (n := 0) rfl rfl rfl) ?_)
      simp only [Act.put, List.setIfInBounds_toArray, List.set_cons_zero, List.set_cons_succ]
      rw [Hne.out]
      repeat ((fail_if_success (with_reducible show wpList _ _ _ (List.cons _ _) _ _)); (fail_if_success (with_reducible show Code.wp _ (Code.region _ _ true) _ _ _)); (fail_if_success (with_reducible show Code.wp _ (Code.cond _ _ _) _ _ _)); go_step)
      refine wp_cond_false (by first | rfl | exact congrArg Value.bool (decide_eq_false (by omega))) ?_
      skip
      repeat ((fail_if_success (with_reducible show wpList _ _ _ (List.cons _ _) _ _)); (fail_if_success (with_reducible show Code.wp _ (Code.region _ _ true) _ _ _)); go_step)
      refine wl_step (st_val rfl (v_moveT (.inl rfl) rfl) ?_)
      simp only [Act.put, List.setIfInBounds_toArray, List.set_cons_zero, List.set_cons_succ]
      refine wl_step (st_val rfl (v_len rfl rfl Try.underlying25 hml) ?_)
      simp only [Act.put, List.setIfInBounds_toArray, List.set_cons_zero, List.set_cons_succ]
      refine wl_step (st_val rfl (v_convInt rfl rfl Try.underlying3 Try.underlying52 (w_u64 (by omega))) ?_)
      simp only [Act.put, List.setIfInBounds_toArray, List.set_cons_zero, List.set_cons_succ]
      refine wl_step (st_val rfl (v_mul (n := 8) rfl rfl rfl (w_u64m _)) ?_)
      simp only [Act.put, List.setIfInBounds_toArray, List.set_cons_zero, List.set_cons_succ]
      rw [Hx8.out]
      refine wl_step (st_val rfl (v_moveT (.inr rfl) rfl) ?_)
      simp only [Act.put, List.setIfInBounds_toArray, List.set_cons_zero, List.set_cons_succ]
      repeat ((fail_if_success (with_reducible show wpList _ _ _ (List.cons _ _) _ _)); (fail_if_success (with_reducible show Code.wp _ (Code.region _ _ true) _ _ _)); go_step)
      refine wl_step (st_val rfl (v_fieldB (s := 0) rfl rfl Try.underlying57 rfl (by kernel_rfl) rfl) ?_)
      simp only [Act.put, List.setIfInBounds_toArray, List.set_cons_zero, List.set_cons_succ]
      refine wl_step (st_val rfl (v_cellB (i := 0) hE0 rfl rfl rfl Try.underlying3 rfl kcl_m) ?_)
      simp only [Act.put, List.setIfInBounds_toArray, List.set_cons_zero, List.set_cons_succ]
      refine wl_step (st_val rfl (v_sub (n := 1) rfl rfl rfl (w_i64s (by omega) (by omega))) ?_)
      simp only [Act.put, List.setIfInBounds_toArray, List.set_cons_zero, List.set_cons_succ]
      refine wl_step (st_val rfl (v_moveT (.inr rfl) rfl) ?_)
      simp only [Act.put, List.setIfInBounds_toArray, List.set_cons_zero, List.set_cons_succ]
      have hst : Env w (⟨g0, 57, (kcl k r (.slice p2 k.first.length c2) rv).toArray⟩ :: (bs ++ [])) wr := hE0
      have hO2 : Hid (Ow 5 (nats .u8 (base ++ (tailL r x8).take (r - r))) (.slice p base.length c) bs) := Lib.hid (by rw [Nat.sub_self, List.take_zero, List.append_nil]; exact hO.out)
      clear hE0 hO
      go_wp2
      go_loopw [5, 8] (fun s i wr => ∃ (K : Nat) (bs : List Blk), K ≤ r ∧ i = .int .i64 ((K : Int) - 1) ∧ Hid (Ow 5 (nats .u8 (base ++ (tailL r x8).take (r - K))) s bs) ∧ Env w (⟨g0, 57, (kcl k r (.slice p2 k.first.length c2) rv).toArray⟩ :: (bs ++ [])) wr) (fun _ i _ => (intOf i + 1).toNat)
      case atStart => exact ⟨r, bs, Nat.le_refl _, by rw [show ((r - 1 : Nat) : Int) = (r : Int) - 1 by omega], hO2, hst⟩
      case round =>
        clear hst hO2
        obtain ⟨K, bs, hK, rfl, hO, hE0⟩ := hrel
        cases K with
        | succ K =>
          have hKi : ((K + 1 : Nat) : Int) - 1 = (K : Int) := by omega
          rw [hKi]
          clear hKi
          have hts := take_snoc (l := tailL r x8) (n := r - (K + 1)) (by rw [tl]; omega)
          rw [show r - (K + 1) + 1 = r - K by omega] at hts
          have hlen : (base ++ (tailL r x8).take (r - (K + 1))).length < 1099511627776 := by
            rw [List.length_append, List.length_take, tl]
            omega
          have h63 : (nats .u8 (base ++ (tailL r x8).take (r - (K + 1)))).length + ([0] : List Nat).length ≤ maxLen := by rw [nats_len]; simp only [List.length_singleton, maxLen]; omega
          have hft : ((nats .u8 (base ++ (tailL r x8).take (r - (K + 1)))).length + ([0] : List Nat).length) * 1 ≤ 140737488355328 := by rw [nats_len]; simp only [List.length_singleton]; omega
          have d1 := Lib.hid (decide_eq_true (show 0 ≤ K from Nat.zero_le _))
          by_cases h8 : 8 ≤ K
          · have d2 := Lib.hid (decide_eq_true h8)
            rw [tailL_hi h8 (by omega)] at hts
            have e : nats .u8 (base ++ (tailL r x8).take (r - (K + 1))) ++ nats .u8 [0] = nats .u8 (base ++ (tailL r x8).take (r - K)) := by rw [nats_append, List.append_assoc, hts]
            have He := Lib.hid e
            clear hts e
            repeat ((fail_if_success (with_reducible show wpList _ _ _ (List.cons _ _) _ _)); (fail_if_success (with_reducible show Code.wp _ (Code.region _ _ true) _ _ _)); go_step)
            refine wl_step (st_val rfl (v_moveT (.inl rfl) rfl) ?_)
            simp only [Act.put, List.setIfInBounds_toArray, List.set_cons_zero, List.set_cons_succ]
            refine wl_step (st_val rfl (v_geq (n := 0) rfl rfl rfl) ?_)
            simp only [Act.put, List.setIfInBounds_toArray, List.set_cons_zero, List.set_cons_succ]
            rw [d1.out]
            repeat ((fail_if_success (with_reducible show wpList _ _ _ (List.cons _ _) _ _)); (fail_if_success (with_reducible show Code.wp _ (Code.region _ _ true) _ _ _)); (fail_if_success (with_reducible show Code.wp _ (Code.cond _ _ _) _ _ _)); go_step)
            refine wp_cond_true (by first | rfl | exact congrArg Value.bool (decide_eq_true (by omega))) ?_
            skip
            repeat ((fail_if_success (with_reducible show wpList _ _ _ (List.cons _ _) _ _)); (fail_if_success (with_reducible show Code.wp _ (Code.region _ _ true) _ _ _)); go_step)
            refine wl_step (st_val rfl (v_moveT (.inl rfl) rfl) ?_)
            simp only [Act.put, List.setIfInBounds_toArray, List.set_cons_zero, List.set_cons_succ]
            refine wl_step (st_val rfl (v_geq (n := 8) rfl rfl rfl) ?_)
            simp only [Act.put, List.setIfInBounds_toArray, List.set_cons_zero, List.set_cons_succ]
            rw [d2.out]
            repeat ((fail_if_success (with_reducible show wpList _ _ _ (List.cons _ _) _ _)); (fail_if_success (with_reducible show Code.wp _ (Code.region _ _ true) _ _ _)); (fail_if_success (with_reducible show Code.wp _ (Code.cond _ _ _) _ _ _)); go_step)
            refine wp_cond_true (by first | rfl | exact congrArg Value.bool (decide_eq_true (by omega))) ?_
            skip
            repeat ((fail_if_success (with_reducible show wpList _ _ _ (List.cons _ _) _ _)); (fail_if_success (with_reducible show Code.wp _ (Code.region _ _ true) _ _ _)); go_step)
            refine wl_step (st_val rfl (v_moveT (.inl rfl) rfl) ?_)
            simp only [Act.put, List.setIfInBounds_toArray, List.set_cons_zero, List.set_cons_succ]
            refine wl_step (st_buildNums (k := .u8) [0] hE0 rfl rfl (by first | (kernel_rfl; done) | (simp only [List.map_cons, List.map_nil, List.zipIdx_cons, List.zipIdx_nil]; rfl)) rfl (by decide) (by decide) Try.underlying25 (by kernel_rfl) Try.zeroValue5 ?_)
            intro g1 w1 hb1 hE1
            clear hE0
            simp only [Act.put, List.setIfInBounds_toArray, List.set_cons_zero, List.set_cons_succ]
            refine wl_step (st_append (hO.out.sl (hE1.perm ((List.Perm.cons _ List.perm_middle.symm).trans List.perm_middle.symm))) rfl rfl Try.underlying25 Hi.out Hz.out Hs.out rfl Hby.out rfl rfl (RdS.of_block (hE1.get (i := 0) rfl)) h63 hft ?_)
            intro v2 w2 hS2
            have hE2 := hS2.env
            clear hE1
            simp only [Act.put, List.setIfInBounds_toArray, List.set_cons_zero, List.set_cons_succ]
            obtain ⟨bs2, ho2, hEE⟩ := hS2.ow
            rw [He.out] at ho2
            refine wl_step (st_val rfl (v_moveT (.inr rfl) rfl) ?_)
            simp only [Act.put, List.setIfInBounds_toArray, List.set_cons_zero, List.set_cons_succ]
            repeat ((fail_if_success (with_reducible show wpList _ _ _ (List.cons _ _) _ _)); (fail_if_success (with_reducible show Code.wp _ (Code.region _ _ true) _ _ _)); go_step)
            refine wl_step (st_val rfl (v_moveT (.inl rfl) rfl) ?_)
            simp only [Act.put, List.setIfInBounds_toArray, List.set_cons_zero, List.set_cons_succ]
            refine wl_step (st_val rfl (v_sub (n := 1) rfl rfl rfl (w_i64I (by omega) (by omega))) ?_)
            simp only [Act.put, List.setIfInBounds_toArray, List.set_cons_zero, List.set_cons_succ]
            refine wl_step (st_val rfl (v_moveT (.inr rfl) rfl) ?_)
            simp only [Act.put, List.setIfInBounds_toArray, List.set_cons_zero, List.set_cons_succ]
            go_wp2
            go_roundw
            case rel => exact ⟨K, bs2, by omega, rfl, Lib.hid ho2, Env.mid.1 (hEE.sub (List.Sublist.append_left (List.Sublist.cons _ (List.Sublist.refl _)) _))⟩
            case measure => simp only [intOf]; omega
          · have d2 := Lib.hid (decide_eq_false h8)
            rw [tailL_lo hr (by omega)] at hts
            have s64 : 8 * K ≤ IntKind.u64.bits := by show 8 * K ≤ 64; omega
            obtain ⟨y, hy⟩ : ∃ y, x8 / 2 ^ (8 * K) % 256 = y := ⟨_, rfl⟩
            rw [hy] at hts
            have e : nats .u8 (base ++ (tailL r x8).take (r - (K + 1))) ++ nats .u8 [y] = nats .u8 (base ++ (tailL r x8).take (r - K)) := by rw [nats_append, List.append_assoc, hts]
            have He := Lib.hid e
            have Hy := Lib.hid hy
            clear hts e hy
            repeat ((fail_if_success (with_reducible show wpList _ _ _ (List.cons _ _) _ _)); (fail_if_success (with_reducible show Code.wp _ (Code.region _ _ true) _ _ _)); go_step)
            refine wl_step (st_val rfl (v_moveT (.inl rfl) rfl) ?_)
            simp only [Act.put, List.setIfInBounds_toArray, List.set_cons_zero, List.set_cons_succ]
            refine wl_step (st_val rfl (v_geq (n := 0) rfl rfl rfl) ?_)
            simp only [Act.put, List.setIfInBounds_toArray, List.set_cons_zero, List.set_cons_succ]
            rw [d1.out]
            repeat ((fail_if_success (with_reducible show wpList _ _ _ (List.cons _ _) _ _)); (fail_if_success (with_reducible show Code.wp _ (Code.region _ _ true) _ _ _)); (fail_if_success (with_reducible show Code.wp _ (Code.cond _ _ _) _ _ _)); go_step)
            refine wp_cond_true (by first | rfl | exact congrArg Value.bool (decide_eq_true (by omega))) ?_
            skip
            repeat ((fail_if_success (with_reducible show wpList _ _ _ (List.cons _ _) _ _)); (fail_if_success (with_reducible show Code.wp _ (Code.region _ _ true) _ _ _)); go_step)
            refine wl_step (st_val rfl (v_moveT (.inl rfl) rfl) ?_)
            simp only [Act.put, List.setIfInBounds_toArray, List.set_cons_zero, List.set_cons_succ]
            refine wl_step (st_val rfl (v_geq (n := 8) rfl rfl rfl) ?_)
            simp only [Act.put, List.setIfInBounds_toArray, List.set_cons_zero, List.set_cons_succ]
            rw [d2.out]
            repeat ((fail_if_success (with_reducible show wpList _ _ _ (List.cons _ _) _ _)); (fail_if_success (with_reducible show Code.wp _ (Code.region _ _ true) _ _ _)); (fail_if_success (with_reducible show Code.wp _ (Code.cond _ _ _) _ _ _)); go_step)
            refine wp_cond_false (by first | rfl | exact congrArg Value.bool (decide_eq_false (by omega))) ?_
            skip
            repeat ((fail_if_success (with_reducible show wpList _ _ _ (List.cons _ _) _ _)); (fail_if_success (with_reducible show Code.wp _ (Code.region _ _ true) _ _ _)); go_step)
            refine wl_step (st_val rfl (v_moveT (.inl rfl) rfl) ?_)
            simp only [Act.put, List.setIfInBounds_toArray, List.set_cons_zero, List.set_cons_succ]
            refine wl_step (st_val rfl (v_moveT (.inl rfl) rfl) ?_)
            simp only [Act.put, List.setIfInBounds_toArray, List.set_cons_zero, List.set_cons_succ]
            refine wl_step (st_val rfl (v_moveT (.inl rfl) rfl) ?_)
            simp only [Act.put, List.setIfInBounds_toArray, List.set_cons_zero, List.set_cons_succ]
            refine wl_step (st_val rfl (v_mul (m := 8) rfl rfl rfl (w_i64 (by omega))) ?_)
            simp only [Act.put, List.setIfInBounds_toArray, List.set_cons_zero, List.set_cons_succ]
            refine wl_step (st_val rfl (v_shr rfl rfl rfl s64) ?_)
            simp only [Act.put, List.setIfInBounds_toArray, List.set_cons_zero, List.set_cons_succ]
            refine wl_step (st_val rfl (v_convInt rfl rfl Try.underlying52 Try.underlying5 (w_u8m _)) ?_)
            simp only [Act.put, List.setIfInBounds_toArray, List.set_cons_zero, List.set_cons_succ]
            rw [Hy.out]
            refine wl_step (st_buildNums (k := .u8) [y] hE0 rfl rfl (by first | (kernel_rfl; done) | (simp only [List.map_cons, List.map_nil, List.zipIdx_cons, List.zipIdx_nil]; rfl)) rfl (by decide) (by decide) Try.underlying25 (by kernel_rfl) Try.zeroValue5 ?_)
            intro g1 w1 hb1 hE1
            clear hE0
            simp only [Act.put, List.setIfInBounds_toArray, List.set_cons_zero, List.set_cons_succ]
            refine wl_step (st_append (hO.out.sl (hE1.perm ((List.Perm.cons _ List.perm_middle.symm).trans List.perm_middle.symm))) rfl rfl Try.underlying25 Hi.out Hz.out Hs.out rfl Hby.out rfl rfl (RdS.of_block (hE1.get (i := 0) rfl)) h63 hft ?_)
            intro v2 w2 hS2
            have hE2 := hS2.env
            clear hE1
            simp only [Act.put, List.setIfInBounds_toArray, List.set_cons_zero, List.set_cons_succ]
            obtain ⟨bs2, ho2, hEE⟩ := hS2.ow
            rw [He.out] at ho2
            refine wl_step (st_val rfl (v_moveT (.inr rfl) rfl) ?_)
            simp only [Act.put, List.setIfInBounds_toArray, List.set_cons_zero, List.set_cons_succ]
            repeat ((fail_if_success (with_reducible show wpList _ _ _ (List.cons _ _) _ _)); (fail_if_success (with_reducible show Code.wp _ (Code.region _ _ true) _ _ _)); go_step)
            refine wl_step (st_val rfl (v_moveT (.inl rfl) rfl) ?_)
            simp only [Act.put, List.setIfInBounds_toArray, List.set_cons_zero, List.set_cons_succ]
            refine wl_step (st_val rfl (v_sub (n := 1) rfl rfl rfl (w_i64I (by omega) (by omega))) ?_)
            simp only [Act.put, List.setIfInBounds_toArray, List.set_cons_zero, List.set_cons_succ]
            refine wl_step (st_val rfl (v_moveT (.inr rfl) rfl) ?_)
            simp only [Act.put, List.setIfInBounds_toArray, List.set_cons_zero, List.set_cons_succ]
            go_wp2
            go_roundw
            case rel => exact ⟨K, bs2, by omega, rfl, Lib.hid ho2, Env.mid.1 (hEE.sub (List.Sublist.append_left (List.Sublist.cons _ (List.Sublist.refl _)) _))⟩
            case measure => simp only [intOf]; omega
        | zero =>
          have hfull : base ++ (tailL r x8).take (r - 0) = PP := by rw [Nat.sub_zero, List.take_of_length_le (by omega), Hpe.out]
          rw [hfull] at hO
          clear hfull
          obtain ⟨p5, c5, hv5, hc5⟩ := hO.out.lenN
          subst hv5
          have hM0 := (hO.out.sl (l := []) (hE0.sub (List.sublist_cons_self _ _))).rd
          have HM0 := Lib.hid hM0
          clear hM0 hO
          repeat ((fail_if_success (with_reducible show wpList _ _ _ (List.cons _ _) _ _)); (fail_if_success (with_reducible show Code.wp _ (Code.region _ _ true) _ _ _)); go_step)
          refine wl_step (st_val rfl (v_moveT (.inl rfl) rfl) ?_)
          simp only [Act.put, List.setIfInBounds_toArray, List.set_cons_zero, List.set_cons_succ]
          refine wl_step (st_val rfl (v_geqI rfl rfl rfl) ?_)
          simp only [Act.put, List.setIfInBounds_toArray, List.set_cons_zero, List.set_cons_succ]
          repeat ((fail_if_success (with_reducible show wpList _ _ _ (List.cons _ _) _ _)); (fail_if_success (with_reducible show Code.wp _ (Code.region _ _ true) _ _ _)); (fail_if_success (with_reducible show Code.wp _ (Code.cond _ _ _) _ _ _)); go_step)
          refine wp_cond_false (by first | rfl | exact congrArg Value.bool (decide_eq_false (by omega))) ?_
          skip
          repeat ((fail_if_success (with_reducible show wpList _ _ _ (List.cons _ _) _ _)); (fail_if_success (with_reducible show Code.wp _ (Code.region _ _ true) _ _ _)); go_step)
          refine wl_step (st_val rfl (v_fieldB (s := 0) rfl rfl Try.underlying57 rfl (by kernel_rfl) rfl) ?_)
          simp only [Act.put, List.setIfInBounds_toArray, List.set_cons_zero, List.set_cons_succ]
          refine wl_step (st_val rfl (v_cellB (i := 0) hE0 rfl rfl rfl Try.underlying54 rfl kcl_f) ?_)
          simp only [Act.put, List.setIfInBounds_toArray, List.set_cons_zero, List.set_cons_succ]
          refine wl_step (st_val rfl (v_moveT (.inr rfl) rfl) ?_)
          simp only [Act.put, List.setIfInBounds_toArray, List.set_cons_zero, List.set_cons_succ]
          have hst := hE0
          clear hE0
          have h8a := fun n => chainS_len (k := k) (B := BB) hf PP n
          have hda := fun n => chainS_lt (k := k) (B := BB) Hfd.out PP n
          obtain ⟨ST, hST⟩ : ∃ ST : Nat → List Nat, (fun n => chainS k BB k.first PP n) = ST := ⟨_, rfl⟩
          have hST' : ∀ n, chainS k BB k.first PP n = ST n := fun n => congrFun hST n
          have HS1 : Hid (∀ n, ST (n + 1) = blockS k (ST n) ((PP.drop (n * BB)).take BB)) := Lib.hid (fun n => by
            rw [← hST', ← hST']
            rfl)
          have hF0 : RdS .u64 (ST 0) (.slice p2 k.first.length c2) w := by rw [← hST']; exact HF.out
          have HF0 := Lib.hid (RdS.sees hF0)
          have hres := Hres.out
          simp only [hST'] at h8a hda hres
          have H8 := Lib.hid h8a
          have HD := Lib.hid hda
          have Hres2 := Lib.hid hres
          have hM1 : RdS .u8 (PP.drop (0 * BB)) (.slice p5 PP.length c5) wr := by
            rw [Nat.zero_mul, List.drop_zero]
            exact HM0.out
          have HM1 := Lib.hid hM1
          clear hM1 HM0 hF0 h8a hda hres hST hST'
          go_wp2
          go_loopw [5, 9] (fun s h wr => ∃ (n : Nat) (lh : List Blk), n * BB ≤ PP.length ∧ Hid (Sees w lh .u64 (ST n) h) ∧ Hid (RdS .u8 (PP.drop (n * BB)) s wr) ∧ Env w (⟨g0, 57, (kcl k r (.slice p2 k.first.length c2) rv).toArray⟩ :: lh) wr) (fun s _ _ => valLen s)
          case atStart => exact ⟨0, [], by omega, HF0, HM1, hst.sub (List.Sublist.cons_cons _ (List.nil_sublist _))⟩
          case round =>
            clear hst HM1 HF0
            obtain ⟨n, lh, hnP, hH, hM, hE0⟩ := hrel
            obtain ⟨p6, c6, hv6, hc6, -⟩ := id hM.out
            subst hv6
            obtain ⟨R, hR⟩ : ∃ R, PP.drop (n * BB) = R := ⟨_, rfl⟩
            have hRn : R.length = PP.length - n * BB := by rw [← hR, List.length_drop]
            have hRl : R.length < 9223372036854775808 := by omega
            have dR : Digs 256 R := hR ▸ (HdP.out.drop _)
            have hRR : R.drop BB = PP.drop ((n + 1) * BB) := by rw [← hR, List.drop_drop, Nat.add_mul, Nat.one_mul]
            have hs1 := HS1.out n
            rw [hR] at hs1 hM hc6 ⊢
            have h8 := H8.out n
            obtain ⟨p7, c7, hv7, hc7⟩ := hH.out.len (hE0.sub (List.sublist_cons_self _ _))
            subst hv7
            by_cases h0 : 0 < R.length
            · have hBR : BB ≤ R.length := by
                have h1 := Nat.div_add_mod PP.length BB
                rw [hpmod, Nat.add_zero] at h1
                have h2 : n < PP.length / BB := by
                  rcases Nat.lt_or_ge n (PP.length / BB) with h | h
                  · exact h
                  · have := Nat.mul_le_mul_right BB h
                    rw [Nat.mul_comm (PP.length / BB), h1] at this
                    omega
                have h3 := Nat.mul_le_mul_right BB (show n + 1 ≤ PP.length / BB from h2)
                rw [Nat.mul_comm (PP.length / BB), h1, Nat.add_mul, Nat.one_mul] at h3
                omega
              have d1 := Lib.hid (decide_eq_true h0)
              have hsl0 := RdS.slcd hM.out (Nat.zero_le BB) hBR
              rw [List.drop_zero, Nat.sub_zero] at hsl0
              have hsl1 := RdS.slcd hM.out hBR (Nat.le_refl _)
              have e1 : (R.drop BB).take (R.length - BB) = R.drop BB := List.take_of_length_le (by rw [List.length_drop]; exact Nat.le_refl _)
              rw [e1, hRR] at hsl1
              have hm16 : (R.take BB).length = 16 * (k.w / 8) := by rw [List.length_take]; omega
              have Hsl0 := Lib.hid hsl0
              have Hsl1 := Lib.hid hsl1
              have Hdt := Lib.hid (dR.take BB)
              have hcB : BB ≤ c6 := by omega
              have HS2 := Lib.hid hs1
              clear hsl0 hsl1 e1 hs1 dR hR hRR
              repeat ((fail_if_success (with_reducible show wpList _ _ _ (List.cons _ _) _ _)); (fail_if_success (with_reducible show Code.wp _ (Code.region _ _ true) _ _ _)); go_step)
              refine wl_step (st_val rfl (v_moveT (.inl rfl) rfl) ?_)
              simp only [Act.put, List.setIfInBounds_toArray, List.set_cons_zero, List.set_cons_succ]
              refine wl_step (st_val rfl (v_len rfl rfl Try.underlying25 hRl) ?_)
              simp only [Act.put, List.setIfInBounds_toArray, List.set_cons_zero, List.set_cons_succ]
              refine wl_step (st_val rfl (v_gtr (n := 0) rfl rfl rfl) ?_)
              simp only [Act.put, List.setIfInBounds_toArray, List.set_cons_zero, List.set_cons_succ]
              rw [d1.out]
              repeat ((fail_if_success (with_reducible show wpList _ _ _ (List.cons _ _) _ _)); (fail_if_success (with_reducible show Code.wp _ (Code.region _ _ true) _ _ _)); (fail_if_success (with_reducible show Code.wp _ (Code.cond _ _ _) _ _ _)); go_step)
              refine wp_cond_true (by first | rfl | exact congrArg Value.bool (decide_eq_true (by omega))) ?_
              skip
              repeat ((fail_if_success (with_reducible show wpList _ _ _ (List.cons _ _) _ _)); (fail_if_success (with_reducible show Code.wp _ (Code.region _ _ true) _ _ _)); go_step)
              refine wp_region_B (n := 7) 6 (by kernel_rfl) rfl hE0 ?_
              intro w1 hb1 hE1
              clear hE0
              refine wpB_take (i := 0) (by kernel_rfl) rfl (by kernel_rfl) (fun _ _ _ h => h) rfl (v_load (i := 0) hE1 rfl rfl rfl Try.underlying57 rfl (sz_of (n := 17) (by kernel_rfl) (by first | (simp only [ints_size, digs_length, List.length_replicate, List.length_cons, List.length_nil]; done) | (simp only [ints_size, digs_length, List.length_replicate, List.length_cons, List.length_nil, List.length_set, List.length_append]; omega) | rfl))) ?_
              simp only [Act.put, List.setIfInBounds_toArray, List.set_cons_zero, List.set_cons_succ]
              refine wpB_take (i := 1) (by kernel_rfl) rfl (by kernel_rfl) (fun _ _ _ h => h) rfl (v_moveT (.inl rfl) rfl) ?_
              simp only [Act.put, List.setIfInBounds_toArray, List.set_cons_zero, List.set_cons_succ]
              refine wpB_take (i := 2) (by kernel_rfl) rfl (by kernel_rfl) (fun _ _ _ h => h) rfl (v_moveT (.inl rfl) rfl) ?_
              simp only [Act.put, List.setIfInBounds_toArray, List.set_cons_zero, List.set_cons_succ]
              refine wpB_take (i := 3) (by kernel_rfl) rfl (by kernel_rfl) (fun _ _ _ h => h) rfl (v_moveT (.inl rfl) rfl) ?_
              simp only [Act.put, List.setIfInBounds_toArray, List.set_cons_zero, List.set_cons_succ]
              refine wpB_take (i := 4) (by kernel_rfl) rfl (by kernel_rfl) (fun _ _ _ h => h) rfl (v_sliceH rfl rfl rfl Try.underlying25 (by kernel_rfl) hcB) ?_
              simp only [Act.put, List.setIfInBounds_toArray, List.set_cons_zero, List.set_cons_succ]
              refine wpB_step (i := 5) (by kernel_rfl) rfl (st_calls rfl (run_call rfl Try.call30) (block_any Hk.out h8 (HD.out n) hm16 Hdt.out (HR.out.below hE1.below) (hH.out _ (hE1.sub (List.sublist_cons_self _ _))) (Hsl0.out.below hb1)) ?_)
              rintro _ w2 ⟨v6, rfl, hBk⟩
              have hb2 := hBk.env.below
              obtain ⟨bs6, ho6, hE2⟩ := hE1.lift hBk
              refine ⟨_, rfl, ?_⟩
              clear hE1
              refine ⟨fun _ => hb2, ?_⟩
              simp only [Act.put, List.setIfInBounds_toArray, List.set_cons_zero, List.set_cons_succ]
              refine wpB_step (i := 6) (by kernel_rfl) rfl (st_val rfl (v_moveT (.inr rfl) rfl) ?_)
              refine ⟨fun _ => Below.refl _ _, ?_⟩
              simp only [Act.put, List.setIfInBounds_toArray, List.set_cons_zero, List.set_cons_succ]
              refine wpB_done (by kernel_rfl) ?_ _
              rw [← HS2.out] at ho6
              have hEE := (hE2).sub (List.Sublist.append_left (List.Sublist.cons_cons _ (List.nil_sublist lh)) _)
              have hM2 := Hsl1.out.below (hb1.trans (hb2.mono hb1.size))
              have HM2 := Lib.hid hM2
              have hEf := Env.mid.1 hEE
              clear hE2 hEE hM2
              repeat ((fail_if_success (with_reducible show wpList _ _ _ (List.cons _ _) _ _)); (fail_if_success (with_reducible show Code.wp _ (Code.region _ _ true) _ _ _)); go_step)
              refine wl_step (st_val rfl (v_moveT (.inl rfl) rfl) ?_)
              simp only [Act.put, List.setIfInBounds_toArray, List.set_cons_zero, List.set_cons_succ]
              refine wl_step (st_val rfl (v_moveT (.inl rfl) rfl) ?_)
              simp only [Act.put, List.setIfInBounds_toArray, List.set_cons_zero, List.set_cons_succ]
              refine wl_step (st_val rfl (v_sliceL rfl rfl rfl Try.underlying25 (by kernel_rfl) hBR) ?_)
              simp only [Act.put, List.setIfInBounds_toArray, List.set_cons_zero, List.set_cons_succ]
              refine wl_step (st_val rfl (v_moveT (.inr rfl) rfl) ?_)
              simp only [Act.put, List.setIfInBounds_toArray, List.set_cons_zero, List.set_cons_succ]
              go_wp2
              go_roundw
              case rel => exact ⟨n + 1, bs6, by rw [Nat.add_mul, Nat.one_mul]; omega, Lib.hid ho6.sees, HM2, by rw [List.append_nil] at hEf; exact hEf⟩
              case measure =>
                simp only [valLen, slcd]
                omega
            · have d1 := Lib.hid (decide_eq_false h0)
              have hnn : PP.length / BB = n := Nat.div_eq_of_eq_mul_left hB0 (by omega)
              have hres := Hres2.out
              rw [hnn] at hres
              obtain ⟨V, hVV⟩ : ∃ V, ST n = V := ⟨_, rfl⟩
              have hVd := HD.out n
              rw [hVV] at hres hVd h8 hH hc7
              rw [hVV]
              have HVd := Lib.hid hVd
              have HR3 := Lib.hid hres
              clear hnn hVV hres hVd hs1 dR hR hRR
              repeat ((fail_if_success (with_reducible show wpList _ _ _ (List.cons _ _) _ _)); (fail_if_success (with_reducible show Code.wp _ (Code.region _ _ true) _ _ _)); go_step)
              refine wl_step (st_val rfl (v_moveT (.inl rfl) rfl) ?_)
              simp only [Act.put, List.setIfInBounds_toArray, List.set_cons_zero, List.set_cons_succ]
              refine wl_step (st_val rfl (v_len rfl rfl Try.underlying25 hRl) ?_)
              simp only [Act.put, List.setIfInBounds_toArray, List.set_cons_zero, List.set_cons_succ]
              refine wl_step (st_val rfl (v_gtr (n := 0) rfl rfl rfl) ?_)
              simp only [Act.put, List.setIfInBounds_toArray, List.set_cons_zero, List.set_cons_succ]
              rw [d1.out]
              repeat ((fail_if_success (with_reducible show wpList _ _ _ (List.cons _ _) _ _)); (fail_if_success (with_reducible show Code.wp _ (Code.region _ _ true) _ _ _)); (fail_if_success (with_reducible show Code.wp _ (Code.cond _ _ _) _ _ _)); go_step)
              refine wp_cond_false (by first | rfl | exact congrArg Value.bool (decide_eq_false (by omega))) ?_
              skip
              repeat ((fail_if_success (with_reducible show wpList _ _ _ (List.cons _ _) _ _)); (fail_if_success (with_reducible show Code.wp _ (Code.region _ _ true) _ _ _)); go_step)
              refine wl_step (st_val rfl (v_moveC (.inr rfl)) ?_)
              simp only [Act.put, List.setIfInBounds_toArray, List.set_cons_zero, List.set_cons_succ]
              repeat ((fail_if_success (with_reducible show wpList _ _ _ (List.cons _ _) _ _)); (fail_if_success (with_reducible show Code.wp _ (Code.region _ _ true) _ _ _)); go_step)
              refine wl_step (st_val rfl (v_moveC (.inr rfl)) ?_)
              simp only [Act.put, List.setIfInBounds_toArray, List.set_cons_zero, List.set_cons_succ]
              have hst : Env w (⟨g0, 57, (kcl k r (.slice p2 k.first.length c2) rv).toArray⟩ :: ([] ++ lh)) wr := hE0
              clear hE0
              go_wp2
              go_loopw [10, 11] (fun s i wr => ∃ (j : Nat) (bs : List Blk), j ≤ 8 ∧ i = .int .i64 j ∧ Hid (Ow 5 (nats .u8 (outL (k.w / 8) (V.take j))) s bs) ∧ Env w (⟨g0, 57, (kcl k r (.slice p2 k.first.length c2) rv).toArray⟩ :: (bs ++ lh)) wr) (fun _ i _ => 8 - (intOf i).toNat)
              case atStart => exact ⟨0, [], Nat.zero_le _, rfl, Lib.hid (Ow.nil _), hst⟩
              case round =>
                clear hst
                obtain ⟨j, bs, hj, rfl, hO, hE0⟩ := hrel
                by_cases hj8 : j < 8
                · have d2 := Lib.hid (decide_eq_true hj8)
                  have hjV : j < V.length := by rw [h8]; exact hj8
                  have hxb := HVd.out j
                  have hgj : V.getD j 0 = V[j] := by rw [List.getD_eq_getElem?_getD, List.getElem?_eq_getElem hjV]; rfl
                  obtain ⟨x, hx⟩ : ∃ x, V.getD j 0 = x := ⟨_, rfl⟩
                  have hend : outL (k.w / 8) (V.take j) ++ beD (k.w / 8) x = outL (k.w / 8) (V.take (j + 1)) := by
                    rw [List.take_succ_eq_append_getElem hjV, outL_snoc, ← hgj, hx]
                  have hbl := beD_len (k.w / 8) x
                  have hob : (outL (k.w / 8) (V.take j)).length ≤ 64 := by
                    rw [outL_len, List.length_take]
                    have : min j V.length * (k.w / 8) ≤ 8 * 8 := Nat.mul_le_mul (by omega) (by omega)
                    exact this
                  have hby : ∀ c, c < k.w / 8 → (beD (k.w / 8) x).getD c 0 = x / 2 ^ (k.w - 8 - 8 * c) % 256 := fun c hc => byte_of hb8 hc
                  obtain ⟨OU, hOU⟩ : ∃ OU, outL (k.w / 8) (V.take j) = OU := ⟨_, rfl⟩
                  obtain ⟨BY, hBY⟩ : ∃ BY, beD (k.w / 8) x = BY := ⟨_, rfl⟩
                  rw [hOU, hBY] at hend
                  rw [hOU] at hob hO
                  rw [hBY] at hbl
                  simp only [hBY] at hby
                  obtain ⟨wb, hwb⟩ : ∃ wb, k.w / 8 = wb := ⟨_, rfl⟩
                  have hkw : k.w = 8 * wb := by omega
                  rw [hwb] at hbl
                  simp only [hwb] at hby
                  have Hend := Lib.hid hend
                  have Hby := Lib.hid hby
                  have Hx := Lib.hid hx
                  have HO0 : Hid (Ow 5 (nats .u8 (OU ++ BY.take 0)) u10 bs) := Lib.hid (by rw [List.take_zero, List.append_nil]; exact hO.out)
                  clear hend hby hx hgj hOU hBY hO
                  repeat ((fail_if_success (with_reducible show wpList _ _ _ (List.cons _ _) _ _)); (fail_if_success (with_reducible show Code.wp _ (Code.region _ _ true) _ _ _)); go_step)
                  refine wl_step (st_val rfl (v_moveT (.inl rfl) rfl) ?_)
                  simp only [Act.put, List.setIfInBounds_toArray, List.set_cons_zero, List.set_cons_succ]
                  refine wl_step (st_val rfl (v_lss (n := 8) rfl rfl rfl) ?_)
                  simp only [Act.put, List.setIfInBounds_toArray, List.set_cons_zero, List.set_cons_succ]
                  rw [d2.out]
                  repeat ((fail_if_success (with_reducible show wpList _ _ _ (List.cons _ _) _ _)); (fail_if_success (with_reducible show Code.wp _ (Code.region _ _ true) _ _ _)); (fail_if_success (with_reducible show Code.wp _ (Code.cond _ _ _) _ _ _)); go_step)
                  refine wp_cond_true (by first | rfl | exact congrArg Value.bool (decide_eq_true (by omega))) ?_
                  skip
                  repeat ((fail_if_success (with_reducible show wpList _ _ _ (List.cons _ _) _ _)); (fail_if_success (with_reducible show Code.wp _ (Code.region _ _ true) _ _ _)); go_step)
                  refine wl_step (st_val rfl (v_field0 (s := 0) rfl rfl Try.underlying57 rfl (by kernel_rfl) rfl) ?_)
                  simp only [Act.put, List.setIfInBounds_toArray, List.set_cons_zero, List.set_cons_succ]
                  refine wl_step (st_val rfl (v_cellB (i := 0) hE0 rfl rfl rfl Try.underlying3 rfl kcl_w) ?_)
                  simp only [Act.put, List.setIfInBounds_toArray, List.set_cons_zero, List.set_cons_succ]
                  refine wl_step (st_val rfl (v_sub (n := 8) (r := (k.w : Int) - 8) rfl rfl rfl (w_i64I (by omega) (by omega))) ?_)
                  simp only [Act.put, List.setIfInBounds_toArray, List.set_cons_zero, List.set_cons_succ]
                  refine wl_step (st_val rfl (v_moveT (.inr rfl) rfl) ?_)
                  simp only [Act.put, List.setIfInBounds_toArray, List.set_cons_zero, List.set_cons_succ]
                  have hst := hE0
                  clear hE0
                  obtain ⟨wo, hwo⟩ : ∃ wo : World, wo = wr := ⟨_, rfl⟩
                  subst hwo
                  go_wp2
                  go_loopw [10, 12] (fun s i w2 => ∃ (c : Nat) (bs : List Blk), c ≤ wb ∧ i = .int .i64 ((k.w : Int) - 8 - 8 * (c : Int)) ∧ Hid (Ow 5 (nats .u8 (OU ++ BY.take c)) s bs) ∧ Env w (⟨g0, 57, (kcl k r (.slice p2 k.first.length c2) rv).toArray⟩ :: (bs ++ lh)) w2) (fun _ i _ => (intOf i + 8).toNat)
                  case atStart => exact ⟨0, bs, Nat.zero_le _, congrArg (Value.int .i64) (by omega), HO0, hst⟩
                  case round =>
                    clear hst HO0
                    obtain ⟨c, bs, hc, rfl, hO, hE0⟩ := hrel
                    by_cases hcw : c < wb
                    · have hD : (k.w : Int) - 8 - 8 * (c : Int) = ((k.w - 8 - 8 * c : Nat) : Int) := by omega
                      rw [hD]
                      have hbyc := Hby.out c hcw
                      have hbt := take_snoc (l := BY) (n := c) (by omega)
                      obtain ⟨D, hDD⟩ : ∃ D, k.w - 8 - 8 * c = D := ⟨_, rfl⟩
                      rw [hDD] at hbyc
                      rw [hDD]
                      have hDn : (D : Int) - 8 = (k.w : Int) - 8 - 8 * ((c + 1 : Nat) : Int) := by omega
                      have s64 : D ≤ IntKind.u64.bits := by show D ≤ 64; omega
                      have hD63 : D < 64 := by omega
                      obtain ⟨b, off, hp7, hcell⟩ := (hH.out _ (hE0.sub ((List.sublist_append_right _ _).trans (List.sublist_cons_self _ _)))).at hjV
                      subst hp7
                      rw [Hx.out] at hcell
                      obtain ⟨y, hy⟩ : ∃ y, x / 2 ^ D % 256 = y := ⟨_, rfl⟩
                      rw [hy] at hbyc
                      rw [hbyc] at hbt
                      have hcat : nats .u8 (OU ++ BY.take c) ++ nats .u8 [y] = nats .u8 (OU ++ BY.take (c + 1)) := by rw [nats_append, List.append_assoc, hbt]
                      have h63 : (nats .u8 (OU ++ BY.take c)).length + ([0] : List Nat).length ≤ maxLen := by rw [nats_len, List.length_append, List.length_take]; simp only [List.length_singleton, maxLen]; omega
                      have hft : ((nats .u8 (OU ++ BY.take c)).length + ([0] : List Nat).length) * 1 ≤ 140737488355328 := by rw [nats_len, List.length_append, List.length_take]; simp only [List.length_singleton]; omega
                      have HC := Lib.hid hcell
                      have Hy := Lib.hid hy
                      have Hcat := Lib.hid hcat
                      have d3 := Lib.hid (decide_eq_true (show 0 ≤ D from Nat.zero_le _))
                      clear hcell hbyc hbt hcat hy hD hDD
                      repeat ((fail_if_success (with_reducible show wpList _ _ _ (List.cons _ _) _ _)); (fail_if_success (with_reducible show Code.wp _ (Code.region _ _ true) _ _ _)); go_step)
                      refine wl_step (st_val rfl (v_moveT (.inl rfl) rfl) ?_)
                      simp only [Act.put, List.setIfInBounds_toArray, List.set_cons_zero, List.set_cons_succ]
                      refine wl_step (st_val rfl (v_geq (n := 0) rfl rfl rfl) ?_)
                      simp only [Act.put, List.setIfInBounds_toArray, List.set_cons_zero, List.set_cons_succ]
                      rw [d3.out]
                      repeat ((fail_if_success (with_reducible show wpList _ _ _ (List.cons _ _) _ _)); (fail_if_success (with_reducible show Code.wp _ (Code.region _ _ true) _ _ _)); (fail_if_success (with_reducible show Code.wp _ (Code.cond _ _ _) _ _ _)); go_step)
                      refine wp_cond_true (by first | rfl | exact congrArg Value.bool (decide_eq_true (by omega))) ?_
                      skip
                      repeat ((fail_if_success (with_reducible show wpList _ _ _ (List.cons _ _) _ _)); (fail_if_success (with_reducible show Code.wp _ (Code.region _ _ true) _ _ _)); go_step)
                      refine wl_step (st_val rfl (v_moveT (.inl rfl) rfl) ?_)
                      simp only [Act.put, List.setIfInBounds_toArray, List.set_cons_zero, List.set_cons_succ]
                      refine wl_step (st_val rfl (v_moveT (.inl rfl) rfl) ?_)
                      simp only [Act.put, List.setIfInBounds_toArray, List.set_cons_zero, List.set_cons_succ]
                      refine wl_step (st_val rfl (v_moveT (.inl rfl) rfl) ?_)
                      simp only [Act.put, List.setIfInBounds_toArray, List.set_cons_zero, List.set_cons_succ]
                      refine wl_step (st_val rfl (v_indexS rfl rfl rfl Try.underlying54 (by kernel_rfl) (by first | exact hjV | exact hj8)) ?_)
                      simp only [Act.put, List.setIfInBounds_toArray, List.set_cons_zero, List.set_cons_succ]
                      refine wl_step (st_val rfl (v_cell rfl rfl Try.underlying52 rfl (fun w1 hb => HC.out w1 hb)) ?_)
                      simp only [Act.put, List.setIfInBounds_toArray, List.set_cons_zero, List.set_cons_succ]
                      refine wl_step (st_val rfl (v_moveT (.inl rfl) rfl) ?_)
                      simp only [Act.put, List.setIfInBounds_toArray, List.set_cons_zero, List.set_cons_succ]
                      refine wl_step (st_val rfl (v_shr rfl rfl rfl s64) ?_)
                      simp only [Act.put, List.setIfInBounds_toArray, List.set_cons_zero, List.set_cons_succ]
                      refine wl_step (st_val rfl (v_convInt rfl rfl Try.underlying52 Try.underlying5 (w_u8m _)) ?_)
                      simp only [Act.put, List.setIfInBounds_toArray, List.set_cons_zero, List.set_cons_succ]
                      rw [Hy.out]
                      refine wl_step (st_buildNums (k := .u8) [y] hE0 rfl rfl (by first | (kernel_rfl; done) | (simp only [List.map_cons, List.map_nil, List.zipIdx_cons, List.zipIdx_nil]; rfl)) rfl (by decide) (by decide) Try.underlying25 (by kernel_rfl) Try.zeroValue5 ?_)
                      intro g1 w11 hb11 hE11
                      clear hE0
                      simp only [Act.put, List.setIfInBounds_toArray, List.set_cons_zero, List.set_cons_succ]
                      refine wl_step (st_append (hO.out.sl (hE11.perm ((List.Perm.cons _ List.perm_middle.symm).trans List.perm_middle.symm))) rfl rfl Try.underlying25 Hi.out Hz.out Hs.out rfl Hby8.out rfl rfl (RdS.of_block (hE11.get (i := 0) rfl)) h63 hft ?_)
                      intro v12 w12 hS12
                      have hE12 := hS12.env
                      clear hE11
                      simp only [Act.put, List.setIfInBounds_toArray, List.set_cons_zero, List.set_cons_succ]
                      obtain ⟨bs2, ho2, hEE⟩ := hS12.ow
                      rw [Hcat.out] at ho2
                      refine wl_step (st_val rfl (v_moveT (.inr rfl) rfl) ?_)
                      simp only [Act.put, List.setIfInBounds_toArray, List.set_cons_zero, List.set_cons_succ]
                      repeat ((fail_if_success (with_reducible show wpList _ _ _ (List.cons _ _) _ _)); (fail_if_success (with_reducible show Code.wp _ (Code.region _ _ true) _ _ _)); go_step)
                      refine wl_step (st_val rfl (v_moveT (.inl rfl) rfl) ?_)
                      simp only [Act.put, List.setIfInBounds_toArray, List.set_cons_zero, List.set_cons_succ]
                      refine wl_step (st_val rfl (v_sub (n := 8) (r := (D : Int) - 8) rfl rfl rfl (w_i64I (by omega) (by omega))) ?_)
                      simp only [Act.put, List.setIfInBounds_toArray, List.set_cons_zero, List.set_cons_succ]
                      refine wl_step (st_val rfl (v_moveT (.inr rfl) rfl) ?_)
                      simp only [Act.put, List.setIfInBounds_toArray, List.set_cons_zero, List.set_cons_succ]
                      go_wp2
                      go_roundw
                      case rel => exact ⟨c + 1, bs2, by omega, congrArg (Value.int .i64) hDn, Lib.hid ho2, Env.mid.1 (hEE.sub (List.Sublist.append_left (List.Sublist.cons _ (List.Sublist.refl _)) _))⟩
                      case measure => simp only [intOf]; omega
                    · have hcw' : c = wb := by omega
                      subst hcw'
                      have hfl : OU ++ BY.take c = outL (k.w / 8) (V.take (j + 1)) := by rw [List.take_of_length_le (by omega), Hend.out]
                      rw [hfl] at hO
                      clear hfl
                      repeat ((fail_if_success (with_reducible show wpList _ _ _ (List.cons _ _) _ _)); (fail_if_success (with_reducible show Code.wp _ (Code.region _ _ true) _ _ _)); go_step)
                      refine wl_step (st_val rfl (v_moveT (.inl rfl) rfl) ?_)
                      simp only [Act.put, List.setIfInBounds_toArray, List.set_cons_zero, List.set_cons_succ]
                      refine wl_step (st_val rfl (v_geqI rfl rfl rfl) ?_)
                      simp only [Act.put, List.setIfInBounds_toArray, List.set_cons_zero, List.set_cons_succ]
                      repeat ((fail_if_success (with_reducible show wpList _ _ _ (List.cons _ _) _ _)); (fail_if_success (with_reducible show Code.wp _ (Code.region _ _ true) _ _ _)); (fail_if_success (with_reducible show Code.wp _ (Code.cond _ _ _) _ _ _)); go_step)
                      refine wp_cond_false (by first | rfl | exact congrArg Value.bool (decide_eq_false (by omega))) ?_
                      skip
                      repeat ((fail_if_success (with_reducible show wpList _ _ _ (List.cons _ _) _ _)); (fail_if_success (with_reducible show Code.wp _ (Code.region _ _ true) _ _ _)); go_step)
                      refine wl_step (st_val rfl (v_moveT (.inl rfl) rfl) ?_)
                      simp only [Act.put, List.setIfInBounds_toArray, List.set_cons_zero, List.set_cons_succ]
                      refine wl_step (st_val rfl (v_add (n := 1) rfl rfl rfl (w_i64 (by omega))) ?_)
                      simp only [Act.put, List.setIfInBounds_toArray, List.set_cons_zero, List.set_cons_succ]
                      refine wl_step (st_val rfl (v_moveT (.inr rfl) rfl) ?_)
                      simp only [Act.put, List.setIfInBounds_toArray, List.set_cons_zero, List.set_cons_succ]
                      go_wp2
                      go_roundw
                      case rel => exact ⟨j + 1, bs, by omega, rfl, hO, hE0⟩
                      case measure => simp [intOf]; omega
                · have hj' : j = 8 := by omega
                  subst hj'
                  have d2 := Lib.hid (decide_eq_false hj8)
                  have hS := hO.out.sl (l := []) (hE0.sub ((List.Sublist.append_left (List.nil_sublist _) _).trans (List.sublist_cons_self _ _)))
                  rw [List.take_of_length_le (by omega), ← HR3.out] at hS
                  have HS := Lib.hid hS
                  clear hS
                  repeat ((fail_if_success (with_reducible show wpList _ _ _ (List.cons _ _) _ _)); (fail_if_success (with_reducible show Code.wp _ (Code.region _ _ true) _ _ _)); go_step)
                  refine wl_step (st_val rfl (v_moveT (.inl rfl) rfl) ?_)
                  simp only [Act.put, List.setIfInBounds_toArray, List.set_cons_zero, List.set_cons_succ]
                  refine wl_step (st_val rfl (v_lss (n := 8) rfl rfl rfl) ?_)
                  simp only [Act.put, List.setIfInBounds_toArray, List.set_cons_zero, List.set_cons_succ]
                  rw [d2.out]
                  repeat ((fail_if_success (with_reducible show wpList _ _ _ (List.cons _ _) _ _)); (fail_if_success (with_reducible show Code.wp _ (Code.region _ _ true) _ _ _)); (fail_if_success (with_reducible show Code.wp _ (Code.cond _ _ _) _ _ _)); go_step)
                  refine wp_cond_false (by first | rfl | exact congrArg Value.bool (decide_eq_false (by omega))) ?_
                  skip
                  repeat ((fail_if_success (with_reducible show wpList _ _ _ (List.cons _ _) _ _)); (fail_if_success (with_reducible show Code.wp _ (Code.region _ _ true) _ _ _)); go_step)
                  refine wl_step (st_val rfl (v_moveT (.inl rfl) rfl) ?_)
                  simp only [Act.put, List.setIfInBounds_toArray, List.set_cons_zero, List.set_cons_succ]
                  refine wl_step (st_val rfl (v_moveT (.inr rfl) rfl) ?_)
                  simp only [Act.put, List.setIfInBounds_toArray, List.set_cons_zero, List.set_cons_succ]
                  go_wp2
                  go_returns
                  exact ⟨_, rfl, HS.out⟩
end Go.Proofs.Ytndnmghlgcamfaa
