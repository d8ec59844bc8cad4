/-
  Layer 5, the document's answer: the product of two numbers.
-/
import Derived.Test.YtobfgleckcpcpaaRefE
namespace Go.Proofs.Ytobfgleckcpcpaa
open Go.RowKit
set_option linter.unusedVariables false
set_option linter.unusedSimpArgs false

/-- Inside a row of the product. -/
structure MInv (n m i S a B k V : Nat) (X : List Nat) : Prop where
  small : V < 256
  len : X.length = n + m
  digs : Digs 256 X
  sum : val 256 X + 256 ^ (i + k) * V = S + 256 ^ i * (a * (B % 256 ^ k))
  zero : ∀ j, i + max m k ≤ j → X.getD j 0 = 0
  top : k ≤ m + 1
  last : k = m + 1 → V = 0

theorem MInv.step {n m i S a B k V x b : Nat} {X : List Nat} (h : MInv n m i S a B k V X) (hi : i < n) (hk : k ≤ m) (ha : a < 256) (hB : B < 256 ^ m) (hx : x = X.getD (i + k) 0) (hb : b = B / 256 ^ k % 256) :
    MInv n m i S a B (k + 1) ((x + a * b + V) / 256) (X.set (i + k) ((x + a * b + V) % 256)) ∧ x + a * b + V ≤ 65535 := by
  have hxl : x < 256 := hx ▸ h.digs.getD (by decide) _
  have hbl : b < 256 := by omega
  have hV := h.small
  have hab : a * b ≤ 255 * 255 := Nat.mul_le_mul (by omega) (by omega)
  have hs : x + a * b + V ≤ 65535 := by omega
  refine ⟨⟨by omega, by rw [List.length_set, h.len], h.digs.set _ (Nat.mod_lt _ (by decide)), ?_, fun j hj => ?_, by omega, fun hk' => ?_⟩, hs⟩
  · have hlt : i + k < X.length := by rw [h.len]; omega
    have hv := val_set (B := 256) X (i + k) ((x + a * b + V) % 256) hlt
    have hxe : X[i + k] = x := by rw [hx]; simp [List.getD, hlt]
    rw [hxe] at hv
    have hsum := h.sum
    have hO : B % 256 ^ (k + 1) = B % 256 ^ k + 256 ^ k * b := by rw [Nat.pow_succ, Nat.mod_mul, ← hb]
    have t3 : (x + a * b + V) % 256 + 256 * ((x + a * b + V) / 256) = a * b + x + V := by rw [Nat.mod_add_div]; omega
    rw [hO, ← Nat.add_assoc, Nat.pow_succ]
    have hp : 256 ^ (i + k) = 256 ^ i * 256 ^ k := Nat.pow_add _ _ _
    rw [hp] at hv hsum ⊢
    exact row_key t3 hv hsum
  · rw [List.getD_eq_getElem?_getD, List.getElem?_set_ne (by omega), ← List.getD_eq_getElem?_getD]
    exact h.zero j (by omega)
  · have hkm : k = m := by omega
    subst hkm
    have hx0 : x = 0 := by rw [hx]; exact h.zero _ (by omega)
    have hb0 : b = 0 := by rw [hb, Nat.div_eq_of_lt hB]
    rw [hx0, hb0]
    omega

/-- Between the rows of the product. -/
structure NInv (n m i A B : Nat) (X : List Nat) : Prop where
  len : X.length = n + m
  digs : Digs 256 X
  sum : val 256 X = A % 256 ^ i * B
  zero : ∀ j, i + m ≤ j → X.getD j 0 = 0
theorem NInv.enter {n m i A B : Nat} {X : List Nat} (h : NInv n m i A B X) (a : Nat) : MInv n m i (A % 256 ^ i * B) a B 0 0 X :=
  ⟨by decide, h.len, h.digs, by rw [h.sum, Nat.pow_zero, Nat.mod_one]; simp, fun j hj => h.zero j (by omega), by omega, fun h' => by omega⟩
theorem MInv.leave {n m i A B a k : Nat} {X : List Nat} (h : MInv n m i (A % 256 ^ i * B) a B k 0 X) (hk : m ≤ k) (hB : B < 256 ^ m) (ha : a = A / 256 ^ i % 256) : NInv n m (i + 1) A B X := by
  refine ⟨h.len, h.digs, ?_, fun j hj => h.zero j (by have := h.top; omega)⟩
  have hs := h.sum
  rw [Nat.mul_zero, Nat.add_zero, Nat.mod_eq_of_lt (Nat.lt_of_lt_of_le hB (Nat.pow_le_pow_right (by decide) hk))] at hs
  rw [hs, Nat.pow_succ, Nat.mod_mul, ← ha, Nat.add_mul, Nat.mul_assoc]
theorem NInv.start (n m A B : Nat) : NInv n m 0 A B (List.replicate (n + m) 0) :=
  ⟨by simp, Digs.replicate (by decide) _, by rw [val_replicate, Nat.pow_zero, Nat.mod_one, Nat.zero_mul], fun j _ => by rw [List.getD_eq_getElem?_getD, List.getElem?_replicate]; split <;> rfl⟩
theorem NInv.final {n m A B : Nat} {X : List Nat} (h : NInv n m n A B X) (hA : A < 256 ^ n) : val 256 X = A * B := by
  rw [h.sum, Nat.mod_eq_of_lt hA]

theorem Rd.some {l : List Nat} {p : Option Addr} {cap : Nat} {w : World} (h : Rd l (.slice p l.length cap) w) (h0 : 0 < l.length) : ∃ g, p = some ⟨g, 0, none⟩ := by
  rcases h with ⟨h1, h2⟩ | ⟨g, cap', cs, T, h1, -⟩
  · subst h2
    simp at h0
  · injection h1 with e1 _ _
    exact ⟨g, e1⟩

set_option maxHeartbeats 2000000 in
theorem Mul_any {la lb : List Nat} {va vb : Value} {w : World} (ha : Rd la va w) (hb : Rd lb vb w) (da : Digs 256 la) (db : Digs 256 lb) (hla : la.length ≤ 65536) (hlb : lb.length ≤ 65536) :
    Calls Try.prog 25 #[va, vb] w fun e w' => ∃ g l, e = .returned (.slice (some ⟨g, 0, none⟩) (la.length + lb.length) (la.length + lb.length)) ∧ Env w [⟨g, 3, ints .i64 l⟩] w' ∧ l.length = la.length + lb.length ∧ Digs 256 l ∧ val 256 l = val 256 la * val 256 lb := by
  have Ha := Lib.hid ha
  have Hb := Lib.hid hb
  obtain ⟨pa, ca, hva⟩ := ha.len
  obtain ⟨pb, cb, hvb⟩ := hb.len
  subst hva hvb
  clear ha hb
  have hE0 := Env.nil w
  have hnm : IntKind.i64.wrap ((la.length : Int) + (lb.length : Int)) = ((la.length + lb.length : Nat) : Int) := by rw [IntKind.wrap_i64]; omega
  go_enter Try.func25, Try.ntmps25
  repeat ((fail_if_success (with_reducible show Code.wp _ (Code.region 1 _ _) _ _ _)); go_step)
  repeat ((fail_if_success (with_reducible show wpList _ _ _ (List.cons _ _) _ _)); (fail_if_success (with_reducible show Code.wp _ (Code.region _ _ true) _ _ _)); go_step)
  apply wl_val rfl
  · go_simp
    with_reducible rfl
  simp only [Act.put, List.setIfInBounds_toArray, List.set_cons_zero, List.set_cons_succ]
  apply wl_val rfl
  · go_simp
    with_reducible rfl
  simp only [Act.put, List.setIfInBounds_toArray, List.set_cons_zero, List.set_cons_succ]
  apply wl_val rfl
  · go_simp
    with_reducible rfl
  simp only [Act.put, List.setIfInBounds_toArray, List.set_cons_zero, List.set_cons_succ]
  apply wl_val rfl
  · go_simp
    with_reducible rfl
  simp only [Act.put, List.setIfInBounds_toArray, List.set_cons_zero, List.set_cons_succ]
  apply wl_val rfl
  · go_simp
    with_reducible rfl
  simp only [Act.put, List.setIfInBounds_toArray, List.set_cons_zero, List.set_cons_succ]
  refine wl_make (n := la.length + lb.length) (k := .i64) (b := 8) hE0 rfl rfl rfl rfl Try.underlying45 (by kernel_rfl) (by omega) (by omega) ?_
  intro g0 w1 hE1
  clear hE0
  simp only [Act.put, List.setIfInBounds_toArray, List.set_cons_zero, List.set_cons_succ]
  apply wl_val rfl
  · go_simp
    with_reducible rfl
  simp only [Act.put, List.setIfInBounds_toArray, List.set_cons_zero, List.set_cons_succ]
  repeat ((fail_if_success (with_reducible show wpList _ _ _ (List.cons _ _) _ _)); (fail_if_success (with_reducible show Code.wp _ (Code.region _ _ true) _ _ _)); go_step)
  apply wl_val rfl
  · go_simp
    with_reducible rfl
  simp only [Act.put, List.setIfInBounds_toArray, List.set_cons_zero, List.set_cons_succ]
  go_wp2
  go_loopw [6] (fun i wr => ∃ (I : Nat) (X : List Nat), I ≤ la.length ∧ i = .int .i64 I ∧ NInv la.length lb.length I (val 256 la) (val 256 lb) X ∧ Env w [⟨g0, 3, ints .i64 X⟩] wr) (fun i _ => la.length - (intOf i).toNat)
  case atStart => exact ⟨0, _, Nat.zero_le _, rfl, NInv.start _ _ _ _, hE1⟩
  case round =>
    clear hE1 hnm
    obtain ⟨I, X, hI, rfl, hO, hE0⟩ := hrel
    have hI1 : IntKind.i64.wrap ((I : Int) + 1) = ((I + 1 : Nat) : Int) := by rw [IntKind.wrap_i64]; omega
    by_cases hIn : I < la.length
    · obtain ⟨ga, rfl⟩ := Ha.out.some (by omega)
      have HX := Lib.hid hO
      clear hO hI
      repeat ((fail_if_success (with_reducible show wpList _ _ _ (List.cons _ _) _ _)); (fail_if_success (with_reducible show Code.wp _ (Code.region _ _ true) _ _ _)); go_step)
      apply wl_val rfl
      · go_simp
        with_reducible rfl
      simp only [Act.put, List.setIfInBounds_toArray, List.set_cons_zero, List.set_cons_succ]
      apply wl_val rfl
      · go_simp
        with_reducible rfl
      simp only [Act.put, List.setIfInBounds_toArray, List.set_cons_zero, List.set_cons_succ]
      apply wl_val rfl
      · go_simp
        with_reducible rfl
      simp only [Act.put, List.setIfInBounds_toArray, List.set_cons_zero, List.set_cons_succ]
      apply wl_val rfl
      · go_simp
        with_reducible rfl
      simp only [Act.put, List.setIfInBounds_toArray, List.set_cons_zero, List.set_cons_succ]
      repeat ((fail_if_success (with_reducible show wpList _ _ _ (List.cons _ _) _ _)); (fail_if_success (with_reducible show Code.wp _ (Code.region _ _ true) _ _ _)); go_step)
      apply wl_val rfl
      · go_simp
        with_reducible rfl
      simp only [Act.put, List.setIfInBounds_toArray, List.set_cons_zero, List.set_cons_succ]
      repeat ((fail_if_success (with_reducible show wpList _ _ _ (List.cons _ _) _ _)); (fail_if_success (with_reducible show Code.wp _ (Code.region _ _ true) _ _ _)); go_step)
      apply wl_val rfl
      · go_simp
        with_reducible rfl
      simp only [Act.put, List.setIfInBounds_toArray, List.set_cons_zero, List.set_cons_succ]
      go_wp2
      obtain ⟨x0, hx0⟩ : ∃ a, a = val 256 la / 256 ^ I % 256 := ⟨_, rfl⟩
      have Hx0 := Lib.hid hx0
      clear hx0
      go_loopw [7, 8] (fun ov k wr => ∃ (K V : Nat) (Y : List Nat), k = .int .i64 K ∧ ov = .int .i64 V ∧ MInv la.length lb.length I (val 256 la % 256 ^ I * val 256 lb) x0 (val 256 lb) K V Y ∧ Env w [⟨g0, 3, ints .i64 Y⟩] wr) (fun _ k _ => lb.length + 1 - (intOf k).toNat)
      case atStart => exact ⟨0, 0, X, rfl, rfl, HX.out.enter x0, hE0⟩
      case round =>
        clear hE0
        obtain ⟨K, V, Y, rfl, rfl, hM, hE0⟩ := hrel
        have htop := hM.top
        have hV := hM.small
        by_cases hgo : K < lb.length ∨ 0 < V
        · have hkm : K ≤ lb.length := by
            rcases Nat.lt_or_ge lb.length K with h | h
            · have := hM.last (by omega)
              omega
            · exact h
          have hYl := hM.len
          have hxa : x0 < 256 := by rw [Hx0.out]; exact Nat.mod_lt _ (by decide)
          obtain ⟨p, hp⟩ : ∃ p, p = I + K := ⟨_, rfl⟩
          obtain ⟨x, hx⟩ : ∃ x, x = Y.getD (I + K) 0 := ⟨_, rfl⟩
          obtain ⟨b, hb⟩ : ∃ b, b = val 256 lb / 256 ^ K % 256 := ⟨_, rfl⟩
          obtain ⟨hstep, hs⟩ := hM.step hIn hkm hxa (val_lt db) hx hb
          have hbl : b < 256 := by omega
          have hxl : x < 256 := by rw [hx]; exact hM.digs.getD (by decide) _
          have hbt : ∀ L w1, Env w L w1 → Gives 35 #[.slice pb lb.length cb, .int .i64 (K : Int)] w1 (.int .i64 (b : Nat)) := fun L w1 hE => by
            have := at_any (Hb.out.below hE.below) (by omega) (K : Int)
            rwa [atD_nat db, ← hb] at this
          have har : ∀ L w1, Env w L w1 → w1.cell? ⟨ga, I, none⟩ = some (.int .i64 (x0 : Nat)) := fun L w1 hE => by
            have := (Ha.out.below hE.below).cell hIn
            rwa [← val_div_mod da (by decide), ← Hx0.out] at this
          rw [← hp] at hx hstep
          have hX : p < Y.length := by rw [hYl]; omega
          have hp1 : IntKind.i64.wrap ((I : Int) + (K : Int)) = (p : Int) := by rw [IntKind.wrap_i64]; omega
          have hp0 : (0 : Int) ≤ (p : Int) := by omega
          have hpn : (p : Int) < (la.length : Int) + (lb.length : Int) := by omega
          have hK1 : IntKind.i64.wrap ((K : Int) + 1) = ((K + 1 : Nat) : Int) := by rw [IntKind.wrap_i64]; omega
          have hab : x0 * b ≤ 255 * 255 := Nat.mul_le_mul (by omega) (by omega)
          obtain ⟨m1, hm1⟩ : ∃ m, m = x0 * b := ⟨_, rfl⟩
          have hm2 : (x0 : Int) * (b : Int) = (m1 : Int) := by rw [hm1]; rfl
          rw [← hm1] at hstep hs hab
          clear hm1
          obtain ⟨t, ht⟩ : ∃ t, t = x + m1 := ⟨_, rfl⟩
          rw [← ht] at hstep hs
          obtain ⟨s, hs'⟩ : ∃ s, s = t + V := ⟨_, rfl⟩
          rw [← hs'] at hstep hs
          have hmw : IntKind.i64.wrap (m1 : Int) = (m1 : Int) := by rw [IntKind.wrap_i64]; omega
          have htw : IntKind.i64.wrap ((x : Int) + (m1 : Int)) = (t : Int) := by rw [IntKind.wrap_i64]; omega
          have hsw : IntKind.i64.wrap ((t : Int) + (V : Int)) = (s : Int) := by rw [IntKind.wrap_i64]; omega
          obtain ⟨d, hd⟩ : ∃ d, d = s % 256 := ⟨_, rfl⟩
          obtain ⟨c2, hc2⟩ : ∃ c2, c2 = s / 256 := ⟨_, rfl⟩
          rw [← hd, ← hc2] at hstep
          have hd1 : (s : Int).tmod 256 = (d : Int) := by rw [Int.tmod_eq_emod_of_nonneg (by omega)]; omega
          have hd2 : (s : Int) % 256 = (d : Int) := by omega
          have hc1 : (s : Int) / 256 = (c2 : Int) := by omega
          have hcw : IntKind.i64.wrap (c2 : Int) = (c2 : Int) := by rw [IntKind.wrap_i64]; omega
          have Hbt := Lib.hid hbt
          have Har := Lib.hid har
          have Hx := Lib.hid hx
          have Hs := Lib.hid hstep
          have hcases : K < lb.length ∨ (¬ K < lb.length ∧ 0 < V) := by
            rcases Nat.lt_or_ge K lb.length with h | h
            · exact .inl h
            · exact .inr ⟨Nat.not_lt.2 h, hgo.resolve_left (Nat.not_lt.2 h)⟩
          clear hbt har hx hstep hb hM hp hYl ht hs' hd hc2 hgo hab hs
          rcases hcases with h1 | ⟨h1, h2⟩
          · repeat ((fail_if_success (with_reducible show Code.wp _ (Code.region 9 _ _) _ _ _)); go_step)
            repeat ((fail_if_success (with_reducible show wpList _ _ _ (List.cons _ _) _ _)); (fail_if_success (with_reducible show Code.wp _ (Code.region _ _ true) _ _ _)); go_step)
            refine wp_region_env 17 (by kernel_rfl) (by kernel_rfl) (fun _ _ d _ _ h => by cases d <;> exact h) hE0 ?_
            apply headRun_val
            · intro w1 h1
              go_simp
              with_reducible rfl
            simp only [Act.put, List.setIfInBounds_toArray, List.set_cons_zero, List.set_cons_succ]
            apply headRun_val
            · intro w1 h1
              go_simp
              with_reducible rfl
            simp only [Act.put, List.setIfInBounds_toArray, List.set_cons_zero, List.set_cons_succ]
            apply headRun_val
            · intro w1 h1
              go_simp
              with_reducible rfl
            simp only [Act.put, List.setIfInBounds_toArray, List.set_cons_zero, List.set_cons_succ]
            apply headRun_val
            · intro w1 h1
              go_simp
              with_reducible rfl
            simp only [Act.put, List.setIfInBounds_toArray, List.set_cons_zero, List.set_cons_succ]
            apply headRun_val
            · intro w1 h1
              go_simp
              with_reducible rfl
            simp only [Act.put, List.setIfInBounds_toArray, List.set_cons_zero, List.set_cons_succ]
            apply headRun_val
            · intro w1 h1
              have ca := h1.cell (i := 0) rfl p
              rw [ints_get? _ _ _ hX, ← Hx.out] at ca
              go_simp
              with_reducible rfl
            simp only [Act.put, List.setIfInBounds_toArray, List.set_cons_zero, List.set_cons_succ]
            apply headRun_val
            · intro w1 h1
              go_simp
              with_reducible rfl
            simp only [Act.put, List.setIfInBounds_toArray, List.set_cons_zero, List.set_cons_succ]
            apply headRun_val
            · intro w1 h1
              go_simp
              with_reducible rfl
            simp only [Act.put, List.setIfInBounds_toArray, List.set_cons_zero, List.set_cons_succ]
            apply headRun_val
            · intro w1 h1
              go_simp
              with_reducible rfl
            simp only [Act.put, List.setIfInBounds_toArray, List.set_cons_zero, List.set_cons_succ]
            apply headRun_val
            · intro w1 h1
              have ca := Har.out _ _ h1
              go_simp
              with_reducible rfl
            simp only [Act.put, List.setIfInBounds_toArray, List.set_cons_zero, List.set_cons_succ]
            apply headRun_val
            · intro w1 h1
              go_simp
              with_reducible rfl
            simp only [Act.put, List.setIfInBounds_toArray, List.set_cons_zero, List.set_cons_succ]
            apply headRun_val
            · intro w1 h1
              go_simp
              with_reducible rfl
            simp only [Act.put, List.setIfInBounds_toArray, List.set_cons_zero, List.set_cons_succ]
            refine headRun_call (fun w1 => by go_simp) (fun w1 hW => Hbt.out _ _ hW) ?_
            simp only [Act.put, List.setIfInBounds_toArray, List.set_cons_zero, List.set_cons_succ]
            apply headRun_val
            · intro w1 h1
              go_simp
              with_reducible rfl
            simp only [Act.put, List.setIfInBounds_toArray, List.set_cons_zero, List.set_cons_succ]
            apply headRun_val
            · intro w1 h1
              go_simp
              with_reducible rfl
            simp only [Act.put, List.setIfInBounds_toArray, List.set_cons_zero, List.set_cons_succ]
            apply headRun_val
            · intro w1 h1
              go_simp
              with_reducible rfl
            simp only [Act.put, List.setIfInBounds_toArray, List.set_cons_zero, List.set_cons_succ]
            apply headRun_val
            · intro w1 h1
              go_simp
              with_reducible rfl
            simp only [Act.put, List.setIfInBounds_toArray, List.set_cons_zero, List.set_cons_succ]
            refine headRun_nil (endK0 ?_)
            intro  w1 hE1
            clear hE0
            simp only [List.drop_succ_cons, List.drop_zero, Act.put, List.setIfInBounds_toArray, List.set_cons_zero, List.set_cons_succ]
            apply wl_val rfl
            · go_simp
              with_reducible rfl
            simp only [Act.put, List.setIfInBounds_toArray, List.set_cons_zero, List.set_cons_succ]
            repeat ((fail_if_success (with_reducible show wpList _ _ _ (List.cons _ _) _ _)); (fail_if_success (with_reducible show Code.wp _ (Code.region _ _ true) _ _ _)); go_step)
            apply wl_val rfl
            · go_simp
              with_reducible rfl
            simp only [Act.put, List.setIfInBounds_toArray, List.set_cons_zero, List.set_cons_succ]
            apply wl_val rfl
            · go_simp
              with_reducible rfl
            simp only [Act.put, List.setIfInBounds_toArray, List.set_cons_zero, List.set_cons_succ]
            apply wl_val rfl
            · go_simp
              with_reducible rfl
            simp only [Act.put, List.setIfInBounds_toArray, List.set_cons_zero, List.set_cons_succ]
            apply wl_val rfl
            · go_simp
              with_reducible rfl
            simp only [Act.put, List.setIfInBounds_toArray, List.set_cons_zero, List.set_cons_succ]
            apply wl_val rfl
            · go_simp
              with_reducible rfl
            simp only [Act.put, List.setIfInBounds_toArray, List.set_cons_zero, List.set_cons_succ]
            apply wl_val rfl
            · go_simp
              with_reducible rfl
            simp only [Act.put, List.setIfInBounds_toArray, List.set_cons_zero, List.set_cons_succ]
            apply wl_val rfl
            · go_simp
              with_reducible rfl
            simp only [Act.put, List.setIfInBounds_toArray, List.set_cons_zero, List.set_cons_succ]
            refine wl_cell (i := 0) (j := p) (v := .int .i64 (d : Nat)) hE1 rfl rfl (by (have ca := hE1.cell (i := 0) rfl p; rw [ints_get? _ _ _ hX, ← Hx.out] at ca; have cf := hE1.frozen (i := 0) rfl p; go_simp; try with_reducible rfl)) ?_
            intro w2 hE2
            clear hE1
            simp only [List.set_cons_zero, List.set_cons_succ] at hE2
            rw [ints_set] at hE2
            simp only [Act.put, List.setIfInBounds_toArray, List.set_cons_zero, List.set_cons_succ]
            repeat ((fail_if_success (with_reducible show wpList _ _ _ (List.cons _ _) _ _)); (fail_if_success (with_reducible show Code.wp _ (Code.region _ _ true) _ _ _)); go_step)
            apply wl_val rfl
            · go_simp
              with_reducible rfl
            simp only [Act.put, List.setIfInBounds_toArray, List.set_cons_zero, List.set_cons_succ]
            apply wl_val rfl
            · go_simp
              with_reducible rfl
            simp only [Act.put, List.setIfInBounds_toArray, List.set_cons_zero, List.set_cons_succ]
            apply wl_val rfl
            · go_simp
              with_reducible rfl
            simp only [Act.put, List.setIfInBounds_toArray, List.set_cons_zero, List.set_cons_succ]
            repeat ((fail_if_success (with_reducible show wpList _ _ _ (List.cons _ _) _ _)); (fail_if_success (with_reducible show Code.wp _ (Code.region _ _ true) _ _ _)); go_step)
            apply wl_val rfl
            · go_simp
              with_reducible rfl
            simp only [Act.put, List.setIfInBounds_toArray, List.set_cons_zero, List.set_cons_succ]
            apply wl_val rfl
            · go_simp
              with_reducible rfl
            simp only [Act.put, List.setIfInBounds_toArray, List.set_cons_zero, List.set_cons_succ]
            apply wl_val rfl
            · go_simp
              with_reducible rfl
            simp only [Act.put, List.setIfInBounds_toArray, List.set_cons_zero, List.set_cons_succ]
            go_wp2
            go_roundw
            case rel => exact ⟨K + 1, c2, _, by go_num, rfl, Hs.out, hE2⟩
            case measure => simp [intOf]; omega
          · repeat ((fail_if_success (with_reducible show Code.wp _ (Code.region 9 _ _) _ _ _)); go_step)
            repeat ((fail_if_success (with_reducible show wpList _ _ _ (List.cons _ _) _ _)); (fail_if_success (with_reducible show Code.wp _ (Code.region _ _ true) _ _ _)); go_step)
            refine wp_region_env 17 (by kernel_rfl) (by kernel_rfl) (fun _ _ d _ _ h => by cases d <;> exact h) hE0 ?_
            apply headRun_val
            · intro w1 h1
              go_simp
              with_reducible rfl
            simp only [Act.put, List.setIfInBounds_toArray, List.set_cons_zero, List.set_cons_succ]
            apply headRun_val
            · intro w1 h1
              go_simp
              with_reducible rfl
            simp only [Act.put, List.setIfInBounds_toArray, List.set_cons_zero, List.set_cons_succ]
            apply headRun_val
            · intro w1 h1
              go_simp
              with_reducible rfl
            simp only [Act.put, List.setIfInBounds_toArray, List.set_cons_zero, List.set_cons_succ]
            apply headRun_val
            · intro w1 h1
              go_simp
              with_reducible rfl
            simp only [Act.put, List.setIfInBounds_toArray, List.set_cons_zero, List.set_cons_succ]
            apply headRun_val
            · intro w1 h1
              go_simp
              with_reducible rfl
            simp only [Act.put, List.setIfInBounds_toArray, List.set_cons_zero, List.set_cons_succ]
            apply headRun_val
            · intro w1 h1
              have ca := h1.cell (i := 0) rfl p
              rw [ints_get? _ _ _ hX, ← Hx.out] at ca
              go_simp
              with_reducible rfl
            simp only [Act.put, List.setIfInBounds_toArray, List.set_cons_zero, List.set_cons_succ]
            apply headRun_val
            · intro w1 h1
              go_simp
              with_reducible rfl
            simp only [Act.put, List.setIfInBounds_toArray, List.set_cons_zero, List.set_cons_succ]
            apply headRun_val
            · intro w1 h1
              go_simp
              with_reducible rfl
            simp only [Act.put, List.setIfInBounds_toArray, List.set_cons_zero, List.set_cons_succ]
            apply headRun_val
            · intro w1 h1
              go_simp
              with_reducible rfl
            simp only [Act.put, List.setIfInBounds_toArray, List.set_cons_zero, List.set_cons_succ]
            apply headRun_val
            · intro w1 h1
              have ca := Har.out _ _ h1
              go_simp
              with_reducible rfl
            simp only [Act.put, List.setIfInBounds_toArray, List.set_cons_zero, List.set_cons_succ]
            apply headRun_val
            · intro w1 h1
              go_simp
              with_reducible rfl
            simp only [Act.put, List.setIfInBounds_toArray, List.set_cons_zero, List.set_cons_succ]
            apply headRun_val
            · intro w1 h1
              go_simp
              with_reducible rfl
            simp only [Act.put, List.setIfInBounds_toArray, List.set_cons_zero, List.set_cons_succ]
            refine headRun_call (fun w1 => by go_simp) (fun w1 hW => Hbt.out _ _ hW) ?_
            simp only [Act.put, List.setIfInBounds_toArray, List.set_cons_zero, List.set_cons_succ]
            apply headRun_val
            · intro w1 h1
              go_simp
              with_reducible rfl
            simp only [Act.put, List.setIfInBounds_toArray, List.set_cons_zero, List.set_cons_succ]
            apply headRun_val
            · intro w1 h1
              go_simp
              with_reducible rfl
            simp only [Act.put, List.setIfInBounds_toArray, List.set_cons_zero, List.set_cons_succ]
            apply headRun_val
            · intro w1 h1
              go_simp
              with_reducible rfl
            simp only [Act.put, List.setIfInBounds_toArray, List.set_cons_zero, List.set_cons_succ]
            apply headRun_val
            · intro w1 h1
              go_simp
              with_reducible rfl
            simp only [Act.put, List.setIfInBounds_toArray, List.set_cons_zero, List.set_cons_succ]
            refine headRun_nil (endK0 ?_)
            intro  w1 hE1
            clear hE0
            simp only [List.drop_succ_cons, List.drop_zero, Act.put, List.setIfInBounds_toArray, List.set_cons_zero, List.set_cons_succ]
            apply wl_val rfl
            · go_simp
              with_reducible rfl
            simp only [Act.put, List.setIfInBounds_toArray, List.set_cons_zero, List.set_cons_succ]
            repeat ((fail_if_success (with_reducible show wpList _ _ _ (List.cons _ _) _ _)); (fail_if_success (with_reducible show Code.wp _ (Code.region _ _ true) _ _ _)); go_step)
            apply wl_val rfl
            · go_simp
              with_reducible rfl
            simp only [Act.put, List.setIfInBounds_toArray, List.set_cons_zero, List.set_cons_succ]
            apply wl_val rfl
            · go_simp
              with_reducible rfl
            simp only [Act.put, List.setIfInBounds_toArray, List.set_cons_zero, List.set_cons_succ]
            apply wl_val rfl
            · go_simp
              with_reducible rfl
            simp only [Act.put, List.setIfInBounds_toArray, List.set_cons_zero, List.set_cons_succ]
            apply wl_val rfl
            · go_simp
              with_reducible rfl
            simp only [Act.put, List.setIfInBounds_toArray, List.set_cons_zero, List.set_cons_succ]
            apply wl_val rfl
            · go_simp
              with_reducible rfl
            simp only [Act.put, List.setIfInBounds_toArray, List.set_cons_zero, List.set_cons_succ]
            apply wl_val rfl
            · go_simp
              with_reducible rfl
            simp only [Act.put, List.setIfInBounds_toArray, List.set_cons_zero, List.set_cons_succ]
            apply wl_val rfl
            · go_simp
              with_reducible rfl
            simp only [Act.put, List.setIfInBounds_toArray, List.set_cons_zero, List.set_cons_succ]
            refine wl_cell (i := 0) (j := p) (v := .int .i64 (d : Nat)) hE1 rfl rfl (by (have ca := hE1.cell (i := 0) rfl p; rw [ints_get? _ _ _ hX, ← Hx.out] at ca; have cf := hE1.frozen (i := 0) rfl p; go_simp; try with_reducible rfl)) ?_
            intro w2 hE2
            clear hE1
            simp only [List.set_cons_zero, List.set_cons_succ] at hE2
            rw [ints_set] at hE2
            simp only [Act.put, List.setIfInBounds_toArray, List.set_cons_zero, List.set_cons_succ]
            repeat ((fail_if_success (with_reducible show wpList _ _ _ (List.cons _ _) _ _)); (fail_if_success (with_reducible show Code.wp _ (Code.region _ _ true) _ _ _)); go_step)
            apply wl_val rfl
            · go_simp
              with_reducible rfl
            simp only [Act.put, List.setIfInBounds_toArray, List.set_cons_zero, List.set_cons_succ]
            apply wl_val rfl
            · go_simp
              with_reducible rfl
            simp only [Act.put, List.setIfInBounds_toArray, List.set_cons_zero, List.set_cons_succ]
            apply wl_val rfl
            · go_simp
              with_reducible rfl
            simp only [Act.put, List.setIfInBounds_toArray, List.set_cons_zero, List.set_cons_succ]
            repeat ((fail_if_success (with_reducible show wpList _ _ _ (List.cons _ _) _ _)); (fail_if_success (with_reducible show Code.wp _ (Code.region _ _ true) _ _ _)); go_step)
            apply wl_val rfl
            · go_simp
              with_reducible rfl
            simp only [Act.put, List.setIfInBounds_toArray, List.set_cons_zero, List.set_cons_succ]
            apply wl_val rfl
            · go_simp
              with_reducible rfl
            simp only [Act.put, List.setIfInBounds_toArray, List.set_cons_zero, List.set_cons_succ]
            apply wl_val rfl
            · go_simp
              with_reducible rfl
            simp only [Act.put, List.setIfInBounds_toArray, List.set_cons_zero, List.set_cons_succ]
            go_wp2
            go_roundw
            case rel => exact ⟨K + 1, c2, _, by go_num, rfl, Hs.out, hE2⟩
            case measure => simp [intOf]; omega
        · have h1 : ¬ K < lb.length := fun h => hgo (.inl h)
          have h0 : V = 0 := by
            rcases Nat.eq_zero_or_pos V with h | h
            · exact h
            · exact absurd (.inr h) hgo
          subst h0
          have hl := Lib.hid (hM.leave (by omega) (val_lt db) Hx0.out)
          clear hM hgo hV
          go_wp2
          go_roundw
          case rel => exact ⟨I + 1, Y, by omega, by go_num, hl.out, hE0⟩
          case measure => simp [intOf]; omega
    · have hI' : I = la.length := by omega
      subst hI'
      have hl := hO.len
      have hd := hO.digs
      have hv := Lib.hid (hO.final (val_lt da))
      clear hO hI hI1
      go_wp2
      go_returns
      exact ⟨g0, X, rfl, hE0, hl, hd, hv.out⟩
end Go.Proofs.Ytobfgleckcpcpaa
