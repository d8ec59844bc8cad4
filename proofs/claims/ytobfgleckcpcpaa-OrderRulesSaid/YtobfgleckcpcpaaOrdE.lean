/-
  Layer 5: the product of two numbers.
-/
import Derived.Test.YtobfgleckcpcpaaOrdD
namespace Go.Proofs.Ytobfgleckcpcpaa
open Go.RowKit
set_option linter.unusedVariables false
set_option linter.unusedSimpArgs false

/-- Inside a row of the product. -/
structure TInv (I S a O K V : Nat) (X : List Nat) : Prop where
  small : V < 18446744073709551616
  len : X.length = 8
  digs : Digs 18446744073709551616 X
  sum : val 18446744073709551616 X + 18446744073709551616 ^ (I + K) * V = S + 18446744073709551616 ^ I * (a * (O % 18446744073709551616 ^ K))
  zero : ∀ j, I + 4 ≤ j → X.getD j 0 = 0

theorem two_words {a b x V : Nat} (ha : a < 18446744073709551616) (hb : b < 18446744073709551616) (hx : x < 18446744073709551616) (hV : V < 18446744073709551616) :
    mulHi a b + carW (mulLo a b) x 0 < 18446744073709551616 ∧ mulHi a b + carW (mulLo a b) x 0 + carW (sumW (mulLo a b) x 0) V 0 < 18446744073709551616 ∧
    sumW (sumW (mulLo a b) x 0) V 0 + 18446744073709551616 * (mulHi a b + carW (mulLo a b) x 0 + carW (sumW (mulLo a b) x 0) V 0) = a * b + x + V := by
  have h1 := mul_hi_lo a b
  have h2 := sum_car (mulLo a b) x 0
  have h3 := sum_car (sumW (mulLo a b) x 0) V 0
  have h4 : a * b ≤ 18446744073709551615 * 18446744073709551615 := Nat.mul_le_mul (by omega) (by omega)
  have h5 := sumW_lt (sumW (mulLo a b) x 0) V 0
  generalize sumW (sumW (mulLo a b) x 0) V 0 = s2 at *
  generalize carW (sumW (mulLo a b) x 0) V 0 = c2 at *
  generalize sumW (mulLo a b) x 0 = s1 at *
  generalize carW (mulLo a b) x 0 = c1 at *
  generalize mulHi a b = hi at *
  generalize mulLo a b = lo at *
  generalize a * b = ab at *
  refine ⟨?_, ?_, ?_⟩ <;> omega

theorem row_key {v v' P Q s x V V' S a b R B : Nat} (t3 : s + B * V' = a * b + x + V) (hv : v' + P * Q * x = v + P * Q * s) (hs : v + P * Q * V = S + P * (a * R)) :
    v' + P * Q * B * V' = S + P * (a * (R + Q * b)) := by
  have e1 : P * Q * (s + B * V') = P * Q * (a * b + x + V) := by rw [t3]
  have e2 : P * (a * (R + Q * b)) = P * (a * R) + P * Q * (a * b) := by simp only [Nat.mul_add]; congr 1; simp only [Nat.mul_assoc, Nat.mul_left_comm, Nat.mul_comm]
  rw [e2, Nat.mul_assoc (P * Q)]
  simp only [Nat.mul_add] at e1
  omega

theorem TInv.step {I S a O K V : Nat} {X : List Nat} (h : TInv I S a O K V X) (hI : I < 4) (hK : K < 4) (ha : a < 18446744073709551616) {b x : Nat} (hb : b = O / 18446744073709551616 ^ K % 18446744073709551616) (hx : x = X.getD (I + K) 0) :
    TInv I S a O (K + 1) (mulHi a b + carW (mulLo a b) x 0 + carW (sumW (mulLo a b) x 0) V 0) (X.set (I + K) (sumW (sumW (mulLo a b) x 0) V 0)) := by
  have hbl : b < 18446744073709551616 := hb ▸ Nat.mod_lt _ (by decide)
  have hxl : x < 18446744073709551616 := hx ▸ h.digs.getD (by decide) _
  obtain ⟨-, t2, t3⟩ := two_words (V := V) ha hbl hxl h.small
  refine ⟨t2, by rw [List.length_set, h.len], h.digs.set _ (sumW_lt _ _ _), ?_, fun j hj => ?_⟩
  · have hlt : I + K < X.length := by rw [h.len]; omega
    have hv := val_set (B := 18446744073709551616) X (I + K) (sumW (sumW (mulLo a b) x 0) V 0) hlt
    have hxe : X[I + K] = x := by rw [hx]; simp [List.getD, hlt]
    rw [hxe] at hv
    have hs := h.sum
    have hO : O % 18446744073709551616 ^ (K + 1) = O % 18446744073709551616 ^ K + 18446744073709551616 ^ K * b := by
      rw [Nat.pow_succ, Nat.mod_mul, ← hb]
    rw [hO, ← Nat.add_assoc, Nat.pow_succ]
    have hp : 18446744073709551616 ^ (I + K) = 18446744073709551616 ^ I * 18446744073709551616 ^ K := Nat.pow_add _ _ _
    generalize sumW (sumW (mulLo a b) x 0) V 0 = s at *
    generalize mulHi a b + carW (mulLo a b) x 0 + carW (sumW (mulLo a b) x 0) V 0 = V' at *
    rw [hp] at hs hv ⊢
    generalize val 18446744073709551616 (X.set (I + K) s) = v' at *
    generalize val 18446744073709551616 X = v at *
    generalize (18446744073709551616 : Nat) ^ I = P at *
    generalize O % 18446744073709551616 ^ K = R at *
    generalize (18446744073709551616 : Nat) ^ K = Q at *
    exact row_key t3 hv hs
  · rw [List.getD_eq_getElem?_getD, List.getElem?_set_ne (by omega), ← List.getD_eq_getElem?_getD]
    exact h.zero j hj

/-- Between the rows of the product. -/
structure OInv (I N O : Nat) (X : List Nat) : Prop where
  len : X.length = 8
  digs : Digs 18446744073709551616 X
  sum : val 18446744073709551616 X = N % 18446744073709551616 ^ I * O
  zero : ∀ j, I + 4 ≤ j → X.getD j 0 = 0

theorem OInv.enter {I N O : Nat} {X : List Nat} (h : OInv I N O X) (a : Nat) : TInv I (N % 18446744073709551616 ^ I * O) a O 0 0 X := by
  refine ⟨by decide, h.len, h.digs, ?_, h.zero⟩
  rw [h.sum, Nat.pow_zero, Nat.mod_one]
  simp

theorem TInv.leave {I N O V a : Nat} {X : List Nat} (h : TInv I (N % 18446744073709551616 ^ I * O) a O 4 V X) (hI : I < 4) (hO : O < big256) (ha : a = N / 18446744073709551616 ^ I % 18446744073709551616) : OInv (I + 1) N O (X.set (I + 4) V) := by
  have hlt : I + 4 < X.length := by rw [h.len]; omega
  refine ⟨by rw [List.length_set, h.len], h.digs.set _ h.small, ?_, fun j hj => ?_⟩
  · have hv := val_set (B := 18446744073709551616) X (I + 4) V hlt
    have hz : X[I + 4] = 0 := by
      have := h.zero (I + 4) (Nat.le_refl _)
      simpa [List.getD, hlt] using this
    rw [hz, Nat.mul_zero, Nat.add_zero, h.sum, Nat.mod_eq_of_lt (a := O) (by simpa [big256] using hO)] at hv
    rw [hv, Nat.pow_succ, Nat.mod_mul, ← ha]
    grind
  · rw [List.getD_eq_getElem?_getD, List.getElem?_set_ne (by omega), ← List.getD_eq_getElem?_getD]
    exact h.zero j (by omega)

theorem OInv.start (N O : Nat) : OInv 0 N O (List.replicate 8 0) :=
  ⟨by simp, Digs.replicate (by decide) 8, by rw [val_replicate, Nat.pow_zero, Nat.mod_one, Nat.zero_mul], fun j _ => by rw [List.getD_eq_getElem?_getD, List.getElem?_replicate]; split <;> rfl⟩

theorem OInv.final {N O : Nat} {X : List Nat} (h : OInv 4 N O X) (hN : N < big256) : X = Proofs.Ytobfgleckcpcpaa.digs 18446744073709551616 8 (N * O) := by
  have := h.sum
  rw [Nat.mod_eq_of_lt (by simpa [big256] using hN)] at this
  rw [← this, digs_val' h.digs h.len]

theorem al_twice (w : World) : (Instr.alloc 35 true (.tuple #[])).run Try.prog w = .ok (.pointer (some ⟨w.heap.size, 0, none⟩)) (w.alloc (.cells (ints .u64 (List.replicate 8 0)) 35)) := by kernel_rfl
theorem four_lt' {a b : Nat} (h : a < 4) (h' : b < 4) : IntKind.i64.wrap ((a : Int) + (b : Int)) = ((a + b : Nat) : Int) ∧ a + b < 8 := by
  constructor
  · rw [IntKind.wrap_i64]; omega
  · omega
theorem index_num (N I : Nat) (hI : I < 4) (w : World) : (Instr.index 37 (num N) (.int .i64 (I : Int))).run Try.prog w = .ok (.int .u64 ((N / 18446744073709551616 ^ I % 18446744073709551616 : Nat) : Int)) w := by
  obtain ⟨i, hi, -, hs, -⟩ := info_parts (P := Try.prog) (e := 34) (z := .int .u64 0) (size := 1) (bytes := 8) (by kernel_rfl)
  have h := run_index_row (P := Try.prog) (k := .u64) Try.underlying37 hi hs Try.underlying34 (digs 18446744073709551616 4 N) .i64 I (digs_length _ _ _) hI w
  rw [digs_getD _ _ _ _ hI] at h
  exact h

theorem add_zero_ (x y : Nat) (w : World) : (callFunc 33 #[.int .u64 x, .int .u64 y, .int .u64 0]).run Try.prog w = .ok (.value (.tuple #[.int .u64 (sumW x y 0 : Nat), .int .u64 (carW x y 0 : Nat)])) w :=
  run_Add64 x y 0 (by decide) w

set_option maxHeartbeats 2000000 in
theorem times_any (N O : Nat) (hN : N < big256) (hO : O < big256) (w : World) : Gives 18 #[num N, num O] w (.agg (ints .u64 (digs 18446744073709551616 8 (N * O)))) := by
  have hE0 := Env.nil w
  have HN := Lib.hid hN
  have HO := Lib.hid hO
  clear hN hO
  go_enter Try.func18, Try.ntmps18
  repeat ((fail_if_success (with_reducible show wpList _ _ _ (List.cons _ _) _ _)); (fail_if_success (with_reducible show Code.wp _ (Code.region _ _ true) _ _ _)); go_step)
  refine wl_box (cs := ints .u64 (digs 18446744073709551616 4 N)) hE0 rfl rfl rfl ?_
  intro g0 w1 hE1
  clear hE0
  simp only [Act.put, List.setIfInBounds_toArray, List.set_cons_zero, List.set_cons_succ]
  refine wl_box (cs := ints .u64 (digs 18446744073709551616 4 O)) hE1 rfl rfl rfl ?_
  intro g1 w2 hE2
  clear hE1
  simp only [Act.put, List.setIfInBounds_toArray, List.set_cons_zero, List.set_cons_succ]
  refine wl_alloc hE2 rfl rfl al_twice ?_
  intro g2 w3 hE3
  clear hE2
  simp only [Act.put, List.setIfInBounds_toArray, List.set_cons_zero, List.set_cons_succ]
  repeat ((fail_if_success (with_reducible show wpList _ _ _ (List.cons _ _) _ _)); (fail_if_success (with_reducible show Code.wp _ (Code.region _ _ true) _ _ _)); go_step)
  refine wl_alloc hE3 rfl rfl al_twice ?_
  intro g3 w4 hE4
  clear hE3
  simp only [Act.put, List.setIfInBounds_toArray, List.set_cons_zero, List.set_cons_succ]
  repeat ((fail_if_success (with_reducible show wpList _ _ _ (List.cons _ _) _ _)); (fail_if_success (with_reducible show Code.wp _ (Code.region _ _ true) _ _ _)); go_step)
  refine wl_load (i := 3) hE4 rfl rfl rfl rfl Try.underlying37 rfl (sz_of (n := 4) (by kernel_rfl) (by first | (simp only [ints_size, digs_length, List.length_replicate, List.length_cons, List.length_nil]; done) | (simp only [ints_size, *]; done) | rfl)) ?_
  simp only [Act.put, List.setIfInBounds_toArray, List.set_cons_zero, List.set_cons_succ]
  apply wl_val rfl
  · go_simp
    with_reducible rfl
  simp only [Act.put, List.setIfInBounds_toArray, List.set_cons_zero, List.set_cons_succ]
  repeat ((fail_if_success (with_reducible show wpList _ _ _ (List.cons _ _) _ _)); (fail_if_success (with_reducible show Code.wp _ (Code.region _ _ true) _ _ _)); go_step)
  go_loopw [15] (fun i wr => ∃ (I : Nat) (X : List Nat), I ≤ 4 ∧ i = .int .i64 I ∧ OInv I N O X ∧ Env w [⟨g3, 35, ints .u64 X⟩, ⟨g2, 35, ints .u64 (List.replicate 8 0)⟩, ⟨g1, 37, ints .u64 (digs 18446744073709551616 4 O)⟩, ⟨g0, 37, ints .u64 (digs 18446744073709551616 4 N)⟩] wr) (fun i _ => 4 - (intOf i).toNat)
  case atStart => exact ⟨0, _, by decide, rfl, OInv.start N O, hE4⟩
  case round =>
    clear hE4
    obtain ⟨I, X, hI, rfl, hO, hE0⟩ := hrel
    by_cases hI4 : I < 4
    · have HX := Lib.hid hO
      clear hO hI
      obtain ⟨a, ha⟩ : ∃ a, a = N / 18446744073709551616 ^ I % 18446744073709551616 := ⟨_, rfl⟩
      have Hi := fun w => index_num N I hI4 w
      rw [← ha] at Hi
      have Ha := Lib.hid ha
      clear ha
      repeat ((fail_if_success (with_reducible show wpList _ _ _ (List.cons _ _) _ _)); (fail_if_success (with_reducible show Code.wp _ (Code.region _ _ true) _ _ _)); go_step)
      apply wl_val rfl
      · go_simp
        with_reducible rfl
      simp only [Act.put, List.setIfInBounds_toArray, List.set_cons_zero, List.set_cons_succ]
      repeat ((fail_if_success (with_reducible show wpList _ _ _ (List.cons _ _) _ _)); (fail_if_success (with_reducible show Code.wp _ (Code.region _ _ true) _ _ _)); go_step)
      apply wl_val rfl
      · go_simp
        with_reducible rfl
      simp only [Act.put, List.setIfInBounds_toArray, List.set_cons_zero, List.set_cons_succ]
      apply wl_val rfl
      · go_simp
        with_reducible rfl
      simp only [Act.put, List.setIfInBounds_toArray, List.set_cons_zero, List.set_cons_succ]
      apply wl_val rfl
      · go_simp
        with_reducible rfl
      simp only [Act.put, List.setIfInBounds_toArray, List.set_cons_zero, List.set_cons_succ]
      apply wl_val rfl
      · go_simp
        with_reducible rfl
      simp only [Act.put, List.setIfInBounds_toArray, List.set_cons_zero, List.set_cons_succ]
      repeat ((fail_if_success (with_reducible show wpList _ _ _ (List.cons _ _) _ _)); (fail_if_success (with_reducible show Code.wp _ (Code.region _ _ true) _ _ _)); go_step)
      apply wl_val rfl
      · go_simp
        with_reducible rfl
      simp only [Act.put, List.setIfInBounds_toArray, List.set_cons_zero, List.set_cons_succ]
      repeat ((fail_if_success (with_reducible show wpList _ _ _ (List.cons _ _) _ _)); (fail_if_success (with_reducible show Code.wp _ (Code.region _ _ true) _ _ _)); go_step)
      refine wl_load (i := 2) hE0 rfl rfl rfl rfl Try.underlying37 rfl (sz_of (n := 4) (by kernel_rfl) (by first | (simp only [ints_size, digs_length, List.length_replicate, List.length_cons, List.length_nil]; done) | (simp only [ints_size, *]; done) | rfl)) ?_
      simp only [Act.put, List.setIfInBounds_toArray, List.set_cons_zero, List.set_cons_succ]
      apply wl_val rfl
      · go_simp
        with_reducible rfl
      simp only [Act.put, List.setIfInBounds_toArray, List.set_cons_zero, List.set_cons_succ]
      repeat ((fail_if_success (with_reducible show wpList _ _ _ (List.cons _ _) _ _)); (fail_if_success (with_reducible show Code.wp _ (Code.region _ _ true) _ _ _)); go_step)
      go_loopw [8, 20] (fun ov k wr => ∃ (K V : Nat) (Y : List Nat), K ≤ 4 ∧ k = .int .i64 K ∧ ov = .int .u64 V ∧ TInv I (N % 18446744073709551616 ^ I * O) a O K V Y ∧ Env w [⟨g3, 35, ints .u64 Y⟩, ⟨g2, 35, ints .u64 (List.replicate 8 0)⟩, ⟨g1, 37, ints .u64 (digs 18446744073709551616 4 O)⟩, ⟨g0, 37, ints .u64 (digs 18446744073709551616 4 N)⟩] wr) (fun _ k _ => 4 - (intOf k).toNat)
      case atStart => exact ⟨0, 0, X, by decide, rfl, rfl, HX.out.enter a, hE0⟩
      case round =>
        clear hE0
        obtain ⟨K, V, Y, hK, rfl, rfl, hT, hE0⟩ := hrel
        by_cases hK4 : K < 4
        · have HT := Lib.hid hT
          have hYl := hT.len
          have hV := hT.small
          have hYd := hT.digs
          have ha : a < 18446744073709551616 := Ha.out ▸ Nat.mod_lt _ (by decide)
          obtain ⟨b, hb⟩ : ∃ b, b = O / 18446744073709551616 ^ K % 18446744073709551616 := ⟨_, rfl⟩
          have Hk := fun w => index_num O K hK4 w
          rw [← hb] at Hk
          have hbl : b < 18446744073709551616 := hb ▸ Nat.mod_lt _ (by decide)
          obtain ⟨hIK, hIK8⟩ := four_lt' hI4 hK4
          have hX : I + K < Y.length := by rw [hYl]; exact hIK8
          obtain ⟨x, hx⟩ : ∃ x, x = Y.getD (I + K) 0 := ⟨_, rfl⟩
          have hxl : x < 18446744073709551616 := hx ▸ hYd.getD (by decide) _
          have hstep := hT.step hI4 hK4 ha hb hx
          obtain ⟨t1, t2, -⟩ := two_words (V := V) ha hbl hxl hV
          have hlo := mulLo_lt a b
          obtain ⟨hi, hhi⟩ : ∃ h, h = mulHi a b := ⟨_, rfl⟩
          obtain ⟨lo, hlo'⟩ : ∃ h, h = mulLo a b := ⟨_, rfl⟩
          have hMul : ∀ w, _ := Mul64_any a b ha hbl
          rw [← hhi, ← hlo'] at hMul
          rw [← hhi, ← hlo'] at hstep t1 t2
          have s1 := add_zero_ lo x
          have s2 := add_zero_ (sumW lo x 0) V
          obtain ⟨l2, hl2⟩ : ∃ h, h = sumW lo x 0 := ⟨_, rfl⟩
          obtain ⟨c2, hc2⟩ : ∃ h, h = carW lo x 0 := ⟨_, rfl⟩
          rw [← hl2] at s1 s2 hstep t2
          rw [← hc2] at s1 hstep t1 t2
          obtain ⟨l3, hl3⟩ : ∃ h, h = sumW l2 V 0 := ⟨_, rfl⟩
          obtain ⟨c3, hc3⟩ : ∃ h, h = carW l2 V 0 := ⟨_, rfl⟩
          rw [← hl3] at s2 hstep
          rw [← hc3] at s2 hstep t2
          have hw1 : IntKind.u64.wrap ((hi : Int) + (c2 : Int)) = ((hi + c2 : Nat) : Int) := by rw [IntKind.wrap_u64]; omega
          have hw2 : IntKind.u64.wrap (((hi + c2 : Nat) : Int) + (c3 : Int)) = ((hi + c2 + c3 : Nat) : Int) := by rw [IntKind.wrap_u64]; omega
          obtain ⟨h2, hh2⟩ : ∃ h, h = hi + c2 := ⟨_, rfl⟩
          rw [← hh2] at hw1 hw2 hstep
          obtain ⟨V2, hV2⟩ : ∃ h, h = h2 + c3 := ⟨_, rfl⟩
          rw [← hV2] at hw2 hstep
          obtain ⟨p, hp⟩ : ∃ p, p = I + K := ⟨_, rfl⟩
          rw [← hp] at hIK hIK8 hX hx hstep
          have hp0 : (0 : Int) ≤ (p : Int) := by omega
          have hp8 : (p : Int) < 8 := by omega
          have Hx := Lib.hid hx
          have Hs := Lib.hid hstep
          have HM := Lib.hid hMul
          clear hx hxl hstep hMul hT hYl hV hYd hb hbl ha hlo hhi hlo' hl2 hc2 hl3 hc3 hh2 hV2 t1 t2 hK hp
          have hK1 : IntKind.i64.wrap ((K : Int) + 1) = ((K + 1 : Nat) : Int) := by rw [IntKind.wrap_i64]; omega
          repeat ((fail_if_success (with_reducible show wpList _ _ _ (List.cons _ _) _ _)); (fail_if_success (with_reducible show Code.wp _ (Code.region _ _ true) _ _ _)); go_step)
          apply wl_val rfl
          · go_simp
            with_reducible rfl
          simp only [Act.put, List.setIfInBounds_toArray, List.set_cons_zero, List.set_cons_succ]
          repeat ((fail_if_success (with_reducible show wpList _ _ _ (List.cons _ _) _ _)); (fail_if_success (with_reducible show Code.wp _ (Code.region _ _ true) _ _ _)); go_step)
          apply wl_val rfl
          · go_simp
            with_reducible rfl
          simp only [Act.put, List.setIfInBounds_toArray, List.set_cons_zero, List.set_cons_succ]
          apply wl_val rfl
          · go_simp
            with_reducible rfl
          simp only [Act.put, List.setIfInBounds_toArray, List.set_cons_zero, List.set_cons_succ]
          apply wl_val rfl
          · go_simp
            with_reducible rfl
          simp only [Act.put, List.setIfInBounds_toArray, List.set_cons_zero, List.set_cons_succ]
          apply wl_val rfl
          · go_simp
            with_reducible rfl
          simp only [Act.put, List.setIfInBounds_toArray, List.set_cons_zero, List.set_cons_succ]
          repeat ((fail_if_success (with_reducible show wpList _ _ _ (List.cons _ _) _ _)); (fail_if_success (with_reducible show Code.wp _ (Code.region _ _ true) _ _ _)); go_step)
          apply wl_val rfl
          · go_simp
            with_reducible rfl
          simp only [Act.put, List.setIfInBounds_toArray, List.set_cons_zero, List.set_cons_succ]
          apply wl_val rfl
          · go_simp
            with_reducible rfl
          simp only [Act.put, List.setIfInBounds_toArray, List.set_cons_zero, List.set_cons_succ]
          refine wl_call hE0 rfl (by go_simp) ((HM.out _).mono (fun _ _ h => ⟨h.1, h.2 ▸ Below.refl _ _⟩)) ?_
          intro w1 hE1
          clear hE0
          simp only [Act.put, List.setIfInBounds_toArray, List.set_cons_zero, List.set_cons_succ]
          apply wl_val rfl
          · go_simp
            with_reducible rfl
          simp only [Act.put, List.setIfInBounds_toArray, List.set_cons_zero, List.set_cons_succ]
          apply wl_val rfl
          · go_simp
            with_reducible rfl
          simp only [Act.put, List.setIfInBounds_toArray, List.set_cons_zero, List.set_cons_succ]
          apply wl_val rfl
          · go_simp
            with_reducible rfl
          simp only [Act.put, List.setIfInBounds_toArray, List.set_cons_zero, List.set_cons_succ]
          apply wl_val rfl
          · go_simp
            with_reducible rfl
          simp only [Act.put, List.setIfInBounds_toArray, List.set_cons_zero, List.set_cons_succ]
          apply wl_val rfl
          · go_simp
            with_reducible rfl
          simp only [Act.put, List.setIfInBounds_toArray, List.set_cons_zero, List.set_cons_succ]
          repeat ((fail_if_success (with_reducible show wpList _ _ _ (List.cons _ _) _ _)); (fail_if_success (with_reducible show Code.wp _ (Code.region _ _ true) _ _ _)); go_step)
          apply wl_val rfl
          · go_simp
            with_reducible rfl
          simp only [Act.put, List.setIfInBounds_toArray, List.set_cons_zero, List.set_cons_succ]
          apply wl_val rfl
          · go_simp
            with_reducible rfl
          simp only [Act.put, List.setIfInBounds_toArray, List.set_cons_zero, List.set_cons_succ]
          apply wl_val rfl
          · go_simp
            with_reducible rfl
          simp only [Act.put, List.setIfInBounds_toArray, List.set_cons_zero, List.set_cons_succ]
          apply wl_val rfl
          · go_simp
            with_reducible rfl
          simp only [Act.put, List.setIfInBounds_toArray, List.set_cons_zero, List.set_cons_succ]
          apply wl_val rfl
          · go_simp
            with_reducible rfl
          simp only [Act.put, List.setIfInBounds_toArray, List.set_cons_zero, List.set_cons_succ]
          apply wl_val rfl
          · have ca := hE1.cell (i := 0) rfl p
            rw [ints_get? _ _ _ hX, ← Hx.out] at ca
            go_simp
            with_reducible rfl
          simp only [Act.put, List.setIfInBounds_toArray, List.set_cons_zero, List.set_cons_succ]
          apply wl_val rfl
          · go_simp
            with_reducible rfl
          simp only [Act.put, List.setIfInBounds_toArray, List.set_cons_zero, List.set_cons_succ]
          apply wl_val rfl
          · go_simp
            with_reducible rfl
          simp only [Act.put, List.setIfInBounds_toArray, List.set_cons_zero, List.set_cons_succ]
          apply wl_val rfl
          · go_simp
            with_reducible rfl
          simp only [Act.put, List.setIfInBounds_toArray, List.set_cons_zero, List.set_cons_succ]
          apply wl_val rfl
          · go_simp
            with_reducible rfl
          simp only [Act.put, List.setIfInBounds_toArray, List.set_cons_zero, List.set_cons_succ]
          apply wl_val rfl
          · go_simp
            with_reducible rfl
          simp only [Act.put, List.setIfInBounds_toArray, List.set_cons_zero, List.set_cons_succ]
          apply wl_val rfl
          · go_simp
            with_reducible rfl
          simp only [Act.put, List.setIfInBounds_toArray, List.set_cons_zero, List.set_cons_succ]
          repeat ((fail_if_success (with_reducible show wpList _ _ _ (List.cons _ _) _ _)); (fail_if_success (with_reducible show Code.wp _ (Code.region _ _ true) _ _ _)); go_step)
          apply wl_val rfl
          · go_simp
            with_reducible rfl
          simp only [Act.put, List.setIfInBounds_toArray, List.set_cons_zero, List.set_cons_succ]
          apply wl_val rfl
          · go_simp
            with_reducible rfl
          simp only [Act.put, List.setIfInBounds_toArray, List.set_cons_zero, List.set_cons_succ]
          apply wl_val rfl
          · go_simp
            with_reducible rfl
          simp only [Act.put, List.setIfInBounds_toArray, List.set_cons_zero, List.set_cons_succ]
          apply wl_val rfl
          · go_simp
            with_reducible rfl
          simp only [Act.put, List.setIfInBounds_toArray, List.set_cons_zero, List.set_cons_succ]
          repeat ((fail_if_success (with_reducible show wpList _ _ _ (List.cons _ _) _ _)); (fail_if_success (with_reducible show Code.wp _ (Code.region _ _ true) _ _ _)); go_step)
          apply wl_val rfl
          · go_simp
            with_reducible rfl
          simp only [Act.put, List.setIfInBounds_toArray, List.set_cons_zero, List.set_cons_succ]
          apply wl_val rfl
          · go_simp
            with_reducible rfl
          simp only [Act.put, List.setIfInBounds_toArray, List.set_cons_zero, List.set_cons_succ]
          apply wl_val rfl
          · go_simp
            with_reducible rfl
          simp only [Act.put, List.setIfInBounds_toArray, List.set_cons_zero, List.set_cons_succ]
          apply wl_val rfl
          · go_simp
            with_reducible rfl
          simp only [Act.put, List.setIfInBounds_toArray, List.set_cons_zero, List.set_cons_succ]
          apply wl_val rfl
          · go_simp
            with_reducible rfl
          simp only [Act.put, List.setIfInBounds_toArray, List.set_cons_zero, List.set_cons_succ]
          apply wl_val rfl
          · go_simp
            with_reducible rfl
          simp only [Act.put, List.setIfInBounds_toArray, List.set_cons_zero, List.set_cons_succ]
          apply wl_val rfl
          · go_simp
            with_reducible rfl
          simp only [Act.put, List.setIfInBounds_toArray, List.set_cons_zero, List.set_cons_succ]
          apply wl_val rfl
          · go_simp
            with_reducible rfl
          simp only [Act.put, List.setIfInBounds_toArray, List.set_cons_zero, List.set_cons_succ]
          repeat ((fail_if_success (with_reducible show wpList _ _ _ (List.cons _ _) _ _)); (fail_if_success (with_reducible show Code.wp _ (Code.region _ _ true) _ _ _)); go_step)
          apply wl_val rfl
          · go_simp
            with_reducible rfl
          simp only [Act.put, List.setIfInBounds_toArray, List.set_cons_zero, List.set_cons_succ]
          apply wl_val rfl
          · go_simp
            with_reducible rfl
          simp only [Act.put, List.setIfInBounds_toArray, List.set_cons_zero, List.set_cons_succ]
          apply wl_val rfl
          · go_simp
            with_reducible rfl
          simp only [Act.put, List.setIfInBounds_toArray, List.set_cons_zero, List.set_cons_succ]
          apply wl_val rfl
          · go_simp
            with_reducible rfl
          simp only [Act.put, List.setIfInBounds_toArray, List.set_cons_zero, List.set_cons_succ]
          apply wl_val rfl
          · go_simp
            with_reducible rfl
          simp only [Act.put, List.setIfInBounds_toArray, List.set_cons_zero, List.set_cons_succ]
          apply wl_val rfl
          · go_simp
            with_reducible rfl
          simp only [Act.put, List.setIfInBounds_toArray, List.set_cons_zero, List.set_cons_succ]
          apply wl_val rfl
          · go_simp
            with_reducible rfl
          simp only [Act.put, List.setIfInBounds_toArray, List.set_cons_zero, List.set_cons_succ]
          apply wl_val rfl
          · go_simp
            with_reducible rfl
          simp only [Act.put, List.setIfInBounds_toArray, List.set_cons_zero, List.set_cons_succ]
          refine wl_cell (i := 0) (j := p) (v := .int .u64 (l3 : Nat)) hE1 rfl rfl (by (have ca := hE1.cell (i := 0) rfl p; rw [ints_get? _ _ _ hX, ← Hx.out] at ca; have cf := hE1.frozen (i := 0) rfl p; go_simp; try with_reducible rfl)) ?_
          intro w2 hE2
          clear hE1
          simp only [List.set_cons_zero, List.set_cons_succ] at hE2
          rw [ints_set] at hE2
          simp only [Act.put, List.setIfInBounds_toArray, List.set_cons_zero, List.set_cons_succ]
          apply wl_val rfl
          · go_simp
            with_reducible rfl
          simp only [Act.put, List.setIfInBounds_toArray, List.set_cons_zero, List.set_cons_succ]
          repeat ((fail_if_success (with_reducible show wpList _ _ _ (List.cons _ _) _ _)); (fail_if_success (with_reducible show Code.wp _ (Code.region _ _ true) _ _ _)); go_step)
          apply wl_val rfl
          · go_simp
            with_reducible rfl
          simp only [Act.put, List.setIfInBounds_toArray, List.set_cons_zero, List.set_cons_succ]
          apply wl_val rfl
          · go_simp
            with_reducible rfl
          simp only [Act.put, List.setIfInBounds_toArray, List.set_cons_zero, List.set_cons_succ]
          go_wp2
          go_roundw
          case rel => exact ⟨K + 1, V2, _, by omega, by go_num, rfl, Hs.out, hE2⟩
          case measure => simp [intOf]; omega
        · have hK' : K = 4 := by omega
          subst hK'
          have hleave := hT.leave hI4 HO.out Ha.out
          have hIp : IntKind.i64.wrap ((I : Int) + 4) = ((I + 4 : Nat) : Int) := by rw [IntKind.wrap_i64]; omega
          have hIp8 : I + 4 < 8 := by omega
          have hX : I + 4 < Y.length := by rw [hT.len]; exact hIp8
          obtain ⟨p, hp⟩ : ∃ p, p = I + 4 := ⟨_, rfl⟩
          rw [← hp] at hIp hIp8 hX hleave
          have hp0 : (0 : Int) ≤ (p : Int) := by omega
          have hp8 : (p : Int) < 8 := by omega
          have HL := Lib.hid hleave
          clear hleave hT hp
          have hI1 : IntKind.i64.wrap ((I : Int) + 1) = ((I + 1 : Nat) : Int) := by rw [IntKind.wrap_i64]; omega
          repeat ((fail_if_success (with_reducible show wpList _ _ _ (List.cons _ _) _ _)); (fail_if_success (with_reducible show Code.wp _ (Code.region _ _ true) _ _ _)); go_step)
          apply wl_val rfl
          · go_simp
            with_reducible rfl
          simp only [Act.put, List.setIfInBounds_toArray, List.set_cons_zero, List.set_cons_succ]
          repeat ((fail_if_success (with_reducible show wpList _ _ _ (List.cons _ _) _ _)); (fail_if_success (with_reducible show Code.wp _ (Code.region _ _ true) _ _ _)); go_step)
          apply wl_val rfl
          · go_simp
            with_reducible rfl
          simp only [Act.put, List.setIfInBounds_toArray, List.set_cons_zero, List.set_cons_succ]
          apply wl_val rfl
          · go_simp
            with_reducible rfl
          simp only [Act.put, List.setIfInBounds_toArray, List.set_cons_zero, List.set_cons_succ]
          apply wl_val rfl
          · go_simp
            with_reducible rfl
          simp only [Act.put, List.setIfInBounds_toArray, List.set_cons_zero, List.set_cons_succ]
          apply wl_val rfl
          · go_simp
            with_reducible rfl
          simp only [Act.put, List.setIfInBounds_toArray, List.set_cons_zero, List.set_cons_succ]
          refine wl_cell (i := 0) (j := p) (v := .int .u64 (V : Nat)) hE0 rfl rfl (by (have ca := hE0.cell (i := 0) rfl p; rw [ints_get? _ _ _ hX] at ca; have cf := hE0.frozen (i := 0) rfl p; go_simp; try with_reducible rfl)) ?_
          intro w1 hE1
          clear hE0
          simp only [List.set_cons_zero, List.set_cons_succ] at hE1
          rw [ints_set] at hE1
          simp only [Act.put, List.setIfInBounds_toArray, List.set_cons_zero, List.set_cons_succ]
          repeat ((fail_if_success (with_reducible show wpList _ _ _ (List.cons _ _) _ _)); (fail_if_success (with_reducible show Code.wp _ (Code.region _ _ true) _ _ _)); go_step)
          apply wl_val rfl
          · go_simp
            with_reducible rfl
          simp only [Act.put, List.setIfInBounds_toArray, List.set_cons_zero, List.set_cons_succ]
          apply wl_val rfl
          · go_simp
            with_reducible rfl
          simp only [Act.put, List.setIfInBounds_toArray, List.set_cons_zero, List.set_cons_succ]
          go_wp2
          go_roundw
          case rel => exact ⟨I + 1, _, by omega, by go_num, HL.out, hE1⟩
          case measure => simp [intOf]; omega
    · have hI' : I = 4 := by omega
      subst hI'
      have hX := hO.final HN.out
      subst hX
      clear hI4 hO hI
      repeat ((fail_if_success (with_reducible show wpList _ _ _ (List.cons _ _) _ _)); (fail_if_success (with_reducible show Code.wp _ (Code.region _ _ true) _ _ _)); go_step)
      apply wl_val rfl
      · go_simp
        with_reducible rfl
      simp only [Act.put, List.setIfInBounds_toArray, List.set_cons_zero, List.set_cons_succ]
      repeat ((fail_if_success (with_reducible show wpList _ _ _ (List.cons _ _) _ _)); (fail_if_success (with_reducible show Code.wp _ (Code.region _ _ true) _ _ _)); go_step)
      refine wl_load (i := 0) hE0 rfl rfl rfl rfl Try.underlying35 rfl (sz_of (n := 8) (by kernel_rfl) (by first | (simp only [ints_size, digs_length, List.length_replicate, List.length_cons, List.length_nil]; done) | (simp only [ints_size, *]; done) | rfl)) ?_
      simp only [Act.put, List.setIfInBounds_toArray, List.set_cons_zero, List.set_cons_succ]
      refine wl_store (i := 1) hE0 rfl rfl rfl rfl rfl (sz_of (n := 8) (by kernel_rfl) (by first | (simp only [ints_size, digs_length, List.length_replicate, List.length_cons, List.length_nil]; done) | (simp only [ints_size, *]; done) | rfl)) (by first | (simp only [ints_size, digs_length, List.length_replicate, List.length_cons, List.length_nil]; done) | (simp only [ints_size, *]; done) | rfl) (by first | exact ints_one _ _ | decide | simp [*]) ?_
      intro w1 hE1
      clear hE0
      simp only [List.set_cons_zero, List.set_cons_succ] at hE1
      simp only [Act.put, List.setIfInBounds_toArray, List.set_cons_zero, List.set_cons_succ]
      repeat ((fail_if_success (with_reducible show wpList _ _ _ (List.cons _ _) _ _)); (fail_if_success (with_reducible show Code.wp _ (Code.region _ _ true) _ _ _)); go_step)
      refine bodyPost_ret (results_cell_row rfl _ _ _ _ _ (0, 0) _ rfl (hE1.get (i := 1) rfl) Try.underlying35 rfl (sz_of (n := 8) (by kernel_rfl) (by first | (simp only [ints_size, digs_length, List.length_replicate, List.length_cons, List.length_nil]; done) | (simp only [ints_size, *]; done) | rfl))) rfl ⟨rfl, hE1.below⟩
end Go.Proofs.Ytobfgleckcpcpaa
