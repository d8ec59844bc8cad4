/-
  Plain arithmetic: three numbers tell a point; their sum, and multiples; the base's order.
  No condition. No program in sight.
-/
import Derived.Test.YtmebjoehmheknaaCrvM
namespace Go.Proofs.Ytmebjoehmheknaa
open Go.RowKit
set_option linter.unusedVariables false

/-- Three numbers tell a point. -/
structure RRep (X Y Z : Nat) (P : Pt) : Prop where
  lx : X < pN
  ly : Y < pN
  lz : Z < pN
  nz : kk pN Z ≠ 0
  ex : kk pN X = P.x * kk pN Z
  ey : kk pN Y = P.y * kk pN Z
def raF (X1 Y1 Z1 X2 Y2 Z2 : Nat) : Nat := (Z1 * Z2 % pN * (Z1 * Z2 % pN) % pN + dN * (X1 * X2 % pN * (Y1 * Y2 % pN) % pN) % pN) % pN
def raG (X1 Y1 Z1 X2 Y2 Z2 : Nat) : Nat := (Z1 * Z2 % pN * (Z1 * Z2 % pN) % pN + (pN - dN * (X1 * X2 % pN * (Y1 * Y2 % pN) % pN) % pN)) % pN
def raX (X1 Y1 Z1 X2 Y2 Z2 : Nat) : Nat := (X1 * Y2 % pN + Y1 * X2 % pN) % pN * (Z1 * Z2 % pN) % pN * raG X1 Y1 Z1 X2 Y2 Z2 % pN
def raY (X1 Y1 Z1 X2 Y2 Z2 : Nat) : Nat := (Y1 * Y2 % pN + X1 * X2 % pN) % pN * (Z1 * Z2 % pN) % pN * raF X1 Y1 Z1 X2 Y2 Z2 % pN
def raZ (X1 Y1 Z1 X2 Y2 Z2 : Nat) : Nat := raF X1 Y1 Z1 X2 Y2 Z2 * raG X1 Y1 Z1 X2 Y2 Z2 % pN
theorem ra_ok {X1 Y1 Z1 X2 Y2 Z2 : Nat} {P Q : Pt} (h : RRep X1 Y1 Z1 P) (h' : RRep X2 Y2 Z2 Q) : RRep (raX X1 Y1 Z1 X2 Y2 Z2) (raY X1 Y1 Z1 X2 Y2 Z2) (raZ X1 Y1 Z1 X2 Y2 Z2) (padd P Q) := by
  have hF : kk pN (raF X1 Y1 Z1 X2 Y2 Z2) = kk pN Z1 * kk pN Z2 * (kk pN Z1 * kk pN Z2) + dK * (P.x * kk pN Z1 * (Q.x * kk pN Z2) * (P.y * kk pN Z1 * (Q.y * kk pN Z2))) := by
    unfold raF dK
    rw [kk_mod, kk_add, kk_mod, kk_mod, kk_mul, kk_mul, kk_mod, kk_mod, kk_mul, kk_mul, kk_mod, kk_mod, kk_mul, kk_mul, h.ex, h.ey, h'.ex, h'.ey]
  have hG : kk pN (raG X1 Y1 Z1 X2 Y2 Z2) = kk pN Z1 * kk pN Z2 * (kk pN Z1 * kk pN Z2) - dK * (P.x * kk pN Z1 * (Q.x * kk pN Z2) * (P.y * kk pN Z1 * (Q.y * kk pN Z2))) := by
    unfold raG dK
    rw [kk_mod, kk_add, kk_neg (Nat.le_of_lt (Nat.mod_lt _ pos_pN)), kk_mod, kk_mod, kk_mul, kk_mul, kk_mod, kk_mod, kk_mul, kk_mul, kk_mod, kk_mod, kk_mul, kk_mul, h.ex, h.ey, h'.ex, h'.ey]
    exact (f_sub _ _).symm
  obtain ⟨k1, k2, k3, k4⟩ := radd (padd_x P Q) (padd_y P Q) (z1 := kk pN Z1) (z2 := kk pN Z2) rfl rfl rfl rfl rfl rfl rfl hF hG
  have f0 : kk pN (raF X1 Y1 Z1 X2 Y2 Z2) ≠ 0 := by rw [k3]; exact K_mul_ne (K_mul_ne (K_mul_ne h.nz h'.nz) (K_mul_ne h.nz h'.nz)) (den_add P Q)
  have g0 : kk pN (raG X1 Y1 Z1 X2 Y2 Z2) ≠ 0 := by rw [k4]; exact K_mul_ne (K_mul_ne (K_mul_ne h.nz h'.nz) (K_mul_ne h.nz h'.nz)) (den_sub P Q)
  have hZ : kk pN (raZ X1 Y1 Z1 X2 Y2 Z2) = kk pN (raF X1 Y1 Z1 X2 Y2 Z2) * kk pN (raG X1 Y1 Z1 X2 Y2 Z2) := by
    unfold raZ
    rw [kk_mod, kk_mul]
  refine ⟨Nat.mod_lt _ pos_pN, Nat.mod_lt _ pos_pN, Nat.mod_lt _ pos_pN, ?_, ?_, ?_⟩
  · rw [hZ]
    exact K_mul_ne f0 g0
  · rw [hZ]
    refine Eq.trans ?_ k1
    unfold raX
    rw [kk_mod, kk_mul, kk_mod, kk_mul, kk_mod, kk_mod, kk_add, kk_mod, kk_mod, kk_mul, kk_mul, kk_mul, h.ex, h.ey, h'.ex, h'.ey]
  · rw [hZ]
    refine Eq.trans ?_ k2
    unfold raY
    rw [kk_mod, kk_mul, kk_mod, kk_mul, kk_mod, kk_mod, kk_add, kk_mod, kk_mod, kk_mul, kk_mul, kk_mul, h.ex, h.ey, h'.ex, h'.ey]
/-- So many times, from the lowest bit on. -/
def rmul : Nat → Nat → Nat × Nat × Nat → Nat × Nat × Nat → Nat × Nat × Nat
  | 0, _, _, o => o
  | f + 1, n, p, o => rmul f (n / 2) (raX p.1 p.2.1 p.2.2 p.1 p.2.1 p.2.2, raY p.1 p.2.1 p.2.2 p.1 p.2.1 p.2.2, raZ p.1 p.2.1 p.2.2 p.1 p.2.1 p.2.2)
      (if n % 2 = 1 then (raX o.1 o.2.1 o.2.2 p.1 p.2.1 p.2.2, raY o.1 o.2.1 o.2.2 p.1 p.2.1 p.2.2, raZ o.1 o.2.1 o.2.2 p.1 p.2.1 p.2.2) else o)
theorem rmul_ok : ∀ (f n : Nat) (p o : Nat × Nat × Nat) (P Q : Pt), RRep p.1 p.2.1 p.2.2 P → RRep o.1 o.2.1 o.2.2 Q → n < 2 ^ f → RRep (rmul f n p o).1 (rmul f n p o).2.1 (rmul f n p o).2.2 (padd Q (smul n P))
  | 0, n, p, o, P, Q, hp, ho, hn => by
    have : n = 0 := by rw [Nat.pow_zero] at hn; omega
    subst this
    have e : padd Q (smul 0 P) = Q := padd_zero Q
    rw [e]
    exact ho
  | f + 1, n, p, o, P, Q, hp, ho, hn => by
    have hd := ra_ok hp hp
    have hn2 : n / 2 < 2 ^ f := by rw [Nat.pow_succ] at hn; omega
    have e2 : smul (n / 2) (padd P P) = smul (2 * (n / 2)) P := by
      have : padd P P = smul 2 P := by
        show padd P P = padd (smul 1 P) P
        rw [smul_one]
      rw [this, ← smul_mul]
    unfold rmul
    by_cases h1 : n % 2 = 1
    · rw [if_pos h1]
      have := rmul_ok f (n / 2) (raX p.1 p.2.1 p.2.2 p.1 p.2.1 p.2.2, raY p.1 p.2.1 p.2.2 p.1 p.2.1 p.2.2, raZ p.1 p.2.1 p.2.2 p.1 p.2.1 p.2.2) (raX o.1 o.2.1 o.2.2 p.1 p.2.1 p.2.2, raY o.1 o.2.1 o.2.2 p.1 p.2.1 p.2.2, raZ o.1 o.2.1 o.2.2 p.1 p.2.1 p.2.2) (padd P P) (padd Q P) hd (ra_ok ho hp) hn2
      have e : padd (padd Q P) (smul (n / 2) (padd P P)) = padd Q (smul n P) := by
        rw [e2, padd_assoc, padd_comm P, ← smul_succ]
        have : 2 * (n / 2) + 1 = n := by omega
        rw [this]
      rw [← e]
      exact this
    · rw [if_neg h1]
      have := rmul_ok f (n / 2) (raX p.1 p.2.1 p.2.2 p.1 p.2.1 p.2.2, raY p.1 p.2.1 p.2.2 p.1 p.2.1 p.2.2, raZ p.1 p.2.1 p.2.2 p.1 p.2.1 p.2.2) o (padd P P) Q hd ho hn2
      have e : 2 * (n / 2) = n := by omega
      rw [e2, e] at this
      exact this
def bX : Nat := 15112221349535400772501151409588531511454012693041857206046113283949847762202
def bY : Nat := 46316835694926478169428394003475163141307993866256225615783033603165251855960
theorem bX_lt : bX < pN := of_decide_eq_true (by kernel_rfl)
theorem bY_lt : bY < pN := of_decide_eq_true (by kernel_rfl)
/-- The base. -/
def baseP : Pt := ⟨kk pN bX, kk pN bY, on_of (Y := bY) (x := bX) (by kernel_rfl)⟩
theorem RRep_base : RRep bX bY 1 baseP := ⟨bX_lt, bY_lt, by decide, by rw [kk_one]; exact one_ne, by rw [kk_one]; exact (f_mul_one _).symm, by rw [kk_one]; exact (f_mul_one _).symm⟩
theorem RRep_zero : RRep 0 1 1 pzero := ⟨pos_pN, by decide, by decide, by rw [kk_one]; exact one_ne, by rw [kk_one, kk_zero]; exact (f_mul_one _).symm, by rw [kk_one]; exact (f_mul_one _).symm⟩
def ordN : Nat := 7237005577332262213973186563042994240857116359379907606001950938285454250989
theorem ord_run : rmul 253 ordN (bX, bY, 1) (0, 1, 1) = (0, 3233600088156918026318815990930732281525745574959576665983848188020301178520, 3233600088156918026318815990930732281525745574959576665983848188020301178520) := by kernel_rfl
/-- **The base's order.** -/
theorem ord_base : smul ordN baseP = pzero := by
  have h := rmul_ok 253 ordN (bX, bY, 1) (0, 1, 1) baseP pzero RRep_base RRep_zero (of_decide_eq_true (by kernel_rfl))
  rw [ord_run, zero_padd] at h
  have ex := h.ex
  have ey := h.ey
  rw [kk_zero] at ex
  refine Pt.same ?_ ?_
  · rcases K_euclid ex.symm with h1 | h1
    · exact h1
    · exact absurd h1 h.nz
  · refine K_cancel h.nz ?_
    exact ey.symm.trans (f_one_mul _).symm
end Go.Proofs.Ytmebjoehmheknaa
