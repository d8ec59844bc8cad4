/-
  Plain arithmetic: what the program's and the document's formulas for points reckon.
  No condition. No program in sight.
-/
import Derived.Test.YtmebjoehmheknaaGrp
namespace Go.Proofs.Ytmebjoehmheknaa
open Go.RowKit
set_option linter.unusedVariables false

section ring
variable {n : Nat} [NeZero n]
theorem xadd_x {x1 y1 x2 y2 z1 z2 d x3 : Fin n} (h : x3 * (1 + d * x1 * x2 * y1 * y2) = x1 * y2 + y1 * x2) {a b c f e g hh q : Fin n}
    (ha : a = (y1 * z1 - x1 * z1) * (y2 * z2 - x2 * z2)) (hb : b = (y1 * z1 + x1 * z1) * (y2 * z2 + x2 * z2)) (hc : c = x1 * y1 * z1 * (d + d) * (x2 * y2 * z2)) (hq : q = (z1 + z1) * z2) (he : e = b - a) (hf : f = q - c) (hg : g = q + c) (hh : hh = b + a) :
    e * f = x3 * (f * g) := by
  have h1 : e = 2 * z1 * z2 * (x1 * y2 + y1 * x2) := by rw [he, hb, ha]; clear h ha hb hc hq he hf hg hh; grobner
  have h2 : g = 2 * z1 * z2 * (1 + d * x1 * x2 * y1 * y2) := by rw [hg, hq, hc]; clear h ha hb hc hq he hf hg hh h1; grobner
  rw [h1, h2, ← h]
  clear h ha hb hc hq he hf hg hh h1 h2
  grobner
theorem xadd_y {x1 y1 x2 y2 z1 z2 d y3 : Fin n} (h : y3 * (1 - d * x1 * x2 * y1 * y2) = y1 * y2 + x1 * x2) {a b c f e g hh q : Fin n}
    (ha : a = (y1 * z1 - x1 * z1) * (y2 * z2 - x2 * z2)) (hb : b = (y1 * z1 + x1 * z1) * (y2 * z2 + x2 * z2)) (hc : c = x1 * y1 * z1 * (d + d) * (x2 * y2 * z2)) (hq : q = (z1 + z1) * z2) (he : e = b - a) (hf : f = q - c) (hg : g = q + c) (hh' : hh = b + a) :
    g * hh = y3 * (f * g) := by
  have h1 : hh = 2 * z1 * z2 * (y1 * y2 + x1 * x2) := by rw [hh', hb, ha]; clear h ha hb hc hq he hf hg hh'; grobner
  have h2 : f = 2 * z1 * z2 * (1 - d * x1 * x2 * y1 * y2) := by rw [hf, hq, hc]; clear h ha hb hc hq he hf hg hh' h1; grobner
  rw [h1, h2, ← h]
  clear h ha hb hc hq he hf hg hh' h1 h2
  grobner
theorem xadd_fg {x1 y1 x2 y2 z1 z2 d : Fin n} {c f g q : Fin n}
    (hc : c = x1 * y1 * z1 * (d + d) * (x2 * y2 * z2)) (hq : q = (z1 + z1) * z2) (hf : f = q - c) (hg : g = q + c) :
    f = 2 * z1 * z2 * (1 - d * x1 * x2 * y1 * y2) ∧ g = 2 * z1 * z2 * (1 + d * x1 * x2 * y1 * y2) := by
  constructor
  · rw [hf, hq, hc]; clear hc hq hf hg; grobner
  · rw [hg, hq, hc]; clear hc hq hf hg; grobner
theorem xdbl {x y z d x3 y3 : Fin n} (on : y * y - x * x = 1 + d * x * x * y * y) (h : x3 * (1 + d * x * x * y * y) = x * y + y * x) (h' : y3 * (1 - d * x * x * y * y) = y * y + x * x) {a b c f e g hh s : Fin n}
    (ha : a = x * z * (x * z)) (hb : b = y * z * (y * z)) (hc : c = z * z) (hh1 : hh = a + b) (hs : s = x * z + y * z) (he : e = hh - s * s) (hg : g = a - b) (hf : f = c + c + g) :
    e * f = x3 * (f * g) ∧ g * hh = y3 * (f * g) ∧ f = z * z * (1 - d * x * x * y * y) ∧ g = - (z * z * (1 + d * x * x * y * y)) := by
  have h1 : e = - (z * z * (x * y + y * x)) := by rw [he, hh1, hs, ha, hb]; clear on h h' ha hb hc hh1 hs he hg hf; grobner
  have h2 : hh = z * z * (y * y + x * x) := by rw [hh1, ha, hb]; clear on h h' ha hb hc hh1 hs he hg hf h1; grobner
  have h3 : g = - (z * z * (1 + d * x * x * y * y)) := by rw [hg, ha, hb, ← on]; clear on h h' ha hb hc hh1 hs he hg hf h1 h2; grobner
  have h4 : f = z * z * (1 - d * x * x * y * y) := by rw [hf, hc, h3]; clear on h h' ha hb hc hh1 hs he hg hf h1 h2 h3; grobner
  refine ⟨?_, ?_, h4, h3⟩
  · rw [h1, h3, ← h]
    clear on h h' ha hb hc hh1 hs he hg hf h1 h2 h3 h4
    grobner
  · rw [h2, h4, ← h']
    clear on h h' ha hb hc hh1 hs he hg hf h1 h2 h3 h4
    grobner
/-- The document's formulas. -/
theorem radd {x1 y1 x2 y2 z1 z2 d x3 y3 : Fin n} (h : x3 * (1 + d * x1 * x2 * y1 * y2) = x1 * y2 + y1 * x2) (h' : y3 * (1 - d * x1 * x2 * y1 * y2) = y1 * y2 + x1 * x2) {a b c f e g xx yy cc : Fin n}
    (ha : a = x1 * z1 * (y2 * z2) + y1 * z1 * (x2 * z2)) (hxx : xx = x1 * z1 * (x2 * z2)) (hyy : yy = y1 * z1 * (y2 * z2)) (hb : b = yy + xx) (hc : c = z1 * z2) (hcc : cc = c * c) (he : e = d * (xx * yy)) (hf : f = cc + e) (hg : g = cc - e) :
    a * c * g = x3 * (f * g) ∧ b * c * f = y3 * (f * g) ∧ f = z1 * z2 * (z1 * z2) * (1 + d * x1 * x2 * y1 * y2) ∧ g = z1 * z2 * (z1 * z2) * (1 - d * x1 * x2 * y1 * y2) := by
  have h1 : a = z1 * z2 * (x1 * y2 + y1 * x2) := by rw [ha]; clear h h' ha hxx hyy hb hc hcc he hf hg; grobner
  have h2 : b = z1 * z2 * (y1 * y2 + x1 * x2) := by rw [hb, hyy, hxx]; clear h h' ha hxx hyy hb hc hcc he hf hg h1; grobner
  have h3 : f = z1 * z2 * (z1 * z2) * (1 + d * x1 * x2 * y1 * y2) := by rw [hf, hcc, hc, he, hxx, hyy]; clear h h' ha hxx hyy hb hc hcc he hf hg h1 h2; grobner
  have h4 : g = z1 * z2 * (z1 * z2) * (1 - d * x1 * x2 * y1 * y2) := by rw [hg, hcc, hc, he, hxx, hyy]; clear h h' ha hxx hyy hb hc hcc he hf hg h1 h2 h3; grobner
  refine ⟨?_, ?_, h3, h4⟩
  · rw [h1, h3, ← h, hc]
    clear h h' ha hxx hyy hb hc hcc he hf hg h1 h2 h3 h4
    grobner
  · rw [h2, h4, ← h', hc]
    clear h h' ha hxx hyy hb hc hcc he hf hg h1 h2 h3 h4
    grobner
theorem f_sub (x y : Fin n) : x - y = x + -y := by grobner
theorem f_mul_one (x : Fin n) : x * 1 = x := by grobner
theorem f_one_mul (x : Fin n) : 1 * x = x := by grobner
end ring

theorem z2_ne {z1 z2 : Fin pN} (h1 : z1 ≠ 0) (h2 : z2 ≠ 0) : 2 * z1 * z2 ≠ 0 := K_mul_ne (K_mul_ne two_ne h1) h2
theorem K_neg_ne {z : Fin pN} (h : z ≠ 0) : - z ≠ 0 := fun h' => h (by grind)
instance : DecidableEq Pt := fun P Q => decidable_of_iff (P.x = Q.x ∧ P.y = Q.y) ⟨fun h => Pt.same h.1 h.2, fun h => by rw [h]; exact ⟨rfl, rfl⟩⟩

/-- A point's number. -/
def encN (P : Pt) : Nat := P.y.val + 57896044618658097711785492504343953926634992332820282019728792003956564819968 * (P.x.val % 2)
theorem encN_lt (P : Pt) : encN P < 115792089237316195423570985008687907853269984665640564039457584007913129639936 := by
  have h1 := P.y.isLt
  have h2 : pN < 57896044618658097711785492504343953926634992332820282019728792003956564819968 := by decide
  unfold encN
  omega
theorem encN_y (P : Pt) : encN P % 57896044618658097711785492504343953926634992332820282019728792003956564819968 = P.y.val := by
  have h1 := P.y.isLt
  have h2 : pN < 57896044618658097711785492504343953926634992332820282019728792003956564819968 := by decide
  unfold encN
  rw [Nat.add_mul_mod_self_left]
  exact Nat.mod_eq_of_lt (by omega)
theorem encN_x (P : Pt) : encN P / 57896044618658097711785492504343953926634992332820282019728792003956564819968 = P.x.val % 2 := by
  have h1 := P.y.isLt
  have h2 : pN < 57896044618658097711785492504343953926634992332820282019728792003956564819968 := by decide
  unfold encN
  rw [Nat.add_mul_div_left _ _ (by decide), Nat.div_eq_of_lt (by omega), Nat.zero_add]

/-! ### The point of a number -/
theorem f_one_of {n : Nat} [NeZero n] {d : Fin n} (h : d * (0 * 0) + 1 = 0) : (1 : Fin n) = 0 := by grobner
theorem den_y (y : Fin pN) : dK * (y * y) + 1 ≠ 0 := fun h => by
  have hy : y ≠ 0 := fun h0 => by rw [h0] at h; exact one_ne (f_one_of h)
  exact no_square (a := 1) hy (by grind)
/-- Numerator and denominator of x². -/
def uN (Y : Nat) : Nat := (Y * Y % pN + (pN - 1)) % pN
def vN (Y : Nat) : Nat := (Y * Y % pN * dN + 1) % pN
theorem kk_uN (Y : Nat) : kk pN (uN Y) = kk pN Y * kk pN Y - 1 := by
  unfold uN
  rw [kk_mod, kk_add, kk_mod, kk_mul, kk_neg (by decide), kk_one]
  grind
theorem kk_vN (Y : Nat) : kk pN (vN Y) = dK * (kk pN Y * kk pN Y) + 1 := by
  unfold vN dK
  rw [kk_mod, kk_add, kk_mul, kk_mod, kk_mul, kk_one]
  grind
theorem vN_ne (Y : Nat) : vN Y % pN ≠ 0 := fun h => den_y (kk pN Y) (by rw [← kk_vN]; exact kk_is_zero.2 h)

theorem rootN_sound {u v : Nat} (h : (rootN u v).2 = true) : v * (rootN u v).1 * (rootN u v).1 % pN = u % pN := by
  have ev : ∀ r, r < pN → kk pN (evenN r) * kk pN (evenN r) = kk pN r * kk pN r := fun r hr => by
    unfold evenN
    split
    · rw [kk_mod, kk_neg (Nat.le_of_lt hr)]
      grind
    · rfl
  revert h
  unfold rootN
  split
  · intro h; cases h
  · split
    · rename_i h1
      intro _
      rw [← h1]
      have := ev _ (rootR_lt u v)
      show v * evenN (rootR u v) * evenN (rootR u v) % pN = v * rootR u v * rootR u v % pN
      rw [← kk_iff, kk_mul, kk_mul, kk_mul, kk_mul]
      generalize kk pN (evenN (rootR u v)) = s at *
      generalize kk pN (rootR u v) = t at *
      grind
    · split
      · rename_i h1 h2
        intro _
        have := ev (rootR u v * unitN % pN) (Nat.mod_lt _ pos_pN)
        show v * evenN (rootR u v * unitN % pN) * evenN (rootR u v * unitN % pN) % pN = u % pN
        rw [kk_mod, kk_mul] at this
        rw [← kk_iff, kk_neg (Nat.le_of_lt (Nat.mod_lt _ pos_pN)), kk_mod, kk_mul, kk_mul] at h2
        rw [← kk_iff, kk_mul, kk_mul]
        have hJ := unit_sq
        generalize kk pN (evenN (rootR u v * unitN % pN)) = s at *
        generalize kk pN (rootR u v) = t at *
        generalize kk pN unitN = J at *
        grind
      · intro h; cases h
theorem evenN_even {r : Nat} (h : r < pN) : evenN r % 2 = 0 := by
  have hodd : pN % 2 = 1 := by decide
  unfold evenN
  split
  · rw [Nat.mod_eq_of_lt (show pN - r < pN by omega)]
    omega
  · omega
theorem rootN_even (u v : Nat) : (rootN u v).1 % 2 = 0 := by
  unfold rootN
  split
  · rfl
  · split
    · exact evenN_even (rootR_lt u v)
    · split
      · exact evenN_even (Nat.mod_lt _ pos_pN)
      · rfl
/-- The x of a number Y with a mark. -/
def xOf (Y odd : Nat) : Nat := if odd = 1 then (pN - (rootN (uN Y) (vN Y)).1) % pN else (rootN (uN Y) (vN Y)).1
/-- Is there such a point? -/
def isPt (V : Nat) : Prop := V % 57896044618658097711785492504343953926634992332820282019728792003956564819968 < pN ∧ (rootN (uN (V % 57896044618658097711785492504343953926634992332820282019728792003956564819968)) (vN (V % 57896044618658097711785492504343953926634992332820282019728792003956564819968))).2 = true ∧
  ¬ (V / 57896044618658097711785492504343953926634992332820282019728792003956564819968 = 1 ∧ (rootN (uN (V % 57896044618658097711785492504343953926634992332820282019728792003956564819968)) (vN (V % 57896044618658097711785492504343953926634992332820282019728792003956564819968))).1 = 0)
theorem on_of {Y x : Nat} (h : vN Y * x * x % pN = uN Y % pN) : kk pN Y * kk pN Y - kk pN x * kk pN x = 1 + dK * kk pN x * kk pN x * kk pN Y * kk pN Y := by
  rw [← kk_iff, kk_mul, kk_mul, kk_uN, kk_vN] at h
  generalize kk pN Y = y at *
  generalize kk pN x = X at *
  grind
theorem of_on (P : Pt) : vN P.y.val * P.x.val * P.x.val % pN = uN P.y.val % pN := by
  rw [← kk_iff, kk_mul, kk_mul, kk_uN, kk_vN, ← kk_all P.y, ← kk_all P.x]
  have := P.on
  grind
theorem xOf_lt (Y odd : Nat) : xOf Y odd < pN := by
  unfold xOf
  split
  · exact Nat.mod_lt _ pos_pN
  · exact rootN_lt _ _
theorem kk_val {a : Nat} (h : a < pN) : (kk pN a).val = a := Nat.mod_eq_of_lt h
/-- **Of a number that tells a point.** -/
theorem pt_of {V : Nat} (hV : V < 115792089237316195423570985008687907853269984665640564039457584007913129639936) (h : isPt V) :
    ∃ P : Pt, encN P = V ∧ P.y.val = V % 57896044618658097711785492504343953926634992332820282019728792003956564819968 ∧ P.x.val = xOf (V % 57896044618658097711785492504343953926634992332820282019728792003956564819968) (V / 57896044618658097711785492504343953926634992332820282019728792003956564819968) := by
  obtain ⟨h1, h2, h3⟩ := h
  have hd := Nat.div_add_mod V 57896044618658097711785492504343953926634992332820282019728792003956564819968
  have ho : V / 57896044618658097711785492504343953926634992332820282019728792003956564819968 < 2 := by omega
  obtain ⟨Y, hY⟩ : ∃ Y, V % 57896044618658097711785492504343953926634992332820282019728792003956564819968 = Y := ⟨_, rfl⟩
  obtain ⟨o, hO⟩ : ∃ o, V / 57896044618658097711785492504343953926634992332820282019728792003956564819968 = o := ⟨_, rfl⟩
  rw [hY] at h1 h2 h3 hd ⊢
  rw [hO] at h3 ho hd ⊢
  have hs := rootN_sound h2
  have he := rootN_even (uN Y) (vN Y)
  have hl := rootN_lt (uN Y) (vN Y)
  have hx : vN Y * xOf Y o * xOf Y o % pN = uN Y % pN := by
    rw [← hs, ← kk_iff, kk_mul, kk_mul, kk_mul, kk_mul]
    unfold xOf
    split
    · rw [kk_mod, kk_neg (Nat.le_of_lt hl)]
      grind
    · rfl
  have hxl := xOf_lt Y o
  have hpar : xOf Y o % 2 = o := by
    have hodd : pN % 2 = 1 := by decide
    unfold xOf
    split
    · rename_i h5
      have hr0 : (rootN (uN Y) (vN Y)).1 ≠ 0 := fun h => h3 ⟨h5, h⟩
      rw [Nat.mod_eq_of_lt (show pN - (rootN (uN Y) (vN Y)).1 < pN by omega)]
      omega
    · omega
  refine ⟨⟨kk pN (xOf Y o), kk pN Y, on_of hx⟩, ?_, kk_val h1, kk_val hxl⟩
  show (kk pN Y).val + 57896044618658097711785492504343953926634992332820282019728792003956564819968 * ((kk pN (xOf Y o)).val % 2) = V
  rw [kk_val h1, kk_val hxl, hpar]
  omega
/-- **Of a number that some point has.** -/
theorem of_pt (P : Pt) : isPt (encN P) := by
  have h := of_on P
  have hr := rootN_of (vN_ne P.y.val) h
  unfold isPt
  rw [encN_y, encN_x, hr]
  have hl := P.x.isLt
  refine ⟨P.y.isLt, rfl, fun ⟨h1, h2⟩ => ?_⟩
  have h2' : evenN (P.x.val % pN) = 0 := h2
  rw [Nat.mod_eq_of_lt hl] at h2'
  unfold evenN at h2'
  rw [if_pos h1, Nat.mod_eq_of_lt (show pN - P.x.val < pN by omega)] at h2'
  omega
theorem encN_inj {P Q : Pt} (h : encN P = encN Q) : P = Q := by
  have hy : P.y.val = Q.y.val := by rw [← encN_y, h, encN_y]
  have hx : P.x.val % 2 = Q.x.val % 2 := by rw [← encN_x, h, encN_x]
  have hP := rootN_of (vN_ne P.y.val) (of_on P)
  have hQ := rootN_of (vN_ne Q.y.val) (of_on Q)
  rw [hy] at hP
  rw [hP] at hQ
  have he : evenN (P.x.val % pN) = evenN (Q.x.val % pN) := congrArg Prod.fst hQ
  have lP := P.x.isLt
  have lQ := Q.x.isLt
  rw [Nat.mod_eq_of_lt lP, Nat.mod_eq_of_lt lQ] at he
  have hodd : pN % 2 = 1 := by decide
  refine Pt.same (Fin.ext ?_) (Fin.ext hy)
  unfold evenN at he
  rw [← hx] at he
  split at he
  · rw [Nat.mod_eq_of_lt (show pN - P.x.val < pN by omega), Nat.mod_eq_of_lt (show pN - Q.x.val < pN by omega)] at he
    omega
  · exact he
end Go.Proofs.Ytmebjoehmheknaa
