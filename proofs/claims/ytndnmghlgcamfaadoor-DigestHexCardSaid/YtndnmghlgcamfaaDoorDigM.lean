/-
  Layer 3, plain: words turned, the schedule, the rounds, a block; for words of w bits.
  No condition. No program in sight.
-/
import Derived.Test.YtndnmghlgcamfaaDoorNum
namespace Go.Proofs.YtndnmghlgcamfaaDoor
set_option maxRecDepth 100000
set_option linter.unusedVariables false

/-- A word of w bits, turned right by n. -/
def rr (w n x : Nat) : Nat := x * 2 ^ (w - n) % 2 ^ w ||| x / 2 ^ n
theorem rr_lt {w n x : Nat} (hx : x < 2 ^ w) : rr w n x < 2 ^ w := Nat.or_lt_two_pow (Nat.mod_lt _ (Nat.pow_pos (by decide))) (Nat.lt_of_le_of_lt (Nat.div_le_self _ _) hx)
/-- What tells one of the two sums from the other. -/
structure Kd where
  w : Nat
  first : List Nat
  rounds : List Nat
  s0 : Nat × Nat × Nat
  s1 : Nat × Nat × Nat
  t0 : Nat × Nat × Nat
  t1 : Nat × Nat × Nat
def bigS (w : Nat) (t : Nat × Nat × Nat) (x : Nat) : Nat := rr w t.1 x ^^^ rr w t.2.1 x ^^^ rr w t.2.2 x
def smallS (w : Nat) (t : Nat × Nat × Nat) (x : Nat) : Nat := rr w t.1 x ^^^ rr w t.2.1 x ^^^ x / 2 ^ t.2.2
def chS (w e f g : Nat) : Nat := e &&& f ^^^ (2 ^ w - 1 - e) &&& g
def majS (a b c : Nat) : Nat := a &&& b ^^^ a &&& c ^^^ b &&& c
theorem bigS_lt {w : Nat} {t : Nat × Nat × Nat} {x : Nat} (hx : x < 2 ^ w) : bigS w t x < 2 ^ w := Nat.xor_lt_two_pow (Nat.xor_lt_two_pow (rr_lt hx) (rr_lt hx)) (rr_lt hx)
theorem smallS_lt {w : Nat} {t : Nat × Nat × Nat} {x : Nat} (hx : x < 2 ^ w) : smallS w t x < 2 ^ w := Nat.xor_lt_two_pow (Nat.xor_lt_two_pow (rr_lt hx) (rr_lt hx)) (Nat.lt_of_le_of_lt (Nat.div_le_self _ _) hx)
theorem chS_lt {w e f g : Nat} (he : e < 2 ^ w) (hg : g < 2 ^ w) : chS w e f g < 2 ^ w := Nat.xor_lt_two_pow (Nat.lt_of_le_of_lt Nat.and_le_left he) (Nat.lt_of_le_of_lt Nat.and_le_right hg)
theorem majS_lt {w a b c : Nat} (ha : a < 2 ^ w) (hb : b < 2 ^ w) : majS a b c < 2 ^ w := Nat.xor_lt_two_pow (Nat.xor_lt_two_pow (Nat.lt_of_le_of_lt Nat.and_le_left ha) (Nat.lt_of_le_of_lt Nat.and_le_left ha)) (Nat.lt_of_le_of_lt Nat.and_le_left hb)

/-- A number of bytes, the highest one first. -/
def beN (l : List Nat) : Nat := val 256 l.reverse
/-- The word i of a block. -/
def wordAt (w : Nat) (m : List Nat) (i : Nat) : Nat := beN ((m.drop (i * (w / 8))).take (w / 8))
/-- The next word of the schedule. -/
def nextW (k : Kd) (m : List Nat) (l : List Nat) : Nat :=
  if l.length < 16 then wordAt k.w m l.length
  else (smallS k.w k.t1 (l.getD (l.length - 2) 0) + l.getD (l.length - 7) 0 + smallS k.w k.t0 (l.getD (l.length - 15) 0) + l.getD (l.length - 16) 0) % 2 ^ k.w
def sched (k : Kd) (m : List Nat) : Nat → List Nat
  | 0 => []
  | n + 1 => sched k m n ++ [nextW k m (sched k m n)]
theorem sched_len (k : Kd) (m : List Nat) : ∀ n, (sched k m n).length = n
  | 0 => rfl
  | n + 1 => by rw [sched, List.length_append, sched_len k m n]; rfl
/-- A round. -/
def roundS (k : Kd) (v : List Nat) (c x : Nat) : List Nat :=
  let t := (v.getD 7 0 + bigS k.w k.s1 (v.getD 4 0) + chS k.w (v.getD 4 0) (v.getD 5 0) (v.getD 6 0) + c + x) % 2 ^ k.w
  let u := (bigS k.w k.s0 (v.getD 0 0) + majS (v.getD 0 0) (v.getD 1 0) (v.getD 2 0)) % 2 ^ k.w
  [(t + u) % 2 ^ k.w, v.getD 0 0, v.getD 1 0, v.getD 2 0, (v.getD 3 0 + t) % 2 ^ k.w, v.getD 4 0, v.getD 5 0, v.getD 6 0]
def roundsS (k : Kd) (h m : List Nat) : Nat → List Nat
  | 0 => h
  | n + 1 => roundS k (roundsS k h m n) (k.rounds.getD n 0) ((sched k m k.rounds.length).getD n 0)
/-- A state behind a block. -/
def blockS (k : Kd) (h m : List Nat) : List Nat := (List.range 8).map fun i => (h.getD i 0 + (roundsS k h m k.rounds.length).getD i 0) % 2 ^ k.w
theorem blockS_len (k : Kd) (h m : List Nat) : (blockS k h m).length = 8 := by unfold blockS; simp
/-- A state behind blocks. -/
def blocksS (k : Kd) (h : List Nat) : List (List Nat) → List Nat
  | [] => h
  | m :: r => blocksS k (blockS k h m) r
end Go.Proofs.YtndnmghlgcamfaaDoor
