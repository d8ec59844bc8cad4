/-
  Layer 3: a block mixed into a state (SHA-256).
-/
import Derived.Test.YtndnmghlgcamfaaDoorDigB
import Derived.Test.YtndnmghlgcamfaaDoorSli
namespace Go.Proofs.YtndnmghlgcamfaaDoor
open Go.RowKit
set_option maxRecDepth 100000
set_option linter.unusedVariables false
set_option linter.unusedSimpArgs false

theorem sched_getD {k : Kd} {m : List Nat} {n j : Nat} (h : j < n) (r : List Nat) : (sched k m n ++ r).getD j 0 = (sched k m n).getD j 0 := by
  rw [List.getD_eq_getElem?_getD, List.getD_eq_getElem?_getD, List.getElem?_append_left (by rw [sched_len]; exact h)]
/-- The schedule's array when n words of it are written. -/
def schedAt (k : Kd) (m : List Nat) (N n : Nat) : List Nat := sched k m n ++ List.replicate (N - n) 0
theorem schedAt_len (k : Kd) (m : List Nat) {N n : Nat} (h : n ≤ N) : (schedAt k m N n).length = N := by
  unfold schedAt
  rw [List.length_append, sched_len, List.length_replicate]
  omega
theorem schedAt_set {k : Kd} {m : List Nat} {N n : Nat} (h : n < N) : (schedAt k m N n).set n (nextW k m (sched k m n)) = schedAt k m N (n + 1) := by
  unfold schedAt
  rw [List.set_append_right _ _ (by rw [sched_len]; exact Nat.le_refl _), sched_len, Nat.sub_self, show N - n = (N - (n + 1)) + 1 by omega, List.replicate_succ, List.set_cons_zero, sched, List.append_assoc]
  rfl
theorem schedAt_get {k : Kd} {m : List Nat} {N n j : Nat} (h : j < n) : (schedAt k m N n).getD j 0 = (sched k m n).getD j 0 := sched_getD h _
theorem schedAt_full (k : Kd) (m : List Nat) (N : Nat) : schedAt k m N N = sched k m N := by
  unfold schedAt
  simp
theorem sched_stable (k : Kd) (m : List Nat) {j n : Nat} (h : j < n) : (sched k m n).getD j 0 = nextW k m (sched k m j) := by
  induction n with
  | zero => omega
  | succ n ih =>
    by_cases hj : j < n
    · rw [sched, sched_getD hj, ih hj]
    · obtain rfl : j = n := by omega
      rw [sched, List.getD_eq_getElem?_getD, List.getElem?_append_right (by rw [sched_len]; exact Nat.le_refl _), sched_len, Nat.sub_self]
      rfl
theorem wordAt_lt {w : Nat} {m : List Nat} (hm : Digs 256 m) (i : Nat) : wordAt w m i < 256 ^ (w / 8) :=
  Nat.lt_of_lt_of_le (beN_lt ((hm.drop _).take _)) (Nat.pow_le_pow_right (by decide) (List.length_take_le _ _))
theorem nextW_lt {k : Kd} {m : List Nat} (hm : Digs 256 m) (hw : 256 ^ (k.w / 8) = 2 ^ k.w) (l : List Nat) : nextW k m l < 2 ^ k.w := by
  unfold nextW
  split
  · rw [← hw]
    exact wordAt_lt hm _
  · exact Nat.mod_lt _ (Nat.pow_pos (by decide))
theorem sched_lt {k : Kd} {m : List Nat} (hm : Digs 256 m) (hw : 256 ^ (k.w / 8) = 2 ^ k.w) (n j : Nat) : (sched k m n).getD j 0 < 2 ^ k.w := by
  by_cases h : j < n
  · rw [sched_stable k m h]
    exact nextW_lt hm hw _
  · rw [List.getD_eq_getElem?_getD, List.getElem?_eq_none (by rw [sched_len]; omega)]
    exact Nat.pow_pos (by decide)
theorem roundS_len (k : Kd) (v : List Nat) (c x : Nat) : (roundS k v c x).length = 8 := rfl
theorem roundsS_len {k : Kd} {h : List Nat} (hh : h.length = 8) (m : List Nat) : ∀ n, (roundsS k h m n).length = 8
  | 0 => hh
  | n + 1 => rfl
theorem roundS_lt {k : Kd} {v : List Nat} (hv : ∀ j, v.getD j 0 < 2 ^ k.w) (c x : Nat) (j : Nat) : (roundS k v c x).getD j 0 < 2 ^ k.w := by
  have h0 : 0 < 2 ^ k.w := Nat.pow_pos (by decide)
  unfold roundS
  match j with
  | 0 => exact Nat.mod_lt _ h0
  | 1 => exact hv 0
  | 2 => exact hv 1
  | 3 => exact hv 2
  | 4 => exact Nat.mod_lt _ h0
  | 5 => exact hv 4
  | 6 => exact hv 5
  | 7 => exact hv 6
  | j + 8 => exact h0
theorem roundsS_lt {k : Kd} {h : List Nat} (hv : ∀ j, h.getD j 0 < 2 ^ k.w) (m : List Nat) : ∀ n j, (roundsS k h m n).getD j 0 < 2 ^ k.w
  | 0 => hv
  | n + 1 => roundS_lt (roundsS_lt hv m n) _ _
theorem blockS_lt (k : Kd) (h m : List Nat) (j : Nat) : (blockS k h m).getD j 0 < 2 ^ k.w := by
  unfold blockS
  rw [List.getD_eq_getElem?_getD, List.getElem?_map]
  by_cases hj : j < 8
  · rw [List.getElem?_range hj]
    exact Nat.mod_lt _ (Nat.pow_pos (by decide))
  · rw [List.getElem?_eq_none (by simp; omega)]
    exact Nat.pow_pos (by decide)

/-- The smaller of the two sums. -/
def k256 : Kd := ⟨32, [1779033703, 3144134277, 1013904242, 2773480762, 1359893119, 2600822924, 528734635, 1541459225], [1116352408, 1899447441, 3049323471, 3921009573, 961987163, 1508970993, 2453635748, 2870763221, 3624381080, 310598401, 607225278, 1426881987, 1925078388, 2162078206, 2614888103, 3248222580, 3835390401, 4022224774, 264347078, 604807628, 770255983, 1249150122, 1555081692, 1996064986, 2554220882, 2821834349, 2952996808, 3210313671, 3336571891, 3584528711, 113926993, 338241895, 666307205, 773529912, 1294757372, 1396182291, 1695183700, 1986661051, 2177026350, 2456956037, 2730485921, 2820302411, 3259730800, 3345764771, 3516065817, 3600352804, 4094571909, 275423344, 430227734, 506948616, 659060556, 883997877, 958139571, 1322822218, 1537002063, 1747873779, 1955562222, 2024104815, 2227730452, 2361852424, 2428436474, 2756734187, 3204031479, 3329325298], (2, 13, 22), (6, 11, 25), (7, 18, 3), (17, 19, 10)⟩
theorem k256_len : k256.rounds.length = 64 := by decide
theorem k256_lt : ∀ j, k256.rounds.getD j 0 < 4294967296 := fun j => by
  by_cases h : j < 64
  · have : ∀ j : Fin 64, k256.rounds.getD j.val 0 < 4294967296 := by decide
    exact this ⟨j, h⟩
  · rw [List.getD_eq_getElem?_getD, List.getElem?_eq_none (by rw [k256_len]; omega)]
    decide

/-- The greater of the two sums. -/
def k512 : Kd := ⟨64, [7640891576956012808, 13503953896175478587, 4354685564936845355, 11912009170470909681, 5840696475078001361, 11170449401992604703, 2270897969802886507, 6620516959819538809], [4794697086780616226, 8158064640168781261, 13096744586834688815, 16840607885511220156, 4131703408338449720, 6480981068601479193, 10538285296894168987, 12329834152419229976, 15566598209576043074, 1334009975649890238, 2608012711638119052, 6128411473006802146, 8268148722764581231, 9286055187155687089, 11230858885718282805, 13951009754708518548, 16472876342353939154, 17275323862435702243, 1135362057144423861, 2597628984639134821, 3308224258029322869, 5365058923640841347, 6679025012923562964, 8573033837759648693, 10970295158949994411, 12119686244451234320, 12683024718118986047, 13788192230050041572, 14330467153632333762, 15395433587784984357, 489312712824947311, 1452737877330783856, 2861767655752347644, 3322285676063803686, 5560940570517711597, 5996557281743188959, 7280758554555802590, 8532644243296465576, 9350256976987008742, 10552545826968843579, 11727347734174303076, 12113106623233404929, 14000437183269869457, 14369950271660146224, 15101387698204529176, 15463397548674623760, 17586052441742319658, 1182934255886127544, 1847814050463011016, 2177327727835720531, 2830643537854262169, 3796741975233480872, 4115178125766777443, 5681478168544905931, 6601373596472566643, 7507060721942968483, 8399075790359081724, 8693463985226723168, 9568029438360202098, 10144078919501101548, 10430055236837252648, 11840083180663258601, 13761210420658862357, 14299343276471374635, 14566680578165727644, 15097957966210449927, 16922976911328602910, 17689382322260857208, 500013540394364858, 748580250866718886, 1242879168328830382, 1977374033974150939, 2944078676154940804, 3659926193048069267, 4368137639120453308, 4836135668995329356, 5532061633213252278, 6448918945643986474, 6902733635092675308, 7801388544844847127], (28, 34, 39), (14, 18, 41), (1, 8, 7), (19, 61, 6)⟩
theorem k512_len : k512.rounds.length = 80 := by decide
theorem k512_lt : ∀ j, k512.rounds.getD j 0 < 18446744073709551616 := fun j => by
  by_cases h : j < 80
  · have : ∀ j : Fin 80, k512.rounds.getD j.val 0 < 18446744073709551616 := by decide
    exact this ⟨j, h⟩
  · rw [List.getD_eq_getElem?_getD, List.getElem?_eq_none (by rw [k512_len]; omega)]
    decide

/-- The state of which n words are mixed. -/
def mixAt (B h : List Nat) (n : Nat) : List Nat := B.take n ++ h.drop n
theorem mixAt_len {B h : List Nat} (hB : B.length = 8) (hh : h.length = 8) {n : Nat} (hn : n ≤ 8) : (mixAt B h n).length = 8 := by
  unfold mixAt
  rw [List.length_append, List.length_take, List.length_drop]
  omega
theorem mixAt_get {B h : List Nat} (hB : B.length = 8) {n : Nat} (hn : n < 8) : (mixAt B h n).getD n 0 = h.getD n 0 := by
  unfold mixAt
  rw [List.getD_eq_getElem?_getD, List.getElem?_append_right (by rw [List.length_take]; omega), List.length_take, List.getElem?_drop, List.getD_eq_getElem?_getD]
  congr 2
  omega
theorem mixAt_set {B h : List Nat} (hB : B.length = 8) (hh : h.length = 8) {n : Nat} (hn : n < 8) : (mixAt B h n).set n (B.getD n 0) = mixAt B h (n + 1) := by
  unfold mixAt
  have h1 : (B.take n).length = n := by rw [List.length_take]; omega
  rw [List.set_append_right _ _ (by omega), h1, Nat.sub_self, List.drop_eq_getElem_cons (by omega), List.set_cons_zero, List.take_succ_eq_append_getElem (by omega), List.append_assoc, List.getD_eq_getElem?_getD, List.getElem?_eq_getElem (by omega)]
  rfl
theorem blockS_get (k : Kd) (h m : List Nat) {n : Nat} (hn : n < 8) : (blockS k h m).getD n 0 = (h.getD n 0 + (roundsS k h m k.rounds.length).getD n 0) % 2 ^ k.w := by
  unfold blockS
  rw [List.getD_eq_getElem?_getD, List.getElem?_map, List.getElem?_range hn]
  rfl

/-- What is to be known of the schedule and the rounds: SC n is the schedule's array of which n words are written, R n the state behind n rounds. -/
structure MixF (k : Kd) (h m : List Nat) (N M : Nat) (SC R : Nat → List Nat) : Prop where
  s0 : SC 0 = List.replicate N 0
  sl : ∀ K, K ≤ N → (SC K).length = N
  sa : ∀ K, K < N → K < 16 → (SC K).set K (wordAt k.w m K) = SC (K + 1)
  sb : ∀ K, K < N → 16 ≤ K → (SC K).set K ((smallS k.w k.t1 ((SC K).getD (K - 2) 0) + (SC K).getD (K - 7) 0 + smallS k.w k.t0 ((SC K).getD (K - 15) 0) + (SC K).getD (K - 16) 0) % M) = SC (K + 1)
  sc : ∀ K j, (SC K).getD j 0 < M
  r0 : R 0 = h
  rl : ∀ n, (R n).length = 8
  rn : ∀ n, R (n + 1) = roundS k (R n) (k.rounds.getD n 0) ((SC N).getD n 0)
  rb : ∀ n j, (R n).getD j 0 < M
  bl : ∀ n, n < 8 → (blockS k h m).getD n 0 = (h.getD n 0 + (R N).getD n 0) % M
theorem mixF {k : Kd} {h m : List Nat} (hw : 256 ^ (k.w / 8) = 2 ^ k.w) (hm : Digs 256 m) (hh : h.length = 8) (hv : ∀ j, h.getD j 0 < 2 ^ k.w) : MixF k h m k.rounds.length (2 ^ k.w) (schedAt k m k.rounds.length) (roundsS k h m) where
  s0 := rfl
  sl K hK := schedAt_len k m hK
  sa K hK h16 := by
    have h1 := schedAt_set (k := k) (m := m) hK
    have h2 : nextW k m (sched k m K) = wordAt k.w m K := by
      unfold nextW
      rw [sched_len, if_pos h16]
    rwa [h2] at h1
  sb K hK h16 := by
    have h1 := schedAt_set (k := k) (m := m) hK
    have h2 : nextW k m (sched k m K) = (smallS k.w k.t1 ((sched k m K).getD (K - 2) 0) + (sched k m K).getD (K - 7) 0 + smallS k.w k.t0 ((sched k m K).getD (K - 15) 0) + (sched k m K).getD (K - 16) 0) % 2 ^ k.w := by
      unfold nextW
      rw [sched_len, if_neg (by omega)]
    rw [schedAt_get (by omega), schedAt_get (by omega), schedAt_get (by omega), schedAt_get (by omega), ← h2]
    exact h1
  sc K j := by
    by_cases h : j < K
    · rw [schedAt_get h]
      exact sched_lt hm hw K j
    · unfold schedAt
      rw [List.getD_eq_getElem?_getD, List.getElem?_append_right (by rw [sched_len]; omega), List.getElem?_replicate]
      split <;> exact Nat.pow_pos (by decide)
  r0 := rfl
  rl n := roundsS_len hh m n
  rn n := by
    rw [schedAt_full]
    rfl
  rb n j := roundsS_lt hv m n j
  bl n hn := blockS_get k h m hn
theorem sum4 (a b c d M : Nat) : (((a + b) % M + c) % M + d) % M = (d + c + b + a) % M := by
  simp only [Nat.mod_add_mod]
  congr 1
  omega
end Go.Proofs.YtndnmghlgcamfaaDoor
