/-
  Layer 3, plain: the state's words as bytes, one behind the other; what stood there before; blocks in another order.
  Layer 3: words of 64 bits turned.
  Layer 3: a block mixed into a state (SHA-512), the walk.
-/
import Derived.Test.YthddoelflmoedaaJ03
import Derived.Test.YthddoelflmoedaaJ15
import Derived.Test.YthddoelflmoedaaJ21
import Derived.Test.YthddoelflmoedaaJ29
namespace Go.Proofs.Ythddoelflmoedaa
open Go.RowKit
set_option maxRecDepth 100000
set_option linter.unusedVariables false
set_option linter.unusedSimpArgs false

theorem nats_ints (k : IntKind) (l : List Nat) : (nats k l).toArray = ints k l := by unfold nats; rw [Array.toArray_toList]
/-- The bytes of the first n words, and zeros behind them. -/
def outAt (k : Nat) (L : List Nat) (n : Nat) : List Nat := outL k (L.take n) ++ List.replicate ((L.length - n) * k) 0
theorem outL_snoc (k : Nat) (L : List Nat) (x : Nat) : outL k (L ++ [x]) = outL k L ++ beD k x := by
  unfold outL
  simp
theorem outAt_len {k : Nat} {L : List Nat} {n : Nat} (h : n ≤ L.length) : (outAt k L n).length = L.length * k := by
  unfold outAt
  rw [List.length_append, outL_len, List.length_replicate, List.length_take, Nat.min_eq_left h, ← Nat.add_mul]
  congr 1
  omega
theorem outAt_put {k : Nat} {L : List Nat} {n : Nat} (h : n < L.length) : putAt (outAt k L n) (k * n) k (L.getD n 0) 0 = outAt k L (n + 1) := by
  unfold putAt outAt
  have h1 : (outL k (L.take n)).length = k * n := by rw [outL_len, List.length_take, Nat.min_eq_left (Nat.le_of_lt h), Nat.mul_comm]
  rw [Nat.add_zero, List.drop_zero, List.take_left' h1, ← h1, List.drop_length_add_append, List.drop_replicate, List.take_succ_eq_append_getElem h, outL_snoc, List.getD_eq_getElem?_getD, List.getElem?_eq_getElem h]
  congr 2
  rw [show L.length - n = (L.length - (n + 1)) + 1 by omega, Nat.add_mul, Nat.one_mul, Nat.add_sub_cancel]
theorem outAt_zero (k : Nat) (L : List Nat) : outAt k L 0 = List.replicate (L.length * k) 0 := by
  unfold outAt outL
  simp
theorem outAt_full (k : Nat) (L : List Nat) : outAt k L L.length = outL k L := by
  unfold outAt
  simp
section
variable {P : Program} {a : Act} {w w0 : World} {l : List Blk} {o : Oper} {v : Value}
/-- What stood there before. -/
theorem v_cellW {ty : TypeId} {x : Operand} {g j : Nat} {T : TypeId} {cs : List Value} {d : TypeDesc} {fr : Nat × Nat} (hg : w0.heap[g]? = some (.cells cs.toArray T fr)) (hc : cs[j]? = some v) (hE : Env w0 l w) (ho : o.op = .load ty x) (hx : a.eval x = .pointer (some ⟨g, j, none⟩)) (hu : P.underlying ty = some d) (hd : (match d with | .struct _ | .array _ _ => false | _ => true) = true) : Val P o a v w :=
  v_cell ho hx hu hd (fun w1 hb => by
    rw [cell_of_row w1 g j _ _ _ (((hE.below.trans (hb.mono hE.below.size)).block g (Array.getElem?_eq_some_iff.1 hg).1).trans hg), List.getElem?_toArray]
    exact hc)
theorem v_loadW {ty : TypeId} {x : Operand} {g k n : Nat} {T : TypeId} {X Y : List Value} {d : TypeDesc} {fr : Nat × Nat} (hg : w0.heap[g]? = some (.cells X.toArray T fr)) (he : (X.drop k).take n = Y) (hE : Env w0 l w) (ho : o.op = .load ty x) (hx : a.eval x = .pointer (some ⟨g, k, none⟩))
    (hu : P.underlying ty = some d) (hd : d.isRow = true) (hs : (P.info? ty).map (·.size) = some n) (hn : k + n ≤ X.length) : Val P o a (.agg Y.toArray) w :=
  v_loadMid ho hx (fun w1 hb => by
    have h := World.rangeAt_of_block (((hE.below.trans (hb.mono hE.below.size)).block g (Array.getElem?_eq_some_iff.1 hg).1).trans hg) k n
    have e : (X.toArray.extract k (k + n)).toList = Y.toArray.toList := by
      rw [← he]
      simp
    rwa [e] at h) hu hd (sz_of hs (by
      rw [← he]
      simp
      omega))
theorem Env.swp {b : Blk} {bs cs : List Blk} (h : Env w0 (cs ++ b :: (bs ++ l)) w) : Env w0 (b :: (bs ++ (cs ++ l))) w :=
  (Env.mid.1 h).perm (List.Perm.cons _ (List.perm_append_comm_assoc _ _ _))
theorem Env.lift1 {b : Blk} {w' : World} (hE : Env w0 l w) (h : Env w [b] w') : Env w0 (b :: l) w' :=
  (hE.call h.below).add (h.holds _ (List.mem_singleton_self _)) (Nat.le_trans hE.below.size (h.new _ (List.mem_singleton_self _))) fun b' hm => Nat.ne_of_gt (Nat.lt_of_lt_of_le (hE.lt hm) (h.new _ (List.mem_singleton_self _)))
end
theorem restL_nil (B : Nat) : restL B [] = [] := by unfold restL; simp

theorem Ow.lenN {e : TypeId} {k : IntKind} {l : List Nat} {v : Value} {bs : List Blk} (h : Ow e (nats k l) v bs) : ∃ p c, v = .slice p l.length c ∧ l.length ≤ c := by
  obtain ⟨p, c, h1, h2⟩ := h.len
  rw [nats_len] at h1 h2
  exact ⟨p, c, h1, h2⟩
theorem flat_take {rows : List (List Nat)} {j : Nat} (h : j < rows.length) : (rows.take j).flatten ++ rows[j] = (rows.take (j + 1)).flatten := by
  rw [List.take_succ_eq_append_getElem h, List.flatten_append]
  simp
theorem flat_le (rows : List (List Nat)) (j : Nat) : (rows.take j).flatten.length ≤ rows.flatten.length := by
  have h : (rows.take j).flatten ++ (rows.drop j).flatten = rows.flatten := by rw [← List.flatten_append, List.take_append_drop]
  rw [← h, List.length_append]
  omega
theorem flat_Digs {B : Nat} {rows : List (List Nat)} (h : ∀ r ∈ rows, Digs B r) : Digs B rows.flatten := fun x hx => by
  obtain ⟨r, hr, hx⟩ := List.mem_flatten.1 hx
  exact h r hr x hx
theorem flat_take_Digs {B : Nat} {rows : List (List Nat)} (h : ∀ r ∈ rows, Digs B r) (j : Nat) : Digs B (rows.take j).flatten := flat_Digs fun r hr => h r (List.mem_of_mem_take hr)

end Go.Proofs.Ythddoelflmoedaa
namespace Go.Proofs.Ythddoelflmoedaa
open Go.RowKit
set_option maxRecDepth 100000
set_option linter.unusedVariables false
set_option linter.unusedSimpArgs false

set_option maxHeartbeats 1000000 in
theorem Rot64_any {x n : Nat} (hx : x < 2 ^ 64) (h0 : 0 < n) (hn : n < 64) (w : World) : Gives 71 #[.int .u64 (x : Int), .int .i64 (-(n : Int))] w (.int .u64 (rr 64 n x : Nat)) := by
  have h9 : n < 9223372036854775808 := by omega
  have hu : 18446744073709551616 - n < 2 ^ IntKind.u64.bits := by show _ < 18446744073709551616; omega
  have hm : (18446744073709551616 - n) % 64 = 64 - n := by omega
  have hb1 : 64 - n ≤ IntKind.u64.bits := by show _ ≤ 64; omega
  have hb2 : 64 - (64 - n) ≤ IntKind.u64.bits := by show _ ≤ 64; omega
  have hr : x * 2 ^ (64 - n) % 18446744073709551616 < 2 ^ IntKind.u64.bits := Nat.mod_lt _ (by decide)
  have hq : x / 2 ^ (64 - (64 - n)) < 2 ^ IntKind.u64.bits := Nat.lt_of_le_of_lt (Nat.div_le_self _ _) hx
  have he : x * 2 ^ (64 - n) % 18446744073709551616 ||| x / 2 ^ (64 - (64 - n)) = rr 64 n x := by
    unfold rr
    rw [show 64 - (64 - n) = n by omega]
  have Hm := Lib.hid hm
  have He := Lib.hid he
  have hs32 : 64 - n ≤ 64 := by omega
  clear hm he
  have hE0 := Env.nil w
  go_enter Try.func71, Try.ntmps71
  repeat ((fail_if_success with_reducible show wA ..); (fail_if_success with_reducible show wB ..); go_step)
  refine wv (v_moveC (.inr rfl)) ?_
  simp only [Act.put, pA, pB, pC]
  repeat ((fail_if_success with_reducible show wA ..); (fail_if_success with_reducible show wB ..); go_step)
  refine wv (v_moveT (.inl rfl) rfl) ?_
  simp only [Act.put, pA, pB, pC]
  refine wv (v_convNeg rfl rfl Try.underlying3 Try.underlying72 h0 h9) ?_
  simp only [Act.put, pA, pB, pC]
  refine wv (v_mask (c := 63) (s := 6) (d := 64) rfl rfl rfl (by decide) (by decide) rfl hu (by decide)) ?_
  simp only [Act.put, pA, pB, pC]
  rw [Hm.out]
  refine wv (v_moveT (.inr rfl) rfl) ?_
  simp only [Act.put, pA, pB, pC]
  repeat ((fail_if_success with_reducible show wA ..); (fail_if_success with_reducible show wB ..); go_step)
  refine wv (v_moveT (.inl rfl) rfl) ?_
  simp only [Act.put, pA, pB, pC]
  refine wv (v_moveT (.inl rfl) rfl) ?_
  simp only [Act.put, pA, pB, pC]
  refine wv (v_shl (m := x) (s := 64 - n) rfl rfl rfl hb1 (w_u64m _)) ?_
  simp only [Act.put, pA, pB, pC]
  refine wv (v_moveT (.inl rfl) rfl) ?_
  simp only [Act.put, pA, pB, pC]
  refine wv (v_moveT (.inl rfl) rfl) ?_
  simp only [Act.put, pA, pB, pC]
  refine wv (v_sub (m := 64) (n := 64 - n) (r := ((64 - (64 - n) : Nat) : Int)) rfl rfl rfl (w_u64s hs32 (by decide))) ?_
  simp only [Act.put, pA, pB, pC]
  refine wv (v_shr rfl rfl rfl hb2) ?_
  simp only [Act.put, pA, pB, pC]
  refine wv (v_bor rfl rfl rfl hr hq (w_or rfl hr hq)) ?_
  simp only [Act.put, pA, pB, pC]
  rw [He.out]
  refine wv (v_moveT (.inr rfl) rfl) ?_
  simp only [Act.put, pA, pB, pC]
  repeat ((fail_if_success with_reducible show wA ..); (fail_if_success with_reducible show wB ..); go_step)
  go_returns
  exact ⟨rfl, hE0.below⟩
set_option maxHeartbeats 1000000 in
theorem turnL_any {x n : Nat} (hx : x < 2 ^ 64) (h0 : 0 < n) (hn : n < 64) (w : World) : Gives 69 #[.int .u64 (x : Int), .int .i64 (n : Int)] w (.int .u64 (rr 64 n x : Nat)) := by
  have h9 : n < 9223372036854775808 := by omega
  have HR := Lib.hid (fun w => Rot64_any hx h0 hn w)
  have hE0 := Env.nil w
  go_enter Try.func69, Try.ntmps69
  repeat ((fail_if_success with_reducible show wA ..); (fail_if_success with_reducible show wB ..); go_step)
  refine wv (v_moveC (.inr rfl)) ?_
  simp only [Act.put, pA, pB, pC]
  repeat ((fail_if_success with_reducible show wA ..); (fail_if_success with_reducible show wB ..); go_step)
  refine wv (v_moveT (.inl rfl) rfl) ?_
  simp only [Act.put, pA, pB, pC]
  refine wv (v_moveT (.inl rfl) rfl) ?_
  simp only [Act.put, pA, pB, pC]
  refine wv (v_negN rfl rfl h9) ?_
  simp only [Act.put, pA, pB, pC]
  refine wl_step (st_gives hE0 rfl (run_call rfl Try.call71) (HR.out _) ?_)
  intro w1 hb1 hE1
  clear hE0
  simp only [Act.put, pA, pB, pC]
  refine wv (v_moveT (.inr rfl) rfl) ?_
  simp only [Act.put, pA, pB, pC]
  repeat ((fail_if_success with_reducible show wA ..); (fail_if_success with_reducible show wB ..); go_step)
  go_returns
  exact ⟨rfl, hE1.below⟩
end Go.Proofs.Ythddoelflmoedaa
namespace Go.Proofs.Ythddoelflmoedaa
open Go.RowKit
set_option maxRecDepth 100000
set_option linter.unusedVariables false
set_option linter.unusedSimpArgs false

theorem word512 {l : List Nat} {i : Nat} (hi : i < 16) (hl : 128 ≤ l.length) : wordAt 64 (l.take 128) i = beN ((l.drop (8 * i)).take (8 * i + 8 - 8 * i)) := by
  unfold wordAt
  rw [show (64 : Nat) / 8 = 8 from rfl, Nat.mul_comm i 8, List.drop_take, List.take_take, show 8 * i + 8 - 8 * i = 8 by omega, show min 8 (128 - 8 * i) = 8 by omega]
theorem rr64 {x : Nat} (h : x < 18446744073709551616) (n : Nat) : rr 64 n x < 2 ^ IntKind.u64.bits := rr_lt h

set_option maxRecDepth 100000 in
set_option maxHeartbeats 16000000 in
theorem mix512_any {h l : List Nat} {v : Value} {gk : Nat} {Tk : TypeId} {w : World} (hh : h.length = 8) (hd : ∀ j, h.getD j 0 < 18446744073709551616) (hv : RdS .u8 l v w) (dl : Digs 256 l) (h64 : 128 ≤ l.length) (hk : w.heap[gk]? = some (.cells (ints .u64 k512.rounds) Tk (0, 0))) :
    Gives 50 #[.agg (ints .u64 h), v, .pointer (some ⟨gk, 0, none⟩)] w (.agg (ints .u64 (blockS k512 h (l.take 128)))) := by
  have hgk : gk < w.heap.size := (Array.getElem?_eq_some_iff.1 hk).1
  obtain ⟨p, c, rfl, hcap, -⟩ := id hv
  have dm : Digs 256 (l.take 128) := dl.take 128
  have hnum : ∀ i, i < 16 → ∀ w1, Below w.heap.size w w1 → Gives 68 #[slcd p (8 * i) (8 * i + 8) c] w1 (.int .u64 (wordAt 64 (l.take 128) i : Nat)) := fun i hi w1 hb => by
    rw [word512 hi h64]
    exact number_any ((hv.below hb).slcd (by omega) (by omega)).row ((dl.drop _).take _) (Nat.le_trans (List.length_take_le _ _) (by omega))
  have hkc : ∀ n, n < 80 → ∀ w1, Below w.heap.size w w1 → w1.cell? ⟨gk, n, none⟩ = some (.int .u64 (k512.rounds.getD n 0 : Nat)) := fun n hn w1 hb => by
    rw [cell_of_row w1 gk n _ _ _ ((hb.block gk hgk).trans hk), ints_get? _ _ _ (by rw [k512_len]; exact hn)]
  have hwl : ∀ i, wordAt 64 (l.take 128) i < 18446744073709551616 := fun i => wordAt_lt dm i
  have hcap' : 128 ≤ c := by omega
  obtain ⟨m, hm⟩ : ∃ m, l.take 128 = m := ⟨_, rfl⟩
  rw [hm] at hnum hwl dm ⊢
  obtain ⟨SC, R, hF⟩ : ∃ SC R, MixF k512 h m 80 18446744073709551616 SC R := ⟨_, _, mixF (k := k512) rfl dm hh hd⟩
  have hB8 := blockS_len k512 h m
  obtain ⟨s0, sl, sa, sb, sc, r0, rl, rn, rb, bl⟩ := hF
  obtain ⟨B, hB⟩ : ∃ B, blockS k512 h m = B := ⟨_, rfl⟩
  rw [hB] at hB8 bl ⊢
  have kb := k512_lt
  obtain ⟨kc, hkcE⟩ : ∃ kc : Nat → Nat, (fun n => k512.rounds.getD n 0) = kc := ⟨_, rfl⟩
  have hkcE' : ∀ n, k512.rounds.getD n 0 = kc n := fun n => congrFun hkcE n
  simp only [hkcE'] at hkc rn kb
  obtain ⟨wa, hwa⟩ : ∃ wa : Nat → Nat, (fun n => wordAt 64 m n) = wa := ⟨_, rfl⟩
  have hwa' : ∀ n, wordAt 64 m n = wa n := fun n => congrFun hwa n
  have sa' : ∀ K, K < 80 → K < 16 → (SC K).set K (wa K) = SC (K + 1) := fun K h1 h2 => by rw [← hwa']; exact sa K h1 h2
  simp only [hwa'] at hnum hwl
  have sb' : ∀ K, K < 80 → 16 ≤ K → (SC K).set K ((smallS 64 (19, 61, 6) ((SC K).getD (K - 2) 0) + (SC K).getD (K - 7) 0 + smallS 64 (1, 8, 7) ((SC K).getD (K - 15) 0) + (SC K).getD (K - 16) 0) % 18446744073709551616) = SC (K + 1) := sb
  have rn' : ∀ n, R (n + 1) = [(((R n).getD 7 0 + bigS 64 (14, 18, 41) ((R n).getD 4 0) + chS 64 ((R n).getD 4 0) ((R n).getD 5 0) ((R n).getD 6 0) + kc n + (SC 80).getD n 0) % 18446744073709551616 + (bigS 64 (28, 34, 39) ((R n).getD 0 0) + majS ((R n).getD 0 0) ((R n).getD 1 0) ((R n).getD 2 0)) % 18446744073709551616) % 18446744073709551616, (R n).getD 0 0, (R n).getD 1 0, (R n).getD 2 0,
              ((R n).getD 3 0 + ((R n).getD 7 0 + bigS 64 (14, 18, 41) ((R n).getD 4 0) + chS 64 ((R n).getD 4 0) ((R n).getD 5 0) ((R n).getD 6 0) + kc n + (SC 80).getD n 0) % 18446744073709551616) % 18446744073709551616, (R n).getD 4 0, (R n).getD 5 0, (R n).getD 6 0] := fun n => rn n
  have Hnum := Lib.hid hnum
  have Hkc := Lib.hid hkc
  have Hwl := Lib.hid hwl
  have Hkb := Lib.hid kb
  have S0 := Lib.hid s0
  have Sl := Lib.hid sl
  have Sa := Lib.hid sa'
  have Sb := Lib.hid sb'
  have Sc := Lib.hid sc
  have R0 := Lib.hid r0
  have Rl := Lib.hid rl
  have Rn := Lib.hid rn'
  have Rb := Lib.hid rb
  have Bl := Lib.hid bl
  clear hnum hkc hwl hv dl dm hk hcap hm hd h64 hgk s0 sl sa sa' sb sb' sc r0 rl rn rn' rb bl hB kb hkcE hkcE' hwa hwa'
  have hE0 := Env.nil w
  go_enter Try.func50, Try.ntmps50
  repeat ((fail_if_success with_reducible show wA ..); (fail_if_success with_reducible show wB ..); go_step)
  refine wl_step (st_boxA hE0 rfl rfl rfl ?_)
  intro g0 w1 hb1 hE1
  clear hE0
  simp only [Act.put, pA, pB, pC]
  refine wl_step (st_alloc (zs := ints .u64 (List.replicate 8 0)) hE1 rfl rfl (fun w => by kernel_rfl) ?_)
  intro g1 w2 hb2 hE2
  clear hE1
  simp only [Act.put, pA, pB, pC]
  repeat ((fail_if_success with_reducible show wA ..); (fail_if_success with_reducible show wB ..); go_step)
  refine wl_step (st_alloc (zs := ints .u64 (List.replicate 80 0)) hE2 rfl rfl (fun w => by kernel_rfl) ?_)
  intro g2 w3 hb3 hE3
  clear hE2
  simp only [Act.put, pA, pB, pC]
  rw [← S0.out] at hE3
  repeat ((fail_if_success with_reducible show wA ..); (fail_if_success with_reducible show wB ..); go_step)
  refine wv (v_moveC (.inl rfl)) ?_
  simp only [Act.put, pA, pB, pC]
  go_wp2
  go_loopw [18] (fun i wr => ∃ K : Nat, K ≤ 80 ∧ i = .int .i64 K ∧ Env w [⟨g2, 79, ints .u64 (SC K)⟩, ⟨g1, 64, ints .u64 (List.replicate 8 0)⟩, ⟨g0, 64, ints .u64 h⟩] wr) (fun i _ => 80 - (intOf i).toNat)
  case atStart => exact ⟨0, Nat.zero_le _, rfl, hE3⟩
  case round =>
    clear hE3
    obtain ⟨K, hK, rfl, hE0⟩ := hrel
    have hSl := Sl.out K hK
    by_cases hK64 : K < 80
    · by_cases h16 : K < 16
      · have hset := Sa.out K hK64 h16
        have hn := Hnum.out K h16
        have hwb := Hwl.out K
        obtain ⟨x, hx⟩ : ∃ x, wa K = x := ⟨_, rfl⟩
        rw [hx] at hn hwb hset
        obtain ⟨S, hS⟩ : ∃ S, SC K = S := ⟨_, rfl⟩
        rw [hS] at hset hSl hE0
        have HN := Lib.hid hn
        have HS := Lib.hid hset
        have hlo : 8 * K ≤ 8 * K + 8 := by omega
        have hhi : 8 * K + 8 ≤ c := by omega
        clear hn hset hx hS
        repeat ((fail_if_success with_reducible show wA ..); (fail_if_success with_reducible show wB ..); go_step)
        refine wv (v_lss (n := 80) rfl rfl rfl) ?_
        simp only [Act.put, pA, pB, pC]
        repeat ((fail_if_success with_reducible show wA ..); (fail_if_success with_reducible show wB ..); go_step)
        refine wv (v_moveT (.inl rfl) rfl) ?_
        simp only [Act.put, pA, pB, pC]
        refine wv (v_moveT (.inr rfl) rfl) ?_
        simp only [Act.put, pA, pB, pC]
        repeat ((fail_if_success with_reducible show wA ..); (fail_if_success with_reducible show wB ..); go_step)
        refine wv (v_moveT (.inl rfl) rfl) ?_
        simp only [Act.put, pA, pB, pC]
        refine wv (v_lss (n := 16) rfl rfl rfl) ?_
        simp only [Act.put, pA, pB, pC]
        repeat ((fail_if_success with_reducible show wA ..); (fail_if_success with_reducible show wB ..); (fail_if_success (with_reducible show Code.wp _ (Code.cond _ _ _) _ _ _)); go_step)
        refine wp_cond_true (by first | rfl | exact congrArg Value.bool (decide_eq_true (by omega))) ?_
        skip
        repeat ((fail_if_success with_reducible show wA ..); (fail_if_success with_reducible show wB ..); go_step)
        refine wv (v_moveT (.inl rfl) rfl) ?_
        simp only [Act.put, pA, pB, pC]
        refine wv (v_moveT (.inl rfl) rfl) ?_
        simp only [Act.put, pA, pB, pC]
        refine wv (v_moveT (.inl rfl) rfl) ?_
        simp only [Act.put, pA, pB, pC]
        refine wv (v_mul (m := 8) rfl rfl rfl (w_i64 (by omega))) ?_
        simp only [Act.put, pA, pB, pC]
        refine wv (v_moveT (.inl rfl) rfl) ?_
        simp only [Act.put, pA, pB, pC]
        refine wv (v_mul (m := 8) rfl rfl rfl (w_i64 (by omega))) ?_
        simp only [Act.put, pA, pB, pC]
        refine wv (v_add (n := 8) rfl rfl rfl (w_i64 (by omega))) ?_
        simp only [Act.put, pA, pB, pC]
        refine wv (v_sliceLH rfl rfl rfl rfl Try.underlying24 (by kernel_rfl) hlo hhi) ?_
        simp only [Act.put, pA, pB, pC]
        refine wl_step (st_gives hE0 rfl (run_call rfl Try.call68) (HN.out _ hE0.below) ?_)
        intro w1 hb1 hE1
        clear hE0
        simp only [Act.put, pA, pB, pC]
        refine wv (v_indexA0 rfl rfl rfl Try.underlying79 (by kernel_rfl) (by first | assumption | omega)) ?_
        simp only [Act.put, pA, pB, pC]
        refine wl_step (st_putN (i := 0) hE1 rfl rfl rfl rfl rfl (by kernel_rfl) (by first | assumption | omega | (simp only [List.length_set, List.length_replicate]; first | assumption | omega)) ?_)
        intro w2 hE2
        clear hE1
        simp only [pB, pC] at hE2
        simp only [Act.put, pA, pB, pC]
        rw [HS.out] at hE2
        repeat ((fail_if_success with_reducible show wA ..); (fail_if_success with_reducible show wB ..); go_step)
        refine wv (v_add (n := 1) rfl rfl rfl (w_i64 (by omega))) ?_
        simp only [Act.put, pA, pB, pC]
        refine wv (v_moveT (.inl rfl) rfl) ?_
        simp only [Act.put, pA, pB, pC]
        go_wp2
        go_roundw
        case rel => exact ⟨K + 1, by omega, rfl, hE2⟩
        case measure => simp [intOf]; omega
      · have hset := Sb.out K hK64 (by omega)
        have bx := Sc.out K (K - 15)
        have by' := Sc.out K (K - 2)
        have b16 := Sc.out K (K - 16)
        have b7 := Sc.out K (K - 7)
        obtain ⟨S, hS⟩ : ∃ S, SC K = S := ⟨_, rfl⟩
        rw [hS] at hset hSl hE0 bx by' b16 b7
        obtain ⟨x, g15⟩ : ∃ x, S.getD (K - 15) 0 = x := ⟨_, rfl⟩
        obtain ⟨y, g2'⟩ : ∃ x, S.getD (K - 2) 0 = x := ⟨_, rfl⟩
        obtain ⟨z, g16⟩ : ∃ x, S.getD (K - 16) 0 = x := ⟨_, rfl⟩
        obtain ⟨u, g7⟩ : ∃ x, S.getD (K - 7) 0 = x := ⟨_, rfl⟩
        rw [g15] at hset bx
        rw [g2'] at hset by'
        rw [g16] at hset b16
        rw [g7] at hset b7
        have t1 := fun w => turnL_any (x := x) (n := 1) bx (by decide) (by decide) w
        have t2 := fun w => turnL_any (x := x) (n := 8) bx (by decide) (by decide) w
        have t3 := fun w => turnL_any (x := y) (n := 19) by' (by decide) (by decide) w
        have t4 := fun w => turnL_any (x := y) (n := 61) by' (by decide) (by decide) w
        have r1 := rr64 bx 1
        have r2 := rr64 bx 8
        have r3 := rr64 by' 19
        have r4 := rr64 by' 61
        have r5 : x / 128 < 2 ^ IntKind.u64.bits := Nat.lt_of_le_of_lt (Nat.div_le_self _ _) bx
        have r6 : y / 64 < 2 ^ IntKind.u64.bits := Nat.lt_of_le_of_lt (Nat.div_le_self _ _) by'
        have x1 := Nat.xor_lt_two_pow r1 r2
        have x2 := Nat.xor_lt_two_pow r3 r4
        have e0 : smallS 64 (1, 8, 7) x = rr 64 1 x ^^^ rr 64 8 x ^^^ x / 128 := rfl
        have e1 : smallS 64 (19, 61, 6) y = rr 64 19 y ^^^ rr 64 61 y ^^^ y / 64 := rfl
        have hsum : (((z + smallS 64 (1, 8, 7) x) % 18446744073709551616 + u) % 18446744073709551616 + smallS 64 (19, 61, 6) y) % 18446744073709551616 = (smallS 64 (19, 61, 6) y + u + smallS 64 (1, 8, 7) x + z) % 18446744073709551616 := sum4 _ _ _ _ _
        have G15 := Lib.hid g15
        have G2 := Lib.hid g2'
        have G16 := Lib.hid g16
        have G7 := Lib.hid g7
        have T1 := Lib.hid t1
        clear t1
        have T2 := Lib.hid t2
        clear t2
        have T3 := Lib.hid t3
        clear t3
        have T4 := Lib.hid t4
        clear t4
        have E0 := Lib.hid e0.symm
        have E1 := Lib.hid e1.symm
        have HS := Lib.hid hset
        have Hsum := Lib.hid hsum
        have j15 : K - 15 < 80 := by omega
        have j2 : K - 2 < 80 := by omega
        have j16 : K - 16 < 80 := by omega
        have j7 : K - 7 < 80 := by omega
        clear hset hsum e0 e1 g15 g2' g16 g7 hS
        repeat ((fail_if_success with_reducible show wA ..); (fail_if_success with_reducible show wB ..); go_step)
        refine wv (v_lss (n := 80) rfl rfl rfl) ?_
        simp only [Act.put, pA, pB, pC]
        repeat ((fail_if_success with_reducible show wA ..); (fail_if_success with_reducible show wB ..); go_step)
        refine wv (v_moveT (.inl rfl) rfl) ?_
        simp only [Act.put, pA, pB, pC]
        refine wv (v_moveT (.inr rfl) rfl) ?_
        simp only [Act.put, pA, pB, pC]
        repeat ((fail_if_success with_reducible show wA ..); (fail_if_success with_reducible show wB ..); go_step)
        refine wv (v_moveT (.inl rfl) rfl) ?_
        simp only [Act.put, pA, pB, pC]
        refine wv (v_lss (n := 16) rfl rfl rfl) ?_
        simp only [Act.put, pA, pB, pC]
        repeat ((fail_if_success with_reducible show wA ..); (fail_if_success with_reducible show wB ..); (fail_if_success (with_reducible show Code.wp _ (Code.cond _ _ _) _ _ _)); go_step)
        refine wp_cond_false (by first | rfl | exact congrArg Value.bool (decide_eq_false (by omega))) ?_
        skip
        repeat ((fail_if_success with_reducible show wA ..); (fail_if_success with_reducible show wB ..); go_step)
        refine wp_region_B (n := 10) 10 (by kernel_rfl) rfl hE0 ?_
        intro w1 hb1 hE1
        clear hE0
        refine wpB_take (i := 0) (by kernel_rfl) rfl (by kernel_rfl) (fun _ _ _ h => h) rfl (v_moveT (.inl rfl) rfl) ?_
        simp only [Act.put, pA, pB, pC]
        refine wpB_take (i := 1) (by kernel_rfl) rfl (by kernel_rfl) (fun _ _ _ h => h) rfl (v_sub (n := 15) rfl rfl rfl (by first | exact w_i64s (by omega) (by omega) | exact w_i64I (by omega) (by omega))) ?_
        simp only [Act.put, pA, pB, pC]
        refine wpB_take (i := 2) (by kernel_rfl) rfl (by kernel_rfl) (fun _ _ _ h => h) rfl (v_indexA0 rfl rfl rfl Try.underlying79 (by kernel_rfl) (by first | assumption | omega)) ?_
        simp only [Act.put, pA, pB, pC]
        refine wpB_take (i := 3) (by kernel_rfl) rfl (by kernel_rfl) (fun _ _ _ h => h) rfl (v_cell rfl rfl Try.underlying38 rfl (Env.cellv (i := 0) hE1 rfl (ints_get? _ _ _ (by first | assumption | omega | (simp; done) | (simp; omega))))) ?_
        simp only [Act.put, pA, pB, pC]
        rw [G15.out]
        refine wpB_take (i := 4) (by kernel_rfl) rfl (by kernel_rfl) (fun _ _ _ h => h) rfl (v_moveT (.inl rfl) rfl) ?_
        simp only [Act.put, pA, pB, pC]
        refine wpB_take (i := 5) (by kernel_rfl) rfl (by kernel_rfl) (fun _ _ _ h => h) rfl (v_sub (n := 2) rfl rfl rfl (by first | exact w_i64s (by omega) (by omega) | exact w_i64I (by omega) (by omega))) ?_
        simp only [Act.put, pA, pB, pC]
        refine wpB_take (i := 6) (by kernel_rfl) rfl (by kernel_rfl) (fun _ _ _ h => h) rfl (v_indexA0 rfl rfl rfl Try.underlying79 (by kernel_rfl) (by first | assumption | omega)) ?_
        simp only [Act.put, pA, pB, pC]
        refine wpB_take (i := 7) (by kernel_rfl) rfl (by kernel_rfl) (fun _ _ _ h => h) rfl (v_cell rfl rfl Try.underlying38 rfl (Env.cellv (i := 0) hE1 rfl (ints_get? _ _ _ (by first | assumption | omega | (simp; done) | (simp; omega))))) ?_
        simp only [Act.put, pA, pB, pC]
        rw [G2.out]
        refine wpB_take (i := 8) (by kernel_rfl) rfl (by kernel_rfl) (fun _ _ _ h => h) rfl (v_moveT (.inr rfl) rfl) ?_
        simp only [Act.put, pA, pB, pC]
        refine wpB_take (i := 9) (by kernel_rfl) rfl (by kernel_rfl) (fun _ _ _ h => h) rfl (v_moveT (.inr rfl) rfl) ?_
        simp only [Act.put, pA, pB, pC]
        refine wpB_done (by kernel_rfl) ?_ _
        repeat ((fail_if_success with_reducible show wA ..); (fail_if_success with_reducible show wB ..); go_step)
        refine wp_region_B (n := 30) 29 (by kernel_rfl) rfl hE1 ?_
        intro w2 hb2 hE2
        clear hE1
        refine wpB_take (i := 0) (by kernel_rfl) rfl (by kernel_rfl) (fun _ _ _ h => h) rfl (v_moveT (.inl rfl) rfl) ?_
        simp only [Act.put, pA, pB, pC]
        refine wpB_take (i := 1) (by kernel_rfl) rfl (by kernel_rfl) (fun _ _ _ h => h) rfl (v_moveT (.inl rfl) rfl) ?_
        simp only [Act.put, pA, pB, pC]
        refine wpB_take (i := 2) (by kernel_rfl) rfl (by kernel_rfl) (fun _ _ _ h => h) rfl (v_sub (n := 16) rfl rfl rfl (by first | exact w_i64s (by omega) (by omega) | exact w_i64I (by omega) (by omega))) ?_
        simp only [Act.put, pA, pB, pC]
        refine wpB_take (i := 3) (by kernel_rfl) rfl (by kernel_rfl) (fun _ _ _ h => h) rfl (v_indexA0 rfl rfl rfl Try.underlying79 (by kernel_rfl) (by first | assumption | omega)) ?_
        simp only [Act.put, pA, pB, pC]
        refine wpB_take (i := 4) (by kernel_rfl) rfl (by kernel_rfl) (fun _ _ _ h => h) rfl (v_cell rfl rfl Try.underlying38 rfl (Env.cellv (i := 0) hE2 rfl (ints_get? _ _ _ (by first | assumption | omega | (simp; done) | (simp; omega))))) ?_
        simp only [Act.put, pA, pB, pC]
        rw [G16.out]
        refine wpB_take (i := 5) (by kernel_rfl) rfl (by kernel_rfl) (fun _ _ _ h => h) rfl (v_moveT (.inl rfl) rfl) ?_
        simp only [Act.put, pA, pB, pC]
        refine wpB_take (i := 7) (by kernel_rfl) rfl (by kernel_rfl) (fun _ _ _ h => h) rfl (v_moveT (.inl rfl) rfl) ?_
        simp only [Act.put, pA, pB, pC]
        refine wpB_take (i := 10) (by kernel_rfl) rfl (by kernel_rfl) (fun _ _ _ h => h) rfl (v_moveT (.inl rfl) rfl) ?_
        simp only [Act.put, pA, pB, pC]
        refine wpB_take (i := 11) (by kernel_rfl) rfl (by kernel_rfl) (fun _ _ _ h => h) rfl (v_shrC (s := 7) (d := 128) rfl rfl rfl (by decide) (by decide)) ?_
        simp only [Act.put, pA, pB, pC]
        refine wpB_take (i := 14) (by kernel_rfl) rfl (by kernel_rfl) (fun _ _ _ h => h) rfl (v_moveT (.inl rfl) rfl) ?_
        simp only [Act.put, pA, pB, pC]
        refine wpB_take (i := 15) (by kernel_rfl) rfl (by kernel_rfl) (fun _ _ _ h => h) rfl (v_sub (n := 7) rfl rfl rfl (by first | exact w_i64s (by omega) (by omega) | exact w_i64I (by omega) (by omega))) ?_
        simp only [Act.put, pA, pB, pC]
        refine wpB_take (i := 16) (by kernel_rfl) rfl (by kernel_rfl) (fun _ _ _ h => h) rfl (v_indexA0 rfl rfl rfl Try.underlying79 (by kernel_rfl) (by first | assumption | omega)) ?_
        simp only [Act.put, pA, pB, pC]
        refine wpB_take (i := 17) (by kernel_rfl) rfl (by kernel_rfl) (fun _ _ _ h => h) rfl (v_cell rfl rfl Try.underlying38 rfl (Env.cellv (i := 0) hE2 rfl (ints_get? _ _ _ (by first | assumption | omega | (simp; done) | (simp; omega))))) ?_
        simp only [Act.put, pA, pB, pC]
        rw [G7.out]
        refine wpB_take (i := 19) (by kernel_rfl) rfl (by kernel_rfl) (fun _ _ _ h => h) rfl (v_moveT (.inl rfl) rfl) ?_
        simp only [Act.put, pA, pB, pC]
        refine wpB_take (i := 21) (by kernel_rfl) rfl (by kernel_rfl) (fun _ _ _ h => h) rfl (v_moveT (.inl rfl) rfl) ?_
        simp only [Act.put, pA, pB, pC]
        refine wpB_take (i := 24) (by kernel_rfl) rfl (by kernel_rfl) (fun _ _ _ h => h) rfl (v_moveT (.inl rfl) rfl) ?_
        simp only [Act.put, pA, pB, pC]
        refine wpB_take (i := 25) (by kernel_rfl) rfl (by kernel_rfl) (fun _ _ _ h => h) rfl (v_shrC (s := 6) (d := 64) rfl rfl rfl (by decide) (by decide)) ?_
        simp only [Act.put, pA, pB, pC]
        refine wpB_step (i := 6) (by kernel_rfl) rfl (st_gives hE2 rfl (run_call rfl Try.call69) (T1.out _) ?_)
        intro w3 hb3 hE3
        clear hE2
        refine ⟨fun _ => hb3, ?_⟩
        simp only [Act.put, pA, pB, pC]
        refine wpB_step (i := 8) (by kernel_rfl) rfl (st_gives hE3 rfl (run_call rfl Try.call69) (T2.out _) ?_)
        intro w4 hb4 hE4
        clear hE3
        refine ⟨fun _ => hb4, ?_⟩
        simp only [Act.put, pA, pB, pC]
        refine wpB_take (i := 9) (by kernel_rfl) rfl (by kernel_rfl) (fun _ _ _ h => h) rfl (v_bxor rfl rfl rfl r1 r2 (w_xor rfl r1 r2)) ?_
        simp only [Act.put, pA, pB, pC]
        refine wpB_take (i := 12) (by kernel_rfl) rfl (by kernel_rfl) (fun _ _ _ h => h) rfl (v_bxor rfl rfl rfl x1 r5 (w_xor rfl x1 r5)) ?_
        simp only [Act.put, pA, pB, pC]
        rw [E0.out]
        refine wpB_take (i := 13) (by kernel_rfl) rfl (by kernel_rfl) (fun _ _ _ h => h) rfl (v_add rfl rfl rfl (w_u64m _)) ?_
        simp only [Act.put, pA, pB, pC]
        refine wpB_take (i := 18) (by kernel_rfl) rfl (by kernel_rfl) (fun _ _ _ h => h) rfl (v_add rfl rfl rfl (w_u64m _)) ?_
        simp only [Act.put, pA, pB, pC]
        refine wpB_step (i := 20) (by kernel_rfl) rfl (st_gives hE4 rfl (run_call rfl Try.call69) (T3.out _) ?_)
        intro w5 hb5 hE5
        clear hE4
        refine ⟨fun _ => hb5, ?_⟩
        simp only [Act.put, pA, pB, pC]
        refine wpB_step (i := 22) (by kernel_rfl) rfl (st_gives hE5 rfl (run_call rfl Try.call69) (T4.out _) ?_)
        intro w6 hb6 hE6
        clear hE5
        refine ⟨fun _ => hb6, ?_⟩
        simp only [Act.put, pA, pB, pC]
        refine wpB_take (i := 23) (by kernel_rfl) rfl (by kernel_rfl) (fun _ _ _ h => h) rfl (v_bxor rfl rfl rfl r3 r4 (w_xor rfl r3 r4)) ?_
        simp only [Act.put, pA, pB, pC]
        refine wpB_take (i := 26) (by kernel_rfl) rfl (by kernel_rfl) (fun _ _ _ h => h) rfl (v_bxor rfl rfl rfl x2 r6 (w_xor rfl x2 r6)) ?_
        simp only [Act.put, pA, pB, pC]
        rw [E1.out]
        refine wpB_take (i := 27) (by kernel_rfl) rfl (by kernel_rfl) (fun _ _ _ h => h) rfl (v_add rfl rfl rfl (w_u64m _)) ?_
        simp only [Act.put, pA, pB, pC]
        rw [Hsum.out]
        refine wpB_take (i := 28) (by kernel_rfl) rfl (by kernel_rfl) (fun _ _ _ h => h) rfl (v_indexA0 rfl rfl rfl Try.underlying79 (by kernel_rfl) (by first | assumption | omega)) ?_
        simp only [Act.put, pA, pB, pC]
        refine wpB_step (i := 29) (by kernel_rfl) rfl (st_putN (i := 0) hE6 rfl rfl rfl rfl rfl (by kernel_rfl) (by first | assumption | omega | (simp only [List.length_set, List.length_replicate]; first | assumption | omega)) ?_)
        intro w7 hE7
        clear hE6
        simp only [pB, pC] at hE7
        refine ⟨fun h => absurd h (by decide), ?_⟩
        simp only [Act.put, pA, pB, pC]
        refine wpB_done (by kernel_rfl) ?_ _
        rw [HS.out] at hE7
        repeat ((fail_if_success with_reducible show wA ..); (fail_if_success with_reducible show wB ..); go_step)
        refine wv (v_add (n := 1) rfl rfl rfl (w_i64 (by omega))) ?_
        simp only [Act.put, pA, pB, pC]
        refine wv (v_moveT (.inl rfl) rfl) ?_
        simp only [Act.put, pA, pB, pC]
        go_wp2
        go_roundw
        case rel => exact ⟨K + 1, by omega, rfl, hE7⟩
        case measure => simp [intOf]; omega
    · have hK' : K = 80 := by omega
      subst hK'
      obtain ⟨W, hW⟩ : ∃ W, SC 80 = W := ⟨_, rfl⟩
      rw [hW] at hE0 hSl
      have HW := Lib.hid hW
      clear hW
      repeat ((fail_if_success with_reducible show wA ..); (fail_if_success with_reducible show wB ..); go_step)
      refine wv (v_lss (n := 80) rfl rfl rfl) ?_
      simp only [Act.put, pA, pB, pC]
      repeat ((fail_if_success with_reducible show wA ..); (fail_if_success with_reducible show wB ..); go_step)
      refine wv (v_load (i := 2) hE0 rfl rfl rfl Try.underlying64 rfl (szA (n := 8))) ?_
      simp only [Act.put, pA, pB, pC]
      refine wl_step (st_alloc (zs := ints .u64 (List.replicate 8 0)) hE0 rfl rfl (fun w => by kernel_rfl) ?_)
      intro g3 w1 hb1 hE1
      clear hE0
      simp only [Act.put, pA, pB, pC]
      refine wl_step (st_store (i := 0) hE1 rfl rfl rfl rfl rfl (szA (n := 8)) (by first | (simp only [ints_size, digs_length, List.length_replicate, List.length_cons, List.length_nil]; done) | (simp only [ints_size, digs_length, List.length_replicate, List.length_cons, List.length_nil, List.length_set, List.length_append]; omega) | rfl) (by first | exact ints_one _ _ | decide | rfl | simp [*]) ?_)
      intro w2 hE2
      clear hE1
      simp only [pB, pC] at hE2
      simp only [Act.put, pA, pB, pC]
      repeat ((fail_if_success with_reducible show wA ..); (fail_if_success with_reducible show wB ..); go_step)
      refine wv (v_moveC (.inl rfl)) ?_
      simp only [Act.put, pA, pB, pC]
      have hst : Env w [⟨g3, 64, ints .u64 (R 0)⟩, ⟨g2, 79, ints .u64 W⟩, ⟨g1, 64, ints .u64 (List.replicate 8 0)⟩, ⟨g0, 64, ints .u64 h⟩] w2 := by rw [R0.out]; exact hE2
      clear hE2
      go_wp2
      go_loopw [72] (fun i wr => ∃ n : Nat, n ≤ 80 ∧ i = .int .i64 n ∧ Env w [⟨g3, 64, ints .u64 (R n)⟩, ⟨g2, 79, ints .u64 W⟩, ⟨g1, 64, ints .u64 (List.replicate 8 0)⟩, ⟨g0, 64, ints .u64 h⟩] wr) (fun i _ => 80 - (intOf i).toNat)
      case atStart => exact ⟨0, Nat.zero_le _, rfl, hst⟩
      case round =>
        clear hst
        obtain ⟨n, hn, rfl, hE0⟩ := hrel
        have hVl := Rl.out n
        by_cases hn64 : n < 80
        · have hbd := Rb.out n
          have hnext := Rn.out n
          rw [HW.out] at hnext
          have hkn := Hkc.out n hn64
          have bk := Hkb.out n
          have bw := Sc.out 80 n
          rw [HW.out] at bw
          obtain ⟨kk, hkk⟩ : ∃ x, kc n = x := ⟨_, rfl⟩
          rw [hkk] at hnext hkn bk
          obtain ⟨ww, hww⟩ : ∃ x, W.getD n 0 = x := ⟨_, rfl⟩
          rw [hww] at hnext bw
          obtain ⟨V, hV⟩ : ∃ V, R n = V := ⟨_, rfl⟩
          rw [hV] at hE0 hVl hbd hnext
          have v0 := hbd 0
          have v1 := hbd 1
          have v2 := hbd 2
          have v3 := hbd 3
          have v4 := hbd 4
          have v5 := hbd 5
          have v6 := hbd 6
          have v7 := hbd 7
          obtain ⟨a0, ha0⟩ : ∃ x, V.getD 0 0 = x := ⟨_, rfl⟩
          rw [ha0] at hnext v0
          have A0 := Lib.hid ha0
          clear ha0
          obtain ⟨a1, ha1⟩ : ∃ x, V.getD 1 0 = x := ⟨_, rfl⟩
          rw [ha1] at hnext v1
          have A1 := Lib.hid ha1
          clear ha1
          obtain ⟨a2, ha2⟩ : ∃ x, V.getD 2 0 = x := ⟨_, rfl⟩
          rw [ha2] at hnext v2
          have A2 := Lib.hid ha2
          clear ha2
          obtain ⟨a3, ha3⟩ : ∃ x, V.getD 3 0 = x := ⟨_, rfl⟩
          rw [ha3] at hnext v3
          have A3 := Lib.hid ha3
          clear ha3
          obtain ⟨a4, ha4⟩ : ∃ x, V.getD 4 0 = x := ⟨_, rfl⟩
          rw [ha4] at hnext v4
          have A4 := Lib.hid ha4
          clear ha4
          obtain ⟨a5, ha5⟩ : ∃ x, V.getD 5 0 = x := ⟨_, rfl⟩
          rw [ha5] at hnext v5
          have A5 := Lib.hid ha5
          clear ha5
          obtain ⟨a6, ha6⟩ : ∃ x, V.getD 6 0 = x := ⟨_, rfl⟩
          rw [ha6] at hnext v6
          have A6 := Lib.hid ha6
          clear ha6
          obtain ⟨a7, ha7⟩ : ∃ x, V.getD 7 0 = x := ⟨_, rfl⟩
          rw [ha7] at hnext v7
          have A7 := Lib.hid ha7
          clear ha7
          have t1 := fun w => turnL_any (x := a4) (n := 14) v4 (by decide) (by decide) w
          have t2 := fun w => turnL_any (x := a4) (n := 18) v4 (by decide) (by decide) w
          have t3 := fun w => turnL_any (x := a4) (n := 41) v4 (by decide) (by decide) w
          have t4 := fun w => turnL_any (x := a0) (n := 28) v0 (by decide) (by decide) w
          have t5 := fun w => turnL_any (x := a0) (n := 34) v0 (by decide) (by decide) w
          have t6 := fun w => turnL_any (x := a0) (n := 39) v0 (by decide) (by decide) w
          have r1 := rr64 v4 14
          have r2 := rr64 v4 18
          have r3 := rr64 v4 41
          have r4 := rr64 v0 28
          have r5 := rr64 v0 34
          have r6 := rr64 v0 39
          have x1 := Nat.xor_lt_two_pow r1 r2
          have x2 := Nat.xor_lt_two_pow r4 r5
          have e1 : rr 64 14 a4 ^^^ rr 64 18 a4 ^^^ rr 64 41 a4 = bigS 64 (14, 18, 41) a4 := rfl
          have e2 : rr 64 28 a0 ^^^ rr 64 34 a0 ^^^ rr 64 39 a0 = bigS 64 (28, 34, 39) a0 := rfl
          have b0 : a0 < 2 ^ IntKind.u64.bits := v0
          have b1 : a1 < 2 ^ IntKind.u64.bits := v1
          have b2 : a2 < 2 ^ IntKind.u64.bits := v2
          have b4 : a4 < 2 ^ IntKind.u64.bits := v4
          have b5 : a5 < 2 ^ IntKind.u64.bits := v5
          have b6 : a6 < 2 ^ IntKind.u64.bits := v6
          have c1 : a4 &&& a5 < 2 ^ IntKind.u64.bits := Nat.lt_of_le_of_lt Nat.and_le_left b4
          have cn : 2 ^ IntKind.u64.bits - 1 - a4 < 2 ^ IntKind.u64.bits := Nat.lt_of_le_of_lt (Nat.sub_le _ _) (by decide)
          have c2 : (2 ^ IntKind.u64.bits - 1 - a4) &&& a6 < 2 ^ IntKind.u64.bits := Nat.lt_of_le_of_lt Nat.and_le_right b6
          have e3 : a4 &&& a5 ^^^ (2 ^ IntKind.u64.bits - 1 - a4) &&& a6 = chS 64 a4 a5 a6 := rfl
          have d1 : a0 &&& a1 < 2 ^ IntKind.u64.bits := Nat.lt_of_le_of_lt Nat.and_le_left b0
          have d2 : a0 &&& a2 < 2 ^ IntKind.u64.bits := Nat.lt_of_le_of_lt Nat.and_le_left b0
          have d3 : a1 &&& a2 < 2 ^ IntKind.u64.bits := Nat.lt_of_le_of_lt Nat.and_le_left b1
          have d4 := Nat.xor_lt_two_pow d1 d2
          have e4 : a0 &&& a1 ^^^ a0 &&& a2 ^^^ a1 &&& a2 = majS a0 a1 a2 := rfl
          have hsum : (((a7 + bigS 64 (14, 18, 41) a4) % 18446744073709551616 + chS 64 a4 a5 a6) % 18446744073709551616 + kk) % 18446744073709551616 = (a7 + bigS 64 (14, 18, 41) a4 + chS 64 a4 a5 a6 + kk) % 18446744073709551616 := by simp only [Nat.mod_add_mod]
          have hsum2 : ((a7 + bigS 64 (14, 18, 41) a4 + chS 64 a4 a5 a6 + kk) % 18446744073709551616 + ww) % 18446744073709551616 = (a7 + bigS 64 (14, 18, 41) a4 + chS 64 a4 a5 a6 + kk + ww) % 18446744073709551616 := by simp only [Nat.mod_add_mod]
          obtain ⟨TT, hTT⟩ : ∃ x, (a7 + bigS 64 (14, 18, 41) a4 + chS 64 a4 a5 a6 + kk + ww) % 18446744073709551616 = x := ⟨_, rfl⟩
          obtain ⟨UU, hUU⟩ : ∃ x, (bigS 64 (28, 34, 39) a0 + majS a0 a1 a2) % 18446744073709551616 = x := ⟨_, rfl⟩
          rw [hTT] at hnext hsum2
          rw [hUU] at hnext
          obtain ⟨B0, hB0⟩ : ∃ x, (TT + UU) % 18446744073709551616 = x := ⟨_, rfl⟩
          obtain ⟨B4, hB4⟩ : ∃ x, (a3 + TT) % 18446744073709551616 = x := ⟨_, rfl⟩
          rw [hB0, hB4] at hnext
          have T1 := Lib.hid t1
          clear t1
          have T2 := Lib.hid t2
          clear t2
          have T3 := Lib.hid t3
          clear t3
          have T4 := Lib.hid t4
          clear t4
          have T5 := Lib.hid t5
          clear t5
          have T6 := Lib.hid t6
          clear t6
          have He1 := Lib.hid e1
          clear e1
          have He2 := Lib.hid e2
          clear e2
          have He3 := Lib.hid e3
          clear e3
          have He4 := Lib.hid e4
          clear e4
          have Hhsum := Lib.hid hsum
          clear hsum
          have Hhsum2 := Lib.hid hsum2
          clear hsum2
          have HhUU := Lib.hid hUU
          clear hUU
          have HhB0 := Lib.hid hB0
          clear hB0
          have HhB4 := Lib.hid hB4
          clear hB4
          have Hhkn := Lib.hid hkn
          clear hkn
          have Hhww := Lib.hid hww
          clear hww
          have Hhnext := Lib.hid hnext
          clear hnext
          clear hTT hV hkk hbd
          repeat ((fail_if_success with_reducible show wA ..); (fail_if_success with_reducible show wB ..); go_step)
          refine wv (v_lss (n := 80) rfl rfl rfl) ?_
          simp only [Act.put, pA, pB, pC]
          repeat ((fail_if_success with_reducible show wA ..); (fail_if_success with_reducible show wB ..); go_step)
          refine wv (v_moveT (.inl rfl) rfl) ?_
          simp only [Act.put, pA, pB, pC]
          refine wv (v_moveT (.inr rfl) rfl) ?_
          simp only [Act.put, pA, pB, pC]
          repeat ((fail_if_success with_reducible show wA ..); (fail_if_success with_reducible show wB ..); go_step)
          refine wp_region_B (n := 6) 6 (by kernel_rfl) rfl hE0 ?_
          intro w1 hb1 hE1
          clear hE0
          refine wpB_take (i := 0) (by kernel_rfl) rfl (by kernel_rfl) (fun _ _ _ h => h) rfl (v_indexA0 (j := 0) rfl rfl rfl Try.underlying64 (by kernel_rfl) (by first | assumption | omega)) ?_
          simp only [Act.put, pA, pB, pC]
          refine wpB_take (i := 1) (by kernel_rfl) rfl (by kernel_rfl) (fun _ _ _ h => h) rfl (v_cell rfl rfl Try.underlying38 rfl (Env.cellv (i := 0) hE1 rfl (ints_get? _ _ _ (by first | assumption | omega | (simp; done) | (simp; omega))))) ?_
          simp only [Act.put, pA, pB, pC]
          rw [A0.out]
          refine wpB_take (i := 2) (by kernel_rfl) rfl (by kernel_rfl) (fun _ _ _ h => h) rfl (v_indexA0 (j := 4) rfl rfl rfl Try.underlying64 (by kernel_rfl) (by first | assumption | omega)) ?_
          simp only [Act.put, pA, pB, pC]
          refine wpB_take (i := 3) (by kernel_rfl) rfl (by kernel_rfl) (fun _ _ _ h => h) rfl (v_cell rfl rfl Try.underlying38 rfl (Env.cellv (i := 0) hE1 rfl (ints_get? _ _ _ (by first | assumption | omega | (simp; done) | (simp; omega))))) ?_
          simp only [Act.put, pA, pB, pC]
          rw [A4.out]
          refine wpB_take (i := 4) (by kernel_rfl) rfl (by kernel_rfl) (fun _ _ _ h => h) rfl (v_moveT (.inr rfl) rfl) ?_
          simp only [Act.put, pA, pB, pC]
          refine wpB_take (i := 5) (by kernel_rfl) rfl (by kernel_rfl) (fun _ _ _ h => h) rfl (v_moveT (.inr rfl) rfl) ?_
          simp only [Act.put, pA, pB, pC]
          refine wpB_done (by kernel_rfl) ?_ _
          repeat ((fail_if_success with_reducible show wA ..); (fail_if_success with_reducible show wB ..); go_step)
          refine wp_region_B (n := 33) 32 (by kernel_rfl) rfl hE1 ?_
          intro w2 hb2 hE2
          clear hE1
          refine wpB_take (i := 0) (by kernel_rfl) rfl (by kernel_rfl) (fun _ _ _ h => h) rfl (v_indexA0 (j := 7) rfl rfl rfl Try.underlying64 (by kernel_rfl) (by first | assumption | omega)) ?_
          simp only [Act.put, pA, pB, pC]
          refine wpB_take (i := 1) (by kernel_rfl) rfl (by kernel_rfl) (fun _ _ _ h => h) rfl (v_cell rfl rfl Try.underlying38 rfl (Env.cellv (i := 0) hE2 rfl (ints_get? _ _ _ (by first | assumption | omega | (simp; done) | (simp; omega))))) ?_
          simp only [Act.put, pA, pB, pC]
          rw [A7.out]
          refine wpB_take (i := 2) (by kernel_rfl) rfl (by kernel_rfl) (fun _ _ _ h => h) rfl (v_moveT (.inl rfl) rfl) ?_
          simp only [Act.put, pA, pB, pC]
          refine wpB_take (i := 4) (by kernel_rfl) rfl (by kernel_rfl) (fun _ _ _ h => h) rfl (v_moveT (.inl rfl) rfl) ?_
          simp only [Act.put, pA, pB, pC]
          refine wpB_take (i := 7) (by kernel_rfl) rfl (by kernel_rfl) (fun _ _ _ h => h) rfl (v_moveT (.inl rfl) rfl) ?_
          simp only [Act.put, pA, pB, pC]
          refine wpB_take (i := 11) (by kernel_rfl) rfl (by kernel_rfl) (fun _ _ _ h => h) rfl (v_moveT (.inl rfl) rfl) ?_
          simp only [Act.put, pA, pB, pC]
          refine wpB_take (i := 12) (by kernel_rfl) rfl (by kernel_rfl) (fun _ _ _ h => h) rfl (v_indexA0 (j := 5) rfl rfl rfl Try.underlying64 (by kernel_rfl) (by first | assumption | omega)) ?_
          simp only [Act.put, pA, pB, pC]
          refine wpB_take (i := 13) (by kernel_rfl) rfl (by kernel_rfl) (fun _ _ _ h => h) rfl (v_cell rfl rfl Try.underlying38 rfl (Env.cellv (i := 0) hE2 rfl (ints_get? _ _ _ (by first | assumption | omega | (simp; done) | (simp; omega))))) ?_
          simp only [Act.put, pA, pB, pC]
          rw [A5.out]
          refine wpB_take (i := 14) (by kernel_rfl) rfl (by kernel_rfl) (fun _ _ _ h => h) rfl (v_band rfl rfl rfl b4 b5 (w_and rfl b4)) ?_
          simp only [Act.put, pA, pB, pC]
          refine wpB_take (i := 15) (by kernel_rfl) rfl (by kernel_rfl) (fun _ _ _ h => h) rfl (v_moveT (.inl rfl) rfl) ?_
          simp only [Act.put, pA, pB, pC]
          refine wpB_take (i := 16) (by kernel_rfl) rfl (by kernel_rfl) (fun _ _ _ h => h) rfl (v_compl rfl rfl rfl b4) ?_
          simp only [Act.put, pA, pB, pC]
          refine wpB_take (i := 17) (by kernel_rfl) rfl (by kernel_rfl) (fun _ _ _ h => h) rfl (v_indexA0 (j := 6) rfl rfl rfl Try.underlying64 (by kernel_rfl) (by first | assumption | omega)) ?_
          simp only [Act.put, pA, pB, pC]
          refine wpB_take (i := 18) (by kernel_rfl) rfl (by kernel_rfl) (fun _ _ _ h => h) rfl (v_cell rfl rfl Try.underlying38 rfl (Env.cellv (i := 0) hE2 rfl (ints_get? _ _ _ (by first | assumption | omega | (simp; done) | (simp; omega))))) ?_
          simp only [Act.put, pA, pB, pC]
          rw [A6.out]
          refine wpB_take (i := 19) (by kernel_rfl) rfl (by kernel_rfl) (fun _ _ _ h => h) rfl (v_band rfl rfl rfl cn b6 (w_and rfl cn)) ?_
          simp only [Act.put, pA, pB, pC]
          refine wpB_take (i := 20) (by kernel_rfl) rfl (by kernel_rfl) (fun _ _ _ h => h) rfl (v_bxor rfl rfl rfl c1 c2 (w_xor rfl c1 c2)) ?_
          simp only [Act.put, pA, pB, pC]
          rw [He3.out]
          refine wpB_take (i := 22) (by kernel_rfl) rfl (by kernel_rfl) (fun _ _ _ h => h) rfl (v_moveT (.inl rfl) rfl) ?_
          simp only [Act.put, pA, pB, pC]
          refine wpB_take (i := 23) (by kernel_rfl) rfl (by kernel_rfl) (fun _ _ _ h => h) rfl (v_moveT (.inl rfl) rfl) ?_
          simp only [Act.put, pA, pB, pC]
          refine wpB_take (i := 24) (by kernel_rfl) rfl (by kernel_rfl) (fun _ _ _ h => h) rfl (v_nil rfl rfl) ?_
          simp only [Act.put, pA, pB, pC]
          refine wpB_take (i := 25) (by kernel_rfl) rfl (by kernel_rfl) (fun _ _ _ h => h) rfl (v_indexA0 rfl rfl rfl Try.underlying79 (by kernel_rfl) (by first | assumption | omega)) ?_
          simp only [Act.put, pA, pB, pC]
          refine wpB_take (i := 26) (by kernel_rfl) rfl (by kernel_rfl) (fun _ _ _ h => h) rfl (v_cell rfl rfl Try.underlying38 rfl (fun w1 hb => Hhkn.out w1 (hE2.below.trans (hb.mono hE2.below.size)))) ?_
          simp only [Act.put, pA, pB, pC]
          refine wpB_take (i := 28) (by kernel_rfl) rfl (by kernel_rfl) (fun _ _ _ h => h) rfl (v_moveT (.inl rfl) rfl) ?_
          simp only [Act.put, pA, pB, pC]
          refine wpB_take (i := 29) (by kernel_rfl) rfl (by kernel_rfl) (fun _ _ _ h => h) rfl (v_indexA0 rfl rfl rfl Try.underlying79 (by kernel_rfl) (by first | assumption | omega)) ?_
          simp only [Act.put, pA, pB, pC]
          refine wpB_take (i := 30) (by kernel_rfl) rfl (by kernel_rfl) (fun _ _ _ h => h) rfl (v_cell rfl rfl Try.underlying38 rfl (Env.cellv (i := 1) hE2 rfl (ints_get? _ _ _ (by first | assumption | omega | (simp; done) | (simp; omega))))) ?_
          simp only [Act.put, pA, pB, pC]
          rw [Hhww.out]
          refine wpB_step (i := 3) (by kernel_rfl) rfl (st_gives hE2 rfl (run_call rfl Try.call69) (T1.out _) ?_)
          intro w3 hb3 hE3
          clear hE2
          refine ⟨fun _ => hb3, ?_⟩
          simp only [Act.put, pA, pB, pC]
          refine wpB_step (i := 5) (by kernel_rfl) rfl (st_gives hE3 rfl (run_call rfl Try.call69) (T2.out _) ?_)
          intro w4 hb4 hE4
          clear hE3
          refine ⟨fun _ => hb4, ?_⟩
          simp only [Act.put, pA, pB, pC]
          refine wpB_take (i := 6) (by kernel_rfl) rfl (by kernel_rfl) (fun _ _ _ h => h) rfl (v_bxor rfl rfl rfl r1 r2 (w_xor rfl r1 r2)) ?_
          simp only [Act.put, pA, pB, pC]
          refine wpB_step (i := 8) (by kernel_rfl) rfl (st_gives hE4 rfl (run_call rfl Try.call69) (T3.out _) ?_)
          intro w5 hb5 hE5
          clear hE4
          refine ⟨fun _ => hb5, ?_⟩
          simp only [Act.put, pA, pB, pC]
          refine wpB_take (i := 9) (by kernel_rfl) rfl (by kernel_rfl) (fun _ _ _ h => h) rfl (v_bxor rfl rfl rfl x1 r3 (w_xor rfl x1 r3)) ?_
          simp only [Act.put, pA, pB, pC]
          rw [He1.out]
          refine wpB_take (i := 10) (by kernel_rfl) rfl (by kernel_rfl) (fun _ _ _ h => h) rfl (v_add rfl rfl rfl (w_u64m _)) ?_
          simp only [Act.put, pA, pB, pC]
          refine wpB_take (i := 21) (by kernel_rfl) rfl (by kernel_rfl) (fun _ _ _ h => h) rfl (v_add rfl rfl rfl (w_u64m _)) ?_
          simp only [Act.put, pA, pB, pC]
          refine wpB_take (i := 27) (by kernel_rfl) rfl (by kernel_rfl) (fun _ _ _ h => h) rfl (v_add rfl rfl rfl (w_u64m _)) ?_
          simp only [Act.put, pA, pB, pC]
          rw [Hhsum.out]
          refine wpB_take (i := 31) (by kernel_rfl) rfl (by kernel_rfl) (fun _ _ _ h => h) rfl (v_add rfl rfl rfl (w_u64m _)) ?_
          simp only [Act.put, pA, pB, pC]
          rw [Hhsum2.out]
          refine wpB_step (i := 32) (by kernel_rfl) rfl (st_val rfl (v_moveT (.inr rfl) rfl) ?_)
          refine ⟨fun _ => Below.refl _ _, ?_⟩
          simp only [Act.put, pA, pB, pC]
          refine wpB_done (by kernel_rfl) ?_ _
          repeat ((fail_if_success with_reducible show wA ..); (fail_if_success with_reducible show wB ..); go_step)
          refine wp_region_B (n := 25) 24 (by kernel_rfl) rfl hE5 ?_
          intro w6 hb6 hE6
          clear hE5
          refine wpB_take (i := 0) (by kernel_rfl) rfl (by kernel_rfl) (fun _ _ _ h => h) rfl (v_moveT (.inl rfl) rfl) ?_
          simp only [Act.put, pA, pB, pC]
          refine wpB_take (i := 2) (by kernel_rfl) rfl (by kernel_rfl) (fun _ _ _ h => h) rfl (v_moveT (.inl rfl) rfl) ?_
          simp only [Act.put, pA, pB, pC]
          refine wpB_take (i := 5) (by kernel_rfl) rfl (by kernel_rfl) (fun _ _ _ h => h) rfl (v_moveT (.inl rfl) rfl) ?_
          simp only [Act.put, pA, pB, pC]
          refine wpB_take (i := 8) (by kernel_rfl) rfl (by kernel_rfl) (fun _ _ _ h => h) rfl (v_moveT (.inl rfl) rfl) ?_
          simp only [Act.put, pA, pB, pC]
          refine wpB_take (i := 9) (by kernel_rfl) rfl (by kernel_rfl) (fun _ _ _ h => h) rfl (v_indexA0 (j := 1) rfl rfl rfl Try.underlying64 (by kernel_rfl) (by first | assumption | omega)) ?_
          simp only [Act.put, pA, pB, pC]
          refine wpB_take (i := 10) (by kernel_rfl) rfl (by kernel_rfl) (fun _ _ _ h => h) rfl (v_cell rfl rfl Try.underlying38 rfl (Env.cellv (i := 0) hE6 rfl (ints_get? _ _ _ (by first | assumption | omega | (simp; done) | (simp; omega))))) ?_
          simp only [Act.put, pA, pB, pC]
          rw [A1.out]
          refine wpB_take (i := 11) (by kernel_rfl) rfl (by kernel_rfl) (fun _ _ _ h => h) rfl (v_band rfl rfl rfl b0 b1 (w_and rfl b0)) ?_
          simp only [Act.put, pA, pB, pC]
          refine wpB_take (i := 12) (by kernel_rfl) rfl (by kernel_rfl) (fun _ _ _ h => h) rfl (v_moveT (.inl rfl) rfl) ?_
          simp only [Act.put, pA, pB, pC]
          refine wpB_take (i := 13) (by kernel_rfl) rfl (by kernel_rfl) (fun _ _ _ h => h) rfl (v_indexA0 (j := 2) rfl rfl rfl Try.underlying64 (by kernel_rfl) (by first | assumption | omega)) ?_
          simp only [Act.put, pA, pB, pC]
          refine wpB_take (i := 14) (by kernel_rfl) rfl (by kernel_rfl) (fun _ _ _ h => h) rfl (v_cell rfl rfl Try.underlying38 rfl (Env.cellv (i := 0) hE6 rfl (ints_get? _ _ _ (by first | assumption | omega | (simp; done) | (simp; omega))))) ?_
          simp only [Act.put, pA, pB, pC]
          rw [A2.out]
          refine wpB_take (i := 15) (by kernel_rfl) rfl (by kernel_rfl) (fun _ _ _ h => h) rfl (v_band rfl rfl rfl b0 b2 (w_and rfl b0)) ?_
          simp only [Act.put, pA, pB, pC]
          refine wpB_take (i := 16) (by kernel_rfl) rfl (by kernel_rfl) (fun _ _ _ h => h) rfl (v_bxor rfl rfl rfl d1 d2 (w_xor rfl d1 d2)) ?_
          simp only [Act.put, pA, pB, pC]
          refine wpB_take (i := 17) (by kernel_rfl) rfl (by kernel_rfl) (fun _ _ _ h => h) rfl (v_indexA0 (j := 1) rfl rfl rfl Try.underlying64 (by kernel_rfl) (by first | assumption | omega)) ?_
          simp only [Act.put, pA, pB, pC]
          refine wpB_take (i := 18) (by kernel_rfl) rfl (by kernel_rfl) (fun _ _ _ h => h) rfl (v_cell rfl rfl Try.underlying38 rfl (Env.cellv (i := 0) hE6 rfl (ints_get? _ _ _ (by first | assumption | omega | (simp; done) | (simp; omega))))) ?_
          simp only [Act.put, pA, pB, pC]
          rw [A1.out]
          refine wpB_take (i := 19) (by kernel_rfl) rfl (by kernel_rfl) (fun _ _ _ h => h) rfl (v_indexA0 (j := 2) rfl rfl rfl Try.underlying64 (by kernel_rfl) (by first | assumption | omega)) ?_
          simp only [Act.put, pA, pB, pC]
          refine wpB_take (i := 20) (by kernel_rfl) rfl (by kernel_rfl) (fun _ _ _ h => h) rfl (v_cell rfl rfl Try.underlying38 rfl (Env.cellv (i := 0) hE6 rfl (ints_get? _ _ _ (by first | assumption | omega | (simp; done) | (simp; omega))))) ?_
          simp only [Act.put, pA, pB, pC]
          rw [A2.out]
          refine wpB_take (i := 21) (by kernel_rfl) rfl (by kernel_rfl) (fun _ _ _ h => h) rfl (v_band rfl rfl rfl b1 b2 (w_and rfl b1)) ?_
          simp only [Act.put, pA, pB, pC]
          refine wpB_take (i := 22) (by kernel_rfl) rfl (by kernel_rfl) (fun _ _ _ h => h) rfl (v_bxor rfl rfl rfl d4 d3 (w_xor rfl d4 d3)) ?_
          simp only [Act.put, pA, pB, pC]
          rw [He4.out]
          refine wpB_step (i := 1) (by kernel_rfl) rfl (st_gives hE6 rfl (run_call rfl Try.call69) (T4.out _) ?_)
          intro w7 hb7 hE7
          clear hE6
          refine ⟨fun _ => hb7, ?_⟩
          simp only [Act.put, pA, pB, pC]
          refine wpB_step (i := 3) (by kernel_rfl) rfl (st_gives hE7 rfl (run_call rfl Try.call69) (T5.out _) ?_)
          intro w8 hb8 hE8
          clear hE7
          refine ⟨fun _ => hb8, ?_⟩
          simp only [Act.put, pA, pB, pC]
          refine wpB_take (i := 4) (by kernel_rfl) rfl (by kernel_rfl) (fun _ _ _ h => h) rfl (v_bxor rfl rfl rfl r4 r5 (w_xor rfl r4 r5)) ?_
          simp only [Act.put, pA, pB, pC]
          refine wpB_step (i := 6) (by kernel_rfl) rfl (st_gives hE8 rfl (run_call rfl Try.call69) (T6.out _) ?_)
          intro w9 hb9 hE9
          clear hE8
          refine ⟨fun _ => hb9, ?_⟩
          simp only [Act.put, pA, pB, pC]
          refine wpB_take (i := 7) (by kernel_rfl) rfl (by kernel_rfl) (fun _ _ _ h => h) rfl (v_bxor rfl rfl rfl x2 r6 (w_xor rfl x2 r6)) ?_
          simp only [Act.put, pA, pB, pC]
          rw [He2.out]
          refine wpB_take (i := 23) (by kernel_rfl) rfl (by kernel_rfl) (fun _ _ _ h => h) rfl (v_add rfl rfl rfl (w_u64m _)) ?_
          simp only [Act.put, pA, pB, pC]
          rw [HhUU.out]
          refine wpB_step (i := 24) (by kernel_rfl) rfl (st_val rfl (v_moveT (.inr rfl) rfl) ?_)
          refine ⟨fun _ => Below.refl _ _, ?_⟩
          simp only [Act.put, pA, pB, pC]
          refine wpB_done (by kernel_rfl) ?_ _
          repeat ((fail_if_success with_reducible show wA ..); (fail_if_success with_reducible show wB ..); go_step)
          refine wv (v_moveT (.inl rfl) rfl) ?_
          simp only [Act.put, pA, pB, pC]
          refine wv (v_moveT (.inl rfl) rfl) ?_
          simp only [Act.put, pA, pB, pC]
          refine wv (v_add rfl rfl rfl (w_u64m _)) ?_
          simp only [Act.put, pA, pB, pC]
          rw [HhB0.out]
          refine wv (v_indexA0 (j := 0) rfl rfl rfl Try.underlying64 (by kernel_rfl) (by first | assumption | omega)) ?_
          simp only [Act.put, pA, pB, pC]
          refine wv (v_cell rfl rfl Try.underlying38 rfl (Env.cellv (i := 0) hE9 rfl (ints_get? _ _ _ (by first | assumption | omega | (simp; done) | (simp; omega))))) ?_
          simp only [Act.put, pA, pB, pC]
          rw [A0.out]
          refine wv (v_indexA0 (j := 1) rfl rfl rfl Try.underlying64 (by kernel_rfl) (by first | assumption | omega)) ?_
          simp only [Act.put, pA, pB, pC]
          refine wv (v_cell rfl rfl Try.underlying38 rfl (Env.cellv (i := 0) hE9 rfl (ints_get? _ _ _ (by first | assumption | omega | (simp; done) | (simp; omega))))) ?_
          simp only [Act.put, pA, pB, pC]
          rw [A1.out]
          refine wv (v_indexA0 (j := 2) rfl rfl rfl Try.underlying64 (by kernel_rfl) (by first | assumption | omega)) ?_
          simp only [Act.put, pA, pB, pC]
          refine wv (v_cell rfl rfl Try.underlying38 rfl (Env.cellv (i := 0) hE9 rfl (ints_get? _ _ _ (by first | assumption | omega | (simp; done) | (simp; omega))))) ?_
          simp only [Act.put, pA, pB, pC]
          rw [A2.out]
          refine wv (v_indexA0 (j := 3) rfl rfl rfl Try.underlying64 (by kernel_rfl) (by first | assumption | omega)) ?_
          simp only [Act.put, pA, pB, pC]
          refine wv (v_cell rfl rfl Try.underlying38 rfl (Env.cellv (i := 0) hE9 rfl (ints_get? _ _ _ (by first | assumption | omega | (simp; done) | (simp; omega))))) ?_
          simp only [Act.put, pA, pB, pC]
          rw [A3.out]
          refine wv (v_moveT (.inl rfl) rfl) ?_
          simp only [Act.put, pA, pB, pC]
          refine wv (v_add rfl rfl rfl (w_u64m _)) ?_
          simp only [Act.put, pA, pB, pC]
          rw [HhB4.out]
          refine wv (v_indexA0 (j := 4) rfl rfl rfl Try.underlying64 (by kernel_rfl) (by first | assumption | omega)) ?_
          simp only [Act.put, pA, pB, pC]
          refine wv (v_cell rfl rfl Try.underlying38 rfl (Env.cellv (i := 0) hE9 rfl (ints_get? _ _ _ (by first | assumption | omega | (simp; done) | (simp; omega))))) ?_
          simp only [Act.put, pA, pB, pC]
          rw [A4.out]
          refine wv (v_indexA0 (j := 5) rfl rfl rfl Try.underlying64 (by kernel_rfl) (by first | assumption | omega)) ?_
          simp only [Act.put, pA, pB, pC]
          refine wv (v_cell rfl rfl Try.underlying38 rfl (Env.cellv (i := 0) hE9 rfl (ints_get? _ _ _ (by first | assumption | omega | (simp; done) | (simp; omega))))) ?_
          simp only [Act.put, pA, pB, pC]
          rw [A5.out]
          refine wv (v_indexA0 (j := 6) rfl rfl rfl Try.underlying64 (by kernel_rfl) (by first | assumption | omega)) ?_
          simp only [Act.put, pA, pB, pC]
          refine wv (v_cell rfl rfl Try.underlying38 rfl (Env.cellv (i := 0) hE9 rfl (ints_get? _ _ _ (by first | assumption | omega | (simp; done) | (simp; omega))))) ?_
          simp only [Act.put, pA, pB, pC]
          rw [A6.out]
          refine wv (v_built (k := .u64) (l := [B0, a0, a1, a2, B4, a4, a5, a6]) rfl (fun w => by kernel_rfl)) ?_
          simp only [Act.put, pA, pB, pC]
          refine wl_step (st_store (i := 0) hE9 rfl rfl rfl rfl rfl (szA (n := 8)) (by first | (simp only [ints_size, digs_length, List.length_replicate, List.length_cons, List.length_nil]; done) | (simp only [ints_size, digs_length, List.length_replicate, List.length_cons, List.length_nil, List.length_set, List.length_append]; omega) | rfl) (by first | exact ints_one _ _ | decide | rfl | simp [*]) ?_)
          intro w10 hE10
          clear hE9
          simp only [pB, pC] at hE10
          simp only [Act.put, pA, pB, pC]
          rw [← Hhnext.out] at hE10
          repeat ((fail_if_success with_reducible show wA ..); (fail_if_success with_reducible show wB ..); go_step)
          refine wv (v_add (n := 1) rfl rfl rfl (w_i64 (by omega))) ?_
          simp only [Act.put, pA, pB, pC]
          refine wv (v_moveT (.inl rfl) rfl) ?_
          simp only [Act.put, pA, pB, pC]
          go_wp2
          go_roundw
          case rel => exact ⟨n + 1, by omega, rfl, hE10⟩
          case measure => simp [intOf]; omega
        · have hn' : n = 80 := by omega
          subst hn'
          have hBg := Bl.out
          obtain ⟨V, hV⟩ : ∃ V, R 80 = V := ⟨_, rfl⟩
          rw [hV] at hE0 hVl hBg
          have HBg := Lib.hid hBg
          have hm0 : h = mixAt B h 0 := rfl
          have hm8 : mixAt B h 8 = B := by
            unfold mixAt
            rw [List.take_of_length_le (by omega), List.drop_of_length_le (by omega), List.append_nil]
          have Hm8 := Lib.hid hm8
          clear hBg hV hm8
          repeat ((fail_if_success with_reducible show wA ..); (fail_if_success with_reducible show wB ..); go_step)
          refine wv (v_lss (n := 80) rfl rfl rfl) ?_
          simp only [Act.put, pA, pB, pC]
          repeat ((fail_if_success with_reducible show wA ..); (fail_if_success with_reducible show wB ..); go_step)
          refine wv (v_moveC (.inl rfl)) ?_
          simp only [Act.put, pA, pB, pC]
          have hst : Env w [⟨g3, 64, ints .u64 V⟩, ⟨g2, 79, ints .u64 W⟩, ⟨g1, 64, ints .u64 (List.replicate 8 0)⟩, ⟨g0, 64, ints .u64 (mixAt B h 0)⟩] wr := hE0
          clear hm0 hE0
          go_wp2
          go_loopw [156] (fun i wr => ∃ n : Nat, n ≤ 8 ∧ i = .int .i64 n ∧ Env w [⟨g3, 64, ints .u64 V⟩, ⟨g2, 79, ints .u64 W⟩, ⟨g1, 64, ints .u64 (List.replicate 8 0)⟩, ⟨g0, 64, ints .u64 (mixAt B h n)⟩] wr) (fun i _ => 8 - (intOf i).toNat)
          case atStart => exact ⟨0, Nat.zero_le _, rfl, hst⟩
          case round =>
            clear hst
            obtain ⟨n, hn, rfl, hE0⟩ := hrel
            have hml := mixAt_len hB8 hh hn
            by_cases hn8 : n < 8
            · have hg := mixAt_get (h := h) hB8 hn8
              have hs := mixAt_set hB8 hh hn8
              rw [HBg.out n hn8] at hs
              obtain ⟨M, hM⟩ : ∃ M, mixAt B h n = M := ⟨_, rfl⟩
              rw [hM] at hg hs hml hE0
              have HG := Lib.hid hg
              have HS := Lib.hid hs
              clear hg hs hM
              repeat ((fail_if_success with_reducible show wA ..); (fail_if_success with_reducible show wB ..); go_step)
              refine wv (v_lss (n := 8) rfl rfl rfl) ?_
              simp only [Act.put, pA, pB, pC]
              repeat ((fail_if_success with_reducible show wA ..); (fail_if_success with_reducible show wB ..); go_step)
              refine wv (v_moveT (.inl rfl) rfl) ?_
              simp only [Act.put, pA, pB, pC]
              refine wv (v_moveT (.inr rfl) rfl) ?_
              simp only [Act.put, pA, pB, pC]
              repeat ((fail_if_success with_reducible show wA ..); (fail_if_success with_reducible show wB ..); go_step)
              refine wp_region_B (n := 9) 8 (by kernel_rfl) rfl hE0 ?_
              intro w1 hb1 hE1
              clear hE0
              refine wpB_take (i := 0) (by kernel_rfl) rfl (by kernel_rfl) (fun _ _ _ h => h) rfl (v_moveT (.inl rfl) rfl) ?_
              simp only [Act.put, pA, pB, pC]
              refine wpB_take (i := 1) (by kernel_rfl) rfl (by kernel_rfl) (fun _ _ _ h => h) rfl (v_indexA0 rfl rfl rfl Try.underlying64 (by kernel_rfl) (by first | assumption | omega)) ?_
              simp only [Act.put, pA, pB, pC]
              refine wpB_take (i := 2) (by kernel_rfl) rfl (by kernel_rfl) (fun _ _ _ h => h) rfl (v_cell rfl rfl Try.underlying38 rfl (Env.cellv (i := 3) hE1 rfl (ints_get? _ _ _ (by first | assumption | omega | (simp; done) | (simp; omega))))) ?_
              simp only [Act.put, pA, pB, pC]
              rw [HG.out]
              refine wpB_take (i := 3) (by kernel_rfl) rfl (by kernel_rfl) (fun _ _ _ h => h) rfl (v_moveT (.inl rfl) rfl) ?_
              simp only [Act.put, pA, pB, pC]
              refine wpB_take (i := 4) (by kernel_rfl) rfl (by kernel_rfl) (fun _ _ _ h => h) rfl (v_indexA0 rfl rfl rfl Try.underlying64 (by kernel_rfl) (by first | assumption | omega)) ?_
              simp only [Act.put, pA, pB, pC]
              refine wpB_take (i := 5) (by kernel_rfl) rfl (by kernel_rfl) (fun _ _ _ h => h) rfl (v_cell rfl rfl Try.underlying38 rfl (Env.cellv (i := 0) hE1 rfl (ints_get? _ _ _ (by first | assumption | omega | (simp; done) | (simp; omega))))) ?_
              simp only [Act.put, pA, pB, pC]
              refine wpB_take (i := 6) (by kernel_rfl) rfl (by kernel_rfl) (fun _ _ _ h => h) rfl (v_add rfl rfl rfl (w_u64m _)) ?_
              simp only [Act.put, pA, pB, pC]
              refine wpB_take (i := 7) (by kernel_rfl) rfl (by kernel_rfl) (fun _ _ _ h => h) rfl (v_indexA0 rfl rfl rfl Try.underlying64 (by kernel_rfl) (by first | assumption | omega)) ?_
              simp only [Act.put, pA, pB, pC]
              refine wpB_step (i := 8) (by kernel_rfl) rfl (st_putN (i := 3) hE1 rfl rfl rfl rfl rfl (by kernel_rfl) (by first | assumption | omega | (simp only [List.length_set, List.length_replicate]; first | assumption | omega)) ?_)
              intro w2 hE2
              clear hE1
              simp only [pB, pC] at hE2
              refine ⟨fun h => absurd h (by decide), ?_⟩
              simp only [Act.put, pA, pB, pC]
              refine wpB_done (by kernel_rfl) ?_ _
              rw [HS.out] at hE2
              repeat ((fail_if_success with_reducible show wA ..); (fail_if_success with_reducible show wB ..); go_step)
              refine wv (v_add (n := 1) rfl rfl rfl (w_i64 (by omega))) ?_
              simp only [Act.put, pA, pB, pC]
              refine wv (v_moveT (.inl rfl) rfl) ?_
              simp only [Act.put, pA, pB, pC]
              go_wp2
              go_roundw
              case rel => exact ⟨n + 1, by omega, rfl, hE2⟩
              case measure => simp [intOf]; omega
            · have hn' : n = 8 := by omega
              subst hn'
              rw [Hm8.out] at hE0
              repeat ((fail_if_success with_reducible show wA ..); (fail_if_success with_reducible show wB ..); go_step)
              refine wv (v_lss (n := 8) rfl rfl rfl) ?_
              simp only [Act.put, pA, pB, pC]
              repeat ((fail_if_success with_reducible show wA ..); (fail_if_success with_reducible show wB ..); go_step)
              refine wv (v_load (i := 3) hE0 rfl rfl rfl Try.underlying64 rfl (szA (n := 8))) ?_
              simp only [Act.put, pA, pB, pC]
              refine wl_step (st_store (i := 2) hE0 rfl rfl rfl rfl rfl (szA (n := 8)) (by first | (simp only [ints_size, digs_length, List.length_replicate, List.length_cons, List.length_nil]; done) | (simp only [ints_size, digs_length, List.length_replicate, List.length_cons, List.length_nil, List.length_set, List.length_append]; omega) | rfl) (by first | exact ints_one _ _ | decide | rfl | simp [*]) ?_)
              intro w1 hE1
              clear hE0
              simp only [pB, pC] at hE1
              simp only [Act.put, pA, pB, pC]
              repeat ((fail_if_success with_reducible show wA ..); (fail_if_success with_reducible show wB ..); go_step)
              refine bodyPost_ret (results_cell_row rfl _ _ _ _ _ (0, 0) _ rfl (hE1.get (i := 2) rfl) Try.underlying64 rfl (szA (n := 8))) rfl ⟨rfl, hE1.below⟩
end Go.Proofs.Ythddoelflmoedaa
