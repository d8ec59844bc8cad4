/-
  Layer 3, plain: the state's words as bytes, one behind the other; what stood there before; blocks in another order.
  Layer 3, the document's: what tells one of the two sums from the other; words turned.
  Layer 3, the document's: a block's effect on a state.
  Layer 3, the document's: a kind's cells.
  Layer 3, the document's: the greater kind.
-/
import Derived.Test.YthddoelflmoedaaGreatJ09
import Derived.Test.YthddoelflmoedaaGreatJ18
import Derived.Test.YthddoelflmoedaaGreatJ26
set_option linter.unusedVariables false
set_option linter.unusedSimpArgs false
namespace Go.Proofs.YthddoelflmoedaaGreat
open Go.RowKit
set_option maxRecDepth 100000

theorem nats_ints (k : IntKind) (l : List Nat) : (nats k l).toArray = ints k l := by unfold nats; rw [Array.toArray_toList]
def outAt (k : Nat) (L : List Nat) (n : Nat) : List Nat := outL k (L.take n) ++ List.replicate ((L.length - n) * k) 0
theorem outL_snoc (k : Nat) (L : List Nat) (x : Nat) : outL k (L ++ [x]) = outL k L ++ beD k x := by
 unfold outL
 simp
theorem outAt_len {k : Nat} {L : List Nat} {n : Nat} (h : n ≤ L.length) : (outAt k L n).length = L.length * k := by
 unfold outAt
 rw [List.length_append, outL_len, List.length_replicate, List.length_take, Nat.min_eq_left h, ← Nat.add_mul]
 congr 1
 omega
theorem outAt_put {k : Nat} {L : List Nat} {n : Nat} (h : n < L.length) : putAt (outAt k L n) (k * n) k (L.getD n 0) 0 = outAt k L (n + 1) := by
 unfold putAt outAt
 have h1 : (outL k (L.take n)).length = k * n := by rw [outL_len, List.length_take, Nat.min_eq_left (Nat.le_of_lt h), Nat.mul_comm]
 rw [Nat.add_zero, List.drop_zero, List.take_left' h1, ← h1, List.drop_length_add_append, List.drop_replicate, List.take_succ_eq_append_getElem h, outL_snoc, List.getD_eq_getElem?_getD, List.getElem?_eq_getElem h]
 congr 2
 rw [show L.length - n = (L.length - (n + 1)) + 1 by omega, Nat.add_mul, Nat.one_mul, Nat.add_sub_cancel]
theorem outAt_zero (k : Nat) (L : List Nat) : outAt k L 0 = List.replicate (L.length * k) 0 := by
 unfold outAt outL
 simp
theorem outAt_full (k : Nat) (L : List Nat) : outAt k L L.length = outL k L := by
 unfold outAt
 simp
section
variable {P : Program} {a : Act} {w w0 : World} {l : List Blk} {o : Oper} {v : Value}
end
theorem Ow.lenN {e : TypeId} {k : IntKind} {l : List Nat} {v : Value} {bs : List Blk} (h : Ow e (nats k l) v bs) : ∃ p c, v = .slice p l.length c ∧ l.length ≤ c := by
 obtain ⟨p, c, h1, h2⟩ := h.len
 rw [nats_len] at h1 h2
 exact ⟨p, c, h1, h2⟩
theorem flat_take {rows : List (List Nat)} {j : Nat} (h : j < rows.length) : (rows.take j).flatten ++ rows[j] = (rows.take (j + 1)).flatten := by
 rw [List.take_succ_eq_append_getElem h, List.flatten_append]
 simp
theorem flat_le (rows : List (List Nat)) (j : Nat) : (rows.take j).flatten.length ≤ rows.flatten.length := by
 have h : (rows.take j).flatten ++ (rows.drop j).flatten = rows.flatten := by rw [← List.flatten_append, List.take_append_drop]
 rw [← h, List.length_append]
 omega
theorem flat_Digs {B : Nat} {rows : List (List Nat)} (h : ∀ r ∈ rows, Digs B r) : Digs B rows.flatten := fun x hx => by
 obtain ⟨r, hr, hx⟩ := List.mem_flatten.1 hx
 exact h r hr x hx
end Go.Proofs.YthddoelflmoedaaGreat
namespace Go.Proofs.YthddoelflmoedaaGreat
open Go.RowKit
set_option maxRecDepth 100000

def kcl (k : Kd) (r : Nat) (fv rv : Value) : List Value :=
 [.int .i64 (k.w : Nat), fv, rv, .int .i64 (k.s0.1 : Nat), .int .i64 (k.s0.2.1 : Nat), .int .i64 (k.s0.2.2 : Nat), .int .i64 (k.s1.1 : Nat), .int .i64 (k.s1.2.1 : Nat), .int .i64 (k.s1.2.2 : Nat),
  .int .i64 (k.t0.1 : Nat), .int .i64 (k.t0.2.1 : Nat), .int .i64 (k.t0.2.2 : Nat), .int .i64 (k.t1.1 : Nat), .int .i64 (k.t1.2.1 : Nat), .int .i64 (k.t1.2.2 : Nat), .int .i64 (r : Nat), .int .u64 ((2 ^ k.w - 1 : Nat) : Int)]
section
variable {k : Kd} {r : Nat} {fv rv : Value}
theorem kcl_w : (kcl k r fv rv).toArray[0]? = some (Value.int .i64 (k.w : Nat)) := rfl
theorem kcl_f : (kcl k r fv rv).toArray[1]? = some fv := rfl
theorem kcl_r : (kcl k r fv rv).toArray[2]? = some rv := rfl
theorem kcl_m : (kcl k r fv rv).toArray[15]? = some (Value.int .i64 (r : Nat)) := rfl
theorem kcl_x : (kcl k r fv rv).toArray[16]? = some (Value.int .u64 ((2 ^ k.w - 1 : Nat) : Int)) := rfl
theorem kcl_s0 : ((kcl k r fv rv).toArray.toList.drop 3).take 3 = nats .i64 [k.s0.1, k.s0.2.1, k.s0.2.2] := rfl
theorem kcl_s1 : ((kcl k r fv rv).toArray.toList.drop 6).take 3 = nats .i64 [k.s1.1, k.s1.2.1, k.s1.2.2] := rfl
theorem kcl_t0 : ((kcl k r fv rv).toArray.toList.drop 9).take 3 = nats .i64 [k.t0.1, k.t0.2.1, k.t0.2.2] := rfl
theorem kcl_t1 : ((kcl k r fv rv).toArray.toList.drop 12).take 3 = nats .i64 [k.t1.1, k.t1.2.1, k.t1.2.2] := rfl
end
theorem rr_of {w n x : Nat} (hw : w ≤ 64) (hn : n ≤ w) (hx : x < 2 ^ w) : (x / 2 ^ n ||| x * 2 ^ (w - n) % 18446744073709551616) &&& (2 ^ w - 1) = rr w n x := by
 unfold rr
 rw [Nat.and_two_pow_sub_one_eq_mod, Nat.or_mod_two_pow, Nat.or_comm]
 congr 1
 ·exact Nat.mod_mod_of_dvd _ (by rw [show (18446744073709551616 : Nat) = 2 ^ 64 from rfl]; exact Nat.pow_dvd_pow 2 hw)
 ·exact Nat.mod_eq_of_lt (Nat.lt_of_le_of_lt (Nat.div_le_self _ _) hx)
theorem pow_le64 {w : Nat} (hw : w ≤ 64) : 2 ^ w ≤ 18446744073709551616 := Nat.pow_le_pow_right (by decide) hw

set_option maxRecDepth 100000 in
set_option maxHeartbeats 4000000 in
theorem kright_any {k : Kd} {r n x : Nat} {fv rv : Value} (hw : k.w ≤ 64) (hn : n ≤ k.w) (hx : x < 2 ^ k.w) (w : World) :
  Gives 120 #[.agg (kcl k r fv rv).toArray, .int .u64 (x : Nat), .int .i64 (n : Nat)] w (.int .u64 (rr k.w n x : Nat)) := by
 have hp := pow_le64 hw
 have b1 : x / 2 ^ n < 2 ^ IntKind.u64.bits := Nat.lt_of_le_of_lt (Nat.div_le_self _ _) (Nat.lt_of_lt_of_le hx hp)
 have b2 : x * 2 ^ (k.w - n) % 18446744073709551616 < 2 ^ IntKind.u64.bits := Nat.mod_lt _ (by decide)
 have b3 : (x / 2 ^ n ||| x * 2 ^ (k.w - n) % 18446744073709551616) < 2 ^ IntKind.u64.bits := Nat.or_lt_two_pow b1 b2
 have b4 : 2 ^ k.w - 1 < 2 ^ IntKind.u64.bits := by
  have : 0 < 2 ^ k.w := Nat.pow_pos (by decide)
  exact Nat.lt_of_lt_of_le (by omega) hp
 have s1 : n ≤ IntKind.u64.bits := Nat.le_trans hn hw
 have s2 : k.w - n ≤ IntKind.u64.bits := Nat.le_trans (Nat.sub_le _ _) hw
 have E := Lib.hid (rr_of hw hn hx)
 have hwl : k.w < 9223372036854775808 := by omega
 clear hx hp
 have hE0 := Env.nil w
 go_enter Tryz.func120, Tryz.ntmps120
 repeat ((fail_if_success refine sqx ?_); go_step)
 refine wl_step (st_boxA hE0 rfl rfl rfl ?_)
 intro g0 w1 hb1 hE1
 clear hE0
 simp only [qZ]
 refine mqC ?_
 repeat ((fail_if_success refine sqx ?_); go_step)
 refine wp_region_B (n := 14) 13 (by kernel_rfl) rfl hE1 ?_
 intro w2 hb2 hE2
 clear hE1
 refine tqB 0 rfl (v_moveT (.inl rfl) rfl) ?_
 refine tqB 1 rfl (v_moveT (.inl rfl) rfl) ?_
 refine tqB 2 rfl (v_shr rfl rfl rfl s1) ?_
 refine tqB 3 rfl (v_moveT (.inl rfl) rfl) ?_
 refine tqB 4 rfl (v_field0 (s := 0) rfl rfl Tryz.underlying135 rfl (by kernel_rfl) rfl) ?_
 refine tqB 5 rfl (v_cellB (i := 0) hE2 rfl rfl rfl Tryz.underlying3 rfl kcl_w) ?_
 refine tqB 6 rfl (v_moveT (.inl rfl) rfl) ?_
 refine tqB 7 rfl (v_sub rfl rfl rfl (w_i64s hn hwl)) ?_
 refine tqB 8 rfl (v_shl rfl rfl rfl s2 (w_u64m _)) ?_
 refine tqB 9 rfl (v_bor rfl rfl rfl b1 b2 (w_or rfl b1 b2)) ?_
 refine tqB 10 rfl (v_fieldB (s := 0) rfl rfl Tryz.underlying135 rfl (by kernel_rfl) rfl) ?_
 refine tqB 11 rfl (v_cellB (i := 0) hE2 rfl rfl rfl Tryz.underlying50 rfl kcl_x) ?_
 refine tqB 12 rfl (v_band rfl rfl rfl b3 b4 (w_and rfl b3)) ?_
 rw [E.out]
 refine sqB 13 rfl (st_val rfl (v_moveT (.inr rfl) rfl) ?_)
 refine ⟨fun _ => Below.refl _ _, ?_⟩
 simp only [qZ]
 refine wpB_done (by kernel_rfl) ?_ _
 repeat ((fail_if_success refine sqx ?_); go_step)
 go_returns
 exact ⟨rfl, hE2.below⟩

set_option maxRecDepth 100000 in
set_option maxHeartbeats 4000000 in
theorem kbig_any {k : Kd} {r x : Nat} {t : Nat × Nat × Nat} {fv rv : Value} (hw : k.w ≤ 64) (h1 : t.1 ≤ k.w) (h2 : t.2.1 ≤ k.w) (h3 : t.2.2 ≤ k.w) (hx : x < 2 ^ k.w) (w : World) :
  Gives 119 #[.agg (kcl k r fv rv).toArray, .int .u64 (x : Nat), .agg (ints .i64 [t.1, t.2.1, t.2.2])] w (.int .u64 (bigS k.w t x : Nat)) := by
 obtain ⟨a, b, c⟩ := t
 have hp := pow_le64 hw
 have R1 := Lib.hid (fun w => kright_any (r := r) (fv := fv) (rv := rv) hw h1 hx w)
 have R2 := Lib.hid (fun w => kright_any (r := r) (fv := fv) (rv := rv) hw h2 hx w)
 have R3 := Lib.hid (fun w => kright_any (r := r) (fv := fv) (rv := rv) hw h3 hx w)
 have b1 : rr k.w a x < 2 ^ IntKind.u64.bits := Nat.lt_of_lt_of_le (rr_lt hx) hp
 have b2 : rr k.w b x < 2 ^ IntKind.u64.bits := Nat.lt_of_lt_of_le (rr_lt hx) hp
 have b3 : rr k.w c x < 2 ^ IntKind.u64.bits := Nat.lt_of_lt_of_le (rr_lt hx) hp
 have b4 : rr k.w a x ^^^ rr k.w b x < 2 ^ IntKind.u64.bits := Nat.xor_lt_two_pow b1 b2
 clear hp hx h1 h2 h3 hw
 have hE0 := Env.nil w
 go_enter Tryz.func119, Tryz.ntmps119
 repeat ((fail_if_success refine sqx ?_); go_step)
 refine wl_step (st_boxA hE0 rfl rfl rfl ?_)
 intro g0 w1 hb1 hE1
 clear hE0
 simp only [qZ]
 refine wl_step (st_boxA hE1 rfl rfl rfl ?_)
 intro g1 w2 hb2 hE2
 clear hE1
 simp only [qZ]
 refine mqC ?_
 repeat ((fail_if_success refine sqx ?_); go_step)
 refine wp_region_B (n := 18) 17 (by kernel_rfl) rfl hE2 ?_
 intro w3 hb3 hE3
 clear hE2
 refine tqB 0 rfl (vqL 1 17 hE3 Tryz.underlying135) ?_
 refine tqB 1 rfl (v_moveT (.inl rfl) rfl) ?_
 refine tqB 2 rfl (vqI (j := 0) Tryz.underlying133) ?_
 refine tqB 3 rfl (vqC 0 hE3 Tryz.underlying3) ?_
 refine tqB 5 rfl (vqL 1 17 hE3 Tryz.underlying135) ?_
 refine tqB 6 rfl (v_moveT (.inl rfl) rfl) ?_
 refine tqB 7 rfl (vqI (j := 1) Tryz.underlying133) ?_
 refine tqB 8 rfl (vqC 0 hE3 Tryz.underlying3) ?_
 refine tqB 11 rfl (vqL 1 17 hE3 Tryz.underlying135) ?_
 refine tqB 12 rfl (v_moveT (.inl rfl) rfl) ?_
 refine tqB 13 rfl (vqI (j := 2) Tryz.underlying133) ?_
 refine tqB 14 rfl (vqC 0 hE3 Tryz.underlying3) ?_
 refine sqB 4 rfl (st_gives hE3 rfl (run_call rfl Tryz.call120) (R1.out _) ?_)
 intro w4 hb4 hE4
 clear hE3
 refine ⟨fun _ => hb4, ?_⟩
 simp only [qZ]
 refine sqB 9 rfl (st_gives hE4 rfl (run_call rfl Tryz.call120) (R2.out _) ?_)
 intro w5 hb5 hE5
 clear hE4
 refine ⟨fun _ => hb5, ?_⟩
 simp only [qZ]
 refine tqB 10 rfl (v_bxor rfl rfl rfl b1 b2 (w_xor rfl b1 b2)) ?_
 refine sqB 15 rfl (st_gives hE5 rfl (run_call rfl Tryz.call120) (R3.out _) ?_)
 intro w6 hb6 hE6
 clear hE5
 refine ⟨fun _ => hb6, ?_⟩
 simp only [qZ]
 refine tqB 16 rfl (v_bxor rfl rfl rfl b4 b3 (w_xor rfl b4 b3)) ?_
 refine sqB 17 rfl (st_val rfl (v_moveT (.inr rfl) rfl) ?_)
 refine ⟨fun _ => Below.refl _ _, ?_⟩
 simp only [qZ]
 refine wpB_done (by kernel_rfl) ?_ _
 repeat ((fail_if_success refine sqx ?_); go_step)
 go_returns
 exact ⟨rfl, hE6.below⟩

set_option maxRecDepth 100000 in
set_option maxHeartbeats 4000000 in
theorem ksmall_any {k : Kd} {r x : Nat} {t : Nat × Nat × Nat} {fv rv : Value} (hw : k.w ≤ 64) (h1 : t.1 ≤ k.w) (h2 : t.2.1 ≤ k.w) (h3 : t.2.2 ≤ k.w) (hx : x < 2 ^ k.w) (w : World) :
  Gives 118 #[.agg (kcl k r fv rv).toArray, .int .u64 (x : Nat), .agg (ints .i64 [t.1, t.2.1, t.2.2])] w (.int .u64 (smallS k.w t x : Nat)) := by
 obtain ⟨a, b, c⟩ := t
 have hp := pow_le64 hw
 have R1 := Lib.hid (fun w => kright_any (r := r) (fv := fv) (rv := rv) hw h1 hx w)
 have R2 := Lib.hid (fun w => kright_any (r := r) (fv := fv) (rv := rv) hw h2 hx w)
 have b1 : rr k.w a x < 2 ^ IntKind.u64.bits := Nat.lt_of_lt_of_le (rr_lt hx) hp
 have b2 : rr k.w b x < 2 ^ IntKind.u64.bits := Nat.lt_of_lt_of_le (rr_lt hx) hp
 have b3 : x / 2 ^ c < 2 ^ IntKind.u64.bits := Nat.lt_of_le_of_lt (Nat.div_le_self _ _) (Nat.lt_of_lt_of_le hx hp)
 have b4 : rr k.w a x ^^^ rr k.w b x < 2 ^ IntKind.u64.bits := Nat.xor_lt_two_pow b1 b2
 have s1 : c ≤ IntKind.u64.bits := Nat.le_trans h3 hw
 clear hp hx h1 h2 h3 hw
 have hE0 := Env.nil w
 go_enter Tryz.func118, Tryz.ntmps118
 repeat ((fail_if_success refine sqx ?_); go_step)
 refine wl_step (st_boxA hE0 rfl rfl rfl ?_)
 intro g0 w1 hb1 hE1
 clear hE0
 simp only [qZ]
 refine wl_step (st_boxA hE1 rfl rfl rfl ?_)
 intro g1 w2 hb2 hE2
 clear hE1
 simp only [qZ]
 refine mqC ?_
 repeat ((fail_if_success refine sqx ?_); go_step)
 refine wp_region_B (n := 17) 16 (by kernel_rfl) rfl hE2 ?_
 intro w3 hb3 hE3
 clear hE2
 refine tqB 0 rfl (vqL 1 17 hE3 Tryz.underlying135) ?_
 refine tqB 1 rfl (v_moveT (.inl rfl) rfl) ?_
 refine tqB 2 rfl (vqI (j := 0) Tryz.underlying133) ?_
 refine tqB 3 rfl (vqC 0 hE3 Tryz.underlying3) ?_
 refine tqB 5 rfl (vqL 1 17 hE3 Tryz.underlying135) ?_
 refine tqB 6 rfl (v_moveT (.inl rfl) rfl) ?_
 refine tqB 7 rfl (vqI (j := 1) Tryz.underlying133) ?_
 refine tqB 8 rfl (vqC 0 hE3 Tryz.underlying3) ?_
 refine tqB 11 rfl (v_moveT (.inl rfl) rfl) ?_
 refine tqB 12 rfl (vqI (j := 2) Tryz.underlying133) ?_
 refine tqB 13 rfl (vqC 0 hE3 Tryz.underlying3) ?_
 refine tqB 14 rfl (v_shr (s := c) rfl rfl rfl s1) ?_
 refine sqB 4 rfl (st_gives hE3 rfl (run_call rfl Tryz.call120) (R1.out _) ?_)
 intro w4 hb4 hE4
 clear hE3
 refine ⟨fun _ => hb4, ?_⟩
 simp only [qZ]
 refine sqB 9 rfl (st_gives hE4 rfl (run_call rfl Tryz.call120) (R2.out _) ?_)
 intro w5 hb5 hE5
 clear hE4
 refine ⟨fun _ => hb5, ?_⟩
 simp only [qZ]
 refine tqB 10 rfl (v_bxor rfl rfl rfl b1 b2 (w_xor rfl b1 b2)) ?_
 refine tqB 15 rfl (v_bxor rfl rfl rfl b4 b3 (w_xor rfl b4 b3)) ?_
 refine sqB 16 rfl (st_val rfl (v_moveT (.inr rfl) rfl) ?_)
 refine ⟨fun _ => Below.refl _ _, ?_⟩
 simp only [qZ]
 refine wpB_done (by kernel_rfl) ?_ _
 repeat ((fail_if_success refine sqx ?_); go_step)
 go_returns
 exact ⟨rfl, hE5.below⟩
end Go.Proofs.YthddoelflmoedaaGreat
namespace Go.Proofs.YthddoelflmoedaaGreat
open Go.RowKit
set_option maxRecDepth 100000

structure KOk (k : Kd) : Prop where
 w64 : k.w ≤ 64
 w8 : 256 ^ (k.w / 8) = 2 ^ k.w
 b8 : k.w = 8 * (k.w / 8)
 s0 : k.s0.1 ≤ k.w ∧ k.s0.2.1 ≤ k.w ∧ k.s0.2.2 ≤ k.w
 s1 : k.s1.1 ≤ k.w ∧ k.s1.2.1 ≤ k.w ∧ k.s1.2.2 ≤ k.w
 t0 : k.t0.1 ≤ k.w ∧ k.t0.2.1 ≤ k.w ∧ k.t0.2.2 ≤ k.w
 t1 : k.t1.1 ≤ k.w ∧ k.t1.2.1 ≤ k.w ∧ k.t1.2.2 ≤ k.w
 rl : 16 ≤ k.rounds.length ∧ k.rounds.length ≤ 80
 rb : ∀ j, k.rounds.getD j 0 < 18446744073709551616
theorem k512_ok : KOk k512 := ⟨by decide, by decide, by decide, by decide, by decide, by decide, by decide, by decide, k512_lt⟩

section
variable {P : Program} {ops : Array Oper} {Q : Exit → Act → World → Prop} {a : Act} {w w0 : World} {l : List Blk} {o : Oper} {K : Act → World → Prop}
theorem st_build0 {t e : TypeId} (hE : Env w0 l w) (hw : Region.wanted o (yielded ops a.tmps) = true) (ho : o.op = .buildSlice t 0 #[]) (ht : P.underlying t = some (.slice e)) (hs : (P.info? e).map (·.size) = some 1)
  (kk : ∀ g w1, Below w.heap.size w w1 → Env w0 (⟨g, e, #[]⟩ :: l) w1 → K (a.put o.dst (.slice (some ⟨g, 0, none⟩) 0 0)) w1) : Step P ops Q o K a w := by
 refine st_run (w1 := w.alloc (.cells #[] e)) (v := .slice (some ⟨w.heap.size, 0, none⟩) 0 0) hw ?_ (kk _ _ ((Below.refl _ _).alloc (Nat.le_refl _) _) (hE.alloc e _))
 unfold execOp
 simp [ho, Instr.buildSlice, Sem.run_bind, run_underlying ht, size_run hs, Sem.run_pure, Instr.fill, newRow, newObj, Sem.run]
 congr 2
 apply Array.toList_inj.1
 simp
end
theorem Ow.cells {e : TypeId} {k : IntKind} {l : List Nat} {v : Value} {bs : List Blk} (h : Ow e (nats k l) v bs) (h0 : 0 < l.length) :
  ∃ g c cs, v = .slice (some ⟨g, 0, none⟩) l.length c ∧ bs = [⟨g, e, cs⟩] ∧ ∀ j, j < l.length → cs[j]? = some (.int k (l.getD j 0 : Nat)) := by
 rcases h with ⟨-, h2, -⟩ | ⟨g, cap, cs, h1, h2, h3, h4, h5, rfl⟩
 ·have := congrArg List.length h2
  rw [nats_len] at this
  exact absurd h0 (by rw [this]; decide)
 ·rw [nats_len] at h1 h2 h5
  refine ⟨g, cap, cs, h1, rfl, fun j hj => ?_⟩
  have h6 : (cs.toList.take l.length)[j]? = (nats k l)[j]? := by rw [h5]
  rw [List.getElem?_take, if_pos hj, Array.getElem?_toList] at h6
  rw [h6]
  unfold nats
  rw [Array.getElem?_toList]
  exact ints_get? k l j hj
theorem Ow.of_block {e : TypeId} {k : IntKind} {g : Nat} {l : List Nat} (h : l.length ≤ maxLen) : Ow e (nats k l) (.slice (some ⟨g, 0, none⟩) l.length l.length) [⟨g, e, ints k l⟩] :=
 .inr ⟨g, l.length, ints k l, by rw [nats_len], by rw [nats_len]; exact Nat.le_refl _, h, ints_size _ _, List.take_of_length_le (Nat.le_refl _), rfl⟩
theorem len8 {V : List Nat} (h : V.length = 8) : ∃ a0 a1 a2 a3 a4 a5 a6 a7, V = [a0, a1, a2, a3, a4, a5, a6, a7] := by
 match V, h with
 | [a0, a1, a2, a3, a4, a5, a6, a7], _ => exact ⟨a0, a1, a2, a3, a4, a5, a6, a7, rfl⟩
theorem sumM5 (a b c d e M : Nat) : ((((a + b) % M + c) % M + d) % M + e) % M = (a + b + c + d + e) % M := by simp only [Nat.mod_add_mod]
theorem mod_dvd {w : Nat} (hw : w ≤ 64) (x : Nat) : x % 18446744073709551616 % 2 ^ w = x % 2 ^ w := Nat.mod_mod_of_dvd _ (by rw [show (18446744073709551616 : Nat) = 2 ^ 64 from rfl]; exact Nat.pow_dvd_pow 2 hw)
theorem compl_xor {w e : Nat} (he : e < 2 ^ w) : (2 ^ w - 1) ^^^ e = 2 ^ w - 1 - e := by
 apply Nat.eq_of_testBit_eq
 intro i
 rw [Nat.testBit_xor, Nat.testBit_two_pow_sub_one]
 have h : 2 ^ w - 1 - e = 2 ^ w - (e + 1) := by omega
 rw [h, Nat.testBit_two_pow_sub_succ he]
 by_cases hi : i < w
 ·simp [hi]
 ·have : e.testBit i = false := Nat.testBit_lt_two_pow (Nat.lt_of_lt_of_le he (Nat.pow_le_pow_right (by decide) (by omega)))
  simp [hi, this]
theorem sumM4 (a b c d M : Nat) : (((a + b) % M + c) % M + d) % M = (a + b + c + d) % M := by simp only [Nat.mod_add_mod]
theorem and_mask {w x : Nat} (hw : w ≤ 64) : x % 18446744073709551616 &&& (2 ^ w - 1) = x % 2 ^ w := by
 rw [Nat.and_two_pow_sub_one_eq_mod]
 exact Nat.mod_mod_of_dvd _ (by rw [show (18446744073709551616 : Nat) = 2 ^ 64 from rfl]; exact Nat.pow_dvd_pow 2 hw)

set_option maxRecDepth 100000 in
set_option maxHeartbeats 16000000 in
theorem block_any {k : Kd} {r : Nat} {h m : List Nat} {fv rv hv mv : Value} {w : World} (hk : KOk k) (hh : h.length = 8) (hd : ∀ j, h.getD j 0 < 2 ^ k.w) (hm : m.length = 16 * (k.w / 8)) (dm : Digs 256 m)
  (hR : RdS .u64 k.rounds rv w) (hH : RdS .u64 h hv w) (hM : RdS .u8 m mv w) :
  Calls Tryz.prog 115 #[.agg (kcl k r fv rv).toArray, hv, mv] w fun e w' => ∃ v, e = .returned v ∧ Sl w [] 50 (nats .u64 (blockS k h m)) v w' := by
 obtain ⟨p1, c1, rfl, hc1, -⟩ := id hR
 obtain ⟨p2, c2, rfl, hc2, -⟩ := id hH
 obtain ⟨p3, c3, rfl, hc3, -⟩ := id hM
 obtain ⟨hw64, hw8, hb8, hs0, hs1, ht0, ht1, hrl, hrb⟩ := hk
 obtain ⟨iu, hi, hz, hs, hby⟩ : ∃ i, Tryz.prog.info? 50 = some i ∧ i.zero = some (.int .u64 0) ∧ i.size = 1 ∧ i.bytes = 8 := info_parts (P := Tryz.prog) (by kernel_rfl)
 have Hi := Lib.hid hi
 have Hz := Lib.hid hz
 have Hs := Lib.hid hs
 have Hby := Lib.hid hby
 clear hi hz hs hby
 have hp64 := pow_le64 hw64
 have FS0 := Lib.hid (fun x (hx : x < 2 ^ k.w) w => kbig_any (k := k) (r := r) (t := k.s0) (fv := fv) (rv := .slice p1 k.rounds.length c1) hw64 hs0.1 hs0.2.1 hs0.2.2 hx w)
 have FS1 := Lib.hid (fun x (hx : x < 2 ^ k.w) w => kbig_any (k := k) (r := r) (t := k.s1) (fv := fv) (rv := .slice p1 k.rounds.length c1) hw64 hs1.1 hs1.2.1 hs1.2.2 hx w)
 have FT0 := Lib.hid (fun x (hx : x < 2 ^ k.w) w => ksmall_any (k := k) (r := r) (t := k.t0) (fv := fv) (rv := .slice p1 k.rounds.length c1) hw64 ht0.1 ht0.2.1 ht0.2.2 hx w)
 have FT1 := Lib.hid (fun x (hx : x < 2 ^ k.w) w => ksmall_any (k := k) (r := r) (t := k.t1) (fv := fv) (rv := .slice p1 k.rounds.length c1) hw64 ht1.1 ht1.2.1 ht1.2.2 hx w)
 have HR := Lib.hid hR
 have HH := Lib.hid hH
 have HM := Lib.hid hM
 have HDm := Lib.hid dm
 have Hrb := Lib.hid hrb
 have Hhd := Lib.hid hd
 have Hw8 := Lib.hid hw8
 obtain ⟨N, hN⟩ : ∃ N, k.rounds.length = N := ⟨_, rfl⟩
 obtain ⟨wb, hwb⟩ : ∃ wb, k.w / 8 = wb := ⟨_, rfl⟩
 have HSL := Lib.hid (fun n j => sched_lt (k := k) dm hw8 n j)
 have HN := Lib.hid hN
 have hml := hm
 rw [hN] at hrl FS0 FS1 FT0 FT1 hc1
 rw [hwb] at hml hb8 hw8
 clear hs0 hs1 ht0 ht1 hR hH hM dm hrb hd hm
 rw [hN]
 have hwl : k.w < 9223372036854775808 := by omega
 have hwb8 : wb ≤ 8 := by omega
 have hE0 := Env.nil w
 go_enter Tryz.func115, Tryz.ntmps115
 repeat ((fail_if_success refine sqx ?_); go_step)
 refine wl_step (st_boxA hE0 rfl rfl rfl ?_)
 intro g0 w1 hb1 hE1
 clear hE0
 simp only [qZ]
 refine mqC ?_
 repeat ((fail_if_success refine sqx ?_); go_step)
 refine mqC ?_
 repeat ((fail_if_success refine sqx ?_); go_step)
 refine mqC ?_
 have hst : Env w ([] ++ [⟨g0, 135, (kcl k r fv (.slice p1 N c1)).toArray⟩]) w1 := hE1
 clear hE1
 go_wp2
 go_loopw [7, 8] (fun s i wr => ∃ (n : Nat) (bs : List Blk), n ≤ N ∧ i = .int .i64 n ∧ Hid (Ow 50 (nats .u64 (sched k m n)) s bs) ∧ Env w (bs ++ [⟨g0, 135, (kcl k r fv (.slice p1 N c1)).toArray⟩]) wr) (fun _ i _ => N - (intOf i).toNat)
 case atStart => exact ⟨0, [], Nat.zero_le _, rfl, Lib.hid (Ow.nil _), hst⟩
 case round =>
  clear hst
  obtain ⟨n, bs, hn, rfl, hO, hE⟩ := hrel
  obtain ⟨p4, c4, rfl, hc4⟩ := hO.out.lenN
  have hsl := sched_len k m n
  have hnl : (sched k m n).length < 9223372036854775808 := by omega
  have h63 : (nats .u64 (sched k m n)).length + ([0] : List Nat).length ≤ maxLen := by rw [nats_len, hsl]; simp only [List.length_singleton, maxLen]; omega
  have hfit : ((nats .u64 (sched k m n)).length + ([0] : List Nat).length) * 8 ≤ 140737488355328 := by rw [nats_len, hsl]; simp only [List.length_singleton]; omega
  by_cases hnN : n < N
  ·have d1 := Lib.hid (decide_eq_true hnN)
   have hnx : nats .u64 (sched k m n) ++ nats .u64 [nextW k m (sched k m n)] = nats .u64 (sched k m (n + 1)) := by rw [nats_append]; rfl
   have Hnx := Lib.hid hnx
   clear hnx
   have hE1 := Env.mid.1 hE
   clear hE
   repeat ((fail_if_success refine sqx ?_); go_step)
   refine mqA ?_
   refine wqv (v_fieldB (s := 0) rfl rfl Tryz.underlying135 rfl (by kernel_rfl) rfl) ?_
   refine wqv (v_cellB (i := 0) hE1 rfl rfl rfl Tryz.underlying102 rfl kcl_r) ?_
   refine wqv (v_len rfl rfl Tryz.underlying102 (by omega)) ?_
   refine wqv (v_lss rfl rfl rfl) ?_
   rw [d1.out]
   repeat ((fail_if_success refine sqy ?_); go_step)
   refine cqT ?_
   skip
   repeat ((fail_if_success refine sqx ?_); go_step)
   refine mqC ?_
   by_cases h16 : n < 16
   ·have d2 := Lib.hid (decide_eq_true h16)
    have hnw : nextW k m (sched k m n) = wordAt k.w m n := by unfold nextW; rw [hsl, if_pos h16]
    rw [hnw] at Hnx
    have hblk : n * wb + wb ≤ m.length := by
     rw [hml]
     have : (n + 1) * wb ≤ 16 * wb := Nat.mul_le_mul_right _ h16
     rw [Nat.add_mul, Nat.one_mul] at this
     exact this
    obtain ⟨B, hB⟩ : ∃ B, (m.drop (n * wb)).take wb = B := ⟨_, rfl⟩
    have hBl : B.length = wb := by rw [← hB, List.length_take, List.length_drop]; omega
    have hwat : wordAt k.w m n = beN B := by unfold wordAt; rw [hwb, hB]
    have dB : Digs 256 B := hB ▸ (HDm.out.drop _).take _
    have hBg : ∀ j, j < wb → B.getD j 0 = m.getD (n * wb + j) 0 := fun j hj => by
     rw [← hB, List.getD_eq_getElem?_getD, List.getElem?_take, if_pos hj, List.getElem?_drop, ← List.getD_eq_getElem?_getD]
    have hbt : ∀ j, beN (B.take j) < 256 ^ j := fun j => Nat.lt_of_lt_of_le (beN_lt (dB.take j)) (Nat.pow_le_pow_right (by decide) (List.length_take_le _ _))
    have hstp : ∀ j, j < wb → beN (B.take (j + 1)) = beN (B.take j) * 256 + m.getD (n * wb + j) 0 := fun j hj => by rw [beN_take (by omega), hBg j hj]
    have hfin : beN (B.take wb) = wordAt k.w m n := by rw [hwat, List.take_of_length_le (by omega)]
    have hb0 : beN (B.take 0) = 0 := rfl
    obtain ⟨A, hA⟩ : ∃ A : Nat → Nat, (fun j => beN (B.take j)) = A := ⟨_, rfl⟩
    have hA' : ∀ j, beN (B.take j) = A j := fun j => congrFun hA j
    simp only [hA'] at hbt hstp hfin hb0
    have Hbt := Lib.hid hbt
    have Hstp := Lib.hid hstp
    have Hfin := Lib.hid hfin
    have Hb0 := Lib.hid hb0
    have hmul : n * k.w / 8 = n * wb := by rw [hb8, Nat.mul_left_comm, Nat.mul_div_cancel_left _ (by decide)]
    have Hmul := Lib.hid hmul
    have hnw63 : n * k.w < 9223372036854775808 := by
     have : n * k.w ≤ 16 * 64 := Nat.mul_le_mul (by omega) hw64
     omega
    have hnb63 : n * wb < 1000 := by
     have : n * wb ≤ 16 * 8 := Nat.mul_le_mul (by omega) (by omega)
     omega
    have Hblk := Lib.hid hblk
    have Hq := Lib.hid hwb
    clear hbt hstp hfin hb0 hA hA' hnw hB hwat dB hBg hmul hblk hBl
    repeat ((fail_if_success refine sqx ?_); go_step)
    refine mqA ?_
    refine wqv (v_lss (n := 16) rfl rfl rfl) ?_
    rw [d2.out]
    repeat ((fail_if_success refine sqy ?_); go_step)
    refine cqT ?_
    skip
    repeat ((fail_if_success refine sqx ?_); go_step)
    refine mqC ?_
    obtain ⟨wo, hwo⟩ : ∃ wo : World, wo = wr := ⟨_, rfl⟩
    subst hwo
    go_wp2
    go_loopw [9, 10] (fun s i w2 => ∃ j : Nat, j ≤ wb ∧ i = .int .i64 j ∧ s = .int .u64 (A j : Nat) ∧ Env w (⟨g0, 135, (kcl k r fv (.slice p1 N c1)).toArray⟩ :: (bs ++ [])) w2) (fun _ i _ => wb - (intOf i).toNat)
    case atStart => exact ⟨0, Nat.zero_le _, rfl, by rw [Hb0.out]; rfl, hE1⟩
    case round =>
     clear hE1
     obtain ⟨j, hj, rfl, rfl, hE1⟩ := hrel
     by_cases hjw : j < wb
     ·have hbk := Hbt.out j
      have hb7 : A j < 72057594037927936 := Nat.lt_of_lt_of_le hbk (by
       have : 256 ^ j ≤ 256 ^ 7 := Nat.pow_le_pow_right (by decide) (by omega)
       exact this)
      obtain ⟨b, off, hpo, hcell⟩ := HM.out.at (j := n * wb + j) (by have := Hblk.out; omega)
      subst hpo
      have hcl := HDm.out.getD (by decide) (n * wb + j)
      have hst := Hstp.out j hjw
      obtain ⟨x, hx⟩ : ∃ x, m.getD (n * wb + j) 0 = x := ⟨_, rfl⟩
      rw [hx] at hcell hcl hst
      obtain ⟨y, hy⟩ : ∃ y, A j = y := ⟨_, rfl⟩
      rw [hy] at hst hb7 ⊢
      have hor : y * 256 ||| x = A (j + 1) := by rw [or_byte hcl, hst]
      have hm1 : y * 256 < 2 ^ IntKind.u64.bits := by show _ < 18446744073709551616; omega
      have hm2 : x < 2 ^ IntKind.u64.bits := by show _ < 18446744073709551616; omega
      have hjm : n * wb + j < m.length := by have := Hblk.out; omega
      have Hc := Lib.hid hcell
      have Hor := Lib.hid hor
      have d3 := Lib.hid (decide_eq_true hjw)
      have hq8 : k.w / 8 < 9223372036854775808 := by omega
      clear hcell hst hor hbk hx hy
      repeat ((fail_if_success refine sqx ?_); go_step)
      refine mqA ?_
      refine wqv (v_field0 (s := 0) rfl rfl Tryz.underlying135 rfl (by kernel_rfl) rfl) ?_
      refine wqv (v_cellB (i := 0) hE1 rfl rfl rfl Tryz.underlying3 rfl kcl_w) ?_
      refine wqv (v_quo (n := 8) rfl rfl rfl (by omega) (w_i64 (by omega))) ?_
      rw [Hq.out]
      refine wqv (v_lss rfl rfl rfl) ?_
      rw [d3.out]
      repeat ((fail_if_success refine sqy ?_); go_step)
      refine cqT ?_
      skip
      repeat ((fail_if_success refine sqx ?_); go_step)
      refine mqA ?_
      refine wqv (v_shlC (s := 8) (d := 256) rfl rfl rfl (by decide) (by decide) (w_u64 (by omega))) ?_
      refine mqA ?_
      refine mqA ?_
      refine wqv (v_field0 (s := 0) rfl rfl Tryz.underlying135 rfl (by kernel_rfl) rfl) ?_
      refine wqv (v_cellB (i := 0) hE1 rfl rfl rfl Tryz.underlying3 rfl kcl_w) ?_
      refine wqv (v_mul rfl rfl rfl (w_i64 hnw63)) ?_
      refine wqv (v_quo (n := 8) rfl rfl rfl (by omega) (w_i64 (by rw [Hmul.out]; omega))) ?_
      rw [Hmul.out]
      refine mqA ?_
      refine wqv (v_add rfl rfl rfl (w_i64 (by omega))) ?_
      refine wqv (v_indexS rfl rfl rfl Tryz.underlying24 (by kernel_rfl) hjm) ?_
      refine wqv (v_cell rfl rfl Tryz.underlying5 rfl (fun w1 hb => Hc.out w1 (hE1.below.trans (hb.mono hE1.below.size)))) ?_
      refine wqv (v_convInt rfl rfl Tryz.underlying5 Tryz.underlying50 (by first | exact w_u64 (by omega) | exact w_u64m _)) ?_
      refine wqv (v_bor rfl rfl rfl hm1 hm2 (w_or rfl hm1 hm2)) ?_
      rw [Hor.out]
      refine mqB ?_
      repeat ((fail_if_success refine sqx ?_); go_step)
      refine mqA ?_
      refine wqv (v_add (n := 1) rfl rfl rfl (w_i64 (by omega))) ?_
      refine mqB ?_
      go_wp2
      go_roundw
      case rel => exact ⟨j + 1, by omega, rfl, rfl, hE1⟩
      case measure => simp [intOf]; omega
     ·have hjw' : j = wb := by omega
      subst hjw'
      have d3 := Lib.hid (decide_eq_false hjw)
      have hq8 : k.w / 8 < 9223372036854775808 := by omega
      rw [Hfin.out]
      repeat ((fail_if_success refine sqx ?_); go_step)
      refine mqA ?_
      refine wqv (v_field0 (s := 0) rfl rfl Tryz.underlying135 rfl (by kernel_rfl) rfl) ?_
      refine wqv (v_cellB (i := 0) hE1 rfl rfl rfl Tryz.underlying3 rfl kcl_w) ?_
      refine wqv (v_quo (n := 8) rfl rfl rfl (by omega) (w_i64 (by omega))) ?_
      rw [Hq.out]
      refine wqv (v_lss rfl rfl rfl) ?_
      rw [d3.out]
      repeat ((fail_if_success refine sqy ?_); go_step)
      refine cqF ?_
      skip
      repeat ((fail_if_success refine sqx ?_); go_step)
      refine mqA ?_
      refine mqA ?_
      refine wl_step (st_buildNums (k := .u64) [wordAt k.w m n] hE1 rfl rfl (by first | (kernel_rfl; done) | (simp only [List.map_cons, List.map_nil, List.zipIdx_cons, List.zipIdx_nil]; rfl)) rfl (by decide) (by decide) Tryz.underlying102 (by kernel_rfl) Tryz.zeroValue50 ?_)
      intro g1 w11 hb11 hE11
      clear hE1
      simp only [qZ]
      refine wl_step (st_append (hO.out.sl (hE11.perm ((List.Perm.cons _ List.perm_middle.symm).trans List.perm_middle.symm))) rfl rfl Tryz.underlying102 Hi.out Hz.out Hs.out rfl Hby.out rfl rfl (RdS.of_block (hE11.get (i := 0) rfl)) h63 hfit ?_)
      intro v12 w12 hS12
      have hE12 := hS12.env
      clear hE11
      simp only [qZ]
      obtain ⟨bs2, ho2, hEE⟩ := hS12.ow
      rw [Hnx.out] at ho2
      refine mqB ?_
      repeat ((fail_if_success refine sqx ?_); go_step)
      refine mqA ?_
      refine wqv (v_add (n := 1) rfl rfl rfl (w_i64 (by omega))) ?_
      refine mqB ?_
      go_wp2
      go_roundw
      case rel => exact ⟨n + 1, bs2, by omega, rfl, Lib.hid ho2, hEE.sub (List.Sublist.append_left (List.Sublist.cons _ (List.Sublist.refl _)) _)⟩
      case measure => simp [intOf]; omega
   ·have d2 := Lib.hid (decide_eq_false h16)
    obtain ⟨gw, cw4, cw, hv4, hbs, hcw⟩ := hO.out.cells (by omega)
    injection hv4 with hv4 _ hv5
    subst hbs hv4 hv5
    have hbd := fun j => HSL.out n j
    have hnx : nextW k m (sched k m n) = (smallS k.w k.t1 ((sched k m n).getD (n - 2) 0) + (sched k m n).getD (n - 7) 0 + smallS k.w k.t0 ((sched k m n).getD (n - 15) 0) + (sched k m n).getD (n - 16) 0) % 2 ^ k.w := by
     unfold nextW
     rw [hsl, if_neg h16]
    have H2 := Lib.hid (hcw (n - 2) (by omega))
    have H7 := Lib.hid (hcw (n - 7) (by omega))
    have H15 := Lib.hid (hcw (n - 15) (by omega))
    have H16 := Lib.hid (hcw (n - 16) (by omega))
    have b2 := hbd (n - 2)
    have b15 := hbd (n - 15)
    obtain ⟨a2, ha2⟩ : ∃ a, (sched k m n).getD (n - 2) 0 = a := ⟨_, rfl⟩
    obtain ⟨a7, ha7⟩ : ∃ a, (sched k m n).getD (n - 7) 0 = a := ⟨_, rfl⟩
    obtain ⟨a15, ha15⟩ : ∃ a, (sched k m n).getD (n - 15) 0 = a := ⟨_, rfl⟩
    obtain ⟨a16, ha16⟩ : ∃ a, (sched k m n).getD (n - 16) 0 = a := ⟨_, rfl⟩
    rw [ha2] at H2 b2 hnx
    rw [ha7] at H7 hnx
    rw [ha15] at H15 b15 hnx
    rw [ha16] at H16 hnx
    have hsum : (((smallS k.w k.t1 a2 + a7) % 18446744073709551616 + smallS k.w k.t0 a15) % 18446744073709551616 + a16) % 18446744073709551616 &&& (2 ^ k.w - 1) = nextW k m (sched k m n) := by
     rw [hnx, sumM4, and_mask hw64]
    obtain ⟨X, hX⟩ : ∃ X, nextW k m (sched k m n) = X := ⟨_, rfl⟩
    rw [hX] at hsum Hnx
    have Hsum := Lib.hid hsum
    have G1 := Lib.hid (fun w => FT1.out a2 b2 w)
    have G0 := Lib.hid (fun w => FT0.out a15 b15 w)
    have m1 : (((smallS k.w k.t1 a2 + a7) % 18446744073709551616 + smallS k.w k.t0 a15) % 18446744073709551616 + a16) % 18446744073709551616 < 2 ^ IntKind.u64.bits := Nat.mod_lt _ (by decide)
    have m2 : 2 ^ k.w - 1 < 2 ^ IntKind.u64.bits := by
     have : 0 < 2 ^ k.w := Nat.pow_pos (by decide)
     exact Nat.lt_of_lt_of_le (by omega) hp64
    clear hbd hcw b2 b15 ha2 ha7 ha15 ha16 hnx hsum hX
    repeat ((fail_if_success refine sqx ?_); go_step)
    refine mqA ?_
    refine wqv (v_lss (n := 16) rfl rfl rfl) ?_
    rw [d2.out]
    repeat ((fail_if_success refine sqy ?_); go_step)
    refine cqF ?_
    skip
    repeat ((fail_if_success refine sqx ?_); go_step)
    refine wp_region_B (n := 35) 34 (by kernel_rfl) rfl hE1 ?_
    intro w2 hb2 hE2
    clear hE1
    refine tqB 0 rfl (vqL 0 17 hE2 Tryz.underlying135) ?_
    refine tqB 1 rfl (v_moveT (.inl rfl) rfl) ?_
    refine tqB 2 rfl (v_moveT (.inl rfl) rfl) ?_
    refine tqB 3 rfl (v_sub (n := 2) rfl rfl rfl (by first | exact w_i64s (by omega) (by omega) | exact w_i64I (by omega) (by omega))) ?_
    refine tqB 4 rfl (v_indexS0 rfl rfl rfl Tryz.underlying102 (by kernel_rfl) (by first | assumption | omega)) ?_
    refine tqB 5 rfl (v_cellB (i := 1) hE2 rfl rfl rfl Tryz.underlying50 rfl H2.out) ?_
    refine tqB 6 rfl (v_fieldB (s := 2) rfl rfl Tryz.underlying135 rfl (by kernel_rfl) rfl) ?_
    refine tqB 7 rfl (v_loadCut (i := 0) kcl_t1 hE2 rfl rfl rfl Tryz.underlying133 rfl (by kernel_rfl) (show 12 + 3 ≤ 17 by decide)) ?_
    rw [nats_ints]
    refine tqB 9 rfl (v_moveT (.inl rfl) rfl) ?_
    refine tqB 10 rfl (v_moveT (.inl rfl) rfl) ?_
    refine tqB 11 rfl (v_sub (n := 7) rfl rfl rfl (by first | exact w_i64s (by omega) (by omega) | exact w_i64I (by omega) (by omega))) ?_
    refine tqB 12 rfl (v_indexS0 rfl rfl rfl Tryz.underlying102 (by kernel_rfl) (by first | assumption | omega)) ?_
    refine tqB 13 rfl (v_cellB (i := 1) hE2 rfl rfl rfl Tryz.underlying50 rfl H7.out) ?_
    refine tqB 15 rfl (vqL 0 17 hE2 Tryz.underlying135) ?_
    refine tqB 16 rfl (v_moveT (.inl rfl) rfl) ?_
    refine tqB 17 rfl (v_moveT (.inl rfl) rfl) ?_
    refine tqB 18 rfl (v_sub (n := 15) rfl rfl rfl (by first | exact w_i64s (by omega) (by omega) | exact w_i64I (by omega) (by omega))) ?_
    refine tqB 19 rfl (v_indexS0 rfl rfl rfl Tryz.underlying102 (by kernel_rfl) (by first | assumption | omega)) ?_
    refine tqB 20 rfl (v_cellB (i := 1) hE2 rfl rfl rfl Tryz.underlying50 rfl H15.out) ?_
    refine tqB 21 rfl (v_fieldB (s := 2) rfl rfl Tryz.underlying135 rfl (by kernel_rfl) rfl) ?_
    refine tqB 22 rfl (v_loadCut (i := 0) kcl_t0 hE2 rfl rfl rfl Tryz.underlying133 rfl (by kernel_rfl) (show 9 + 3 ≤ 17 by decide)) ?_
    rw [nats_ints]
    refine tqB 25 rfl (v_moveT (.inl rfl) rfl) ?_
    refine tqB 26 rfl (v_moveT (.inl rfl) rfl) ?_
    refine tqB 27 rfl (v_sub (n := 16) rfl rfl rfl (by first | exact w_i64s (by omega) (by omega) | exact w_i64I (by omega) (by omega))) ?_
    refine tqB 28 rfl (v_indexS0 rfl rfl rfl Tryz.underlying102 (by kernel_rfl) (by first | assumption | omega)) ?_
    refine tqB 29 rfl (v_cellB (i := 1) hE2 rfl rfl rfl Tryz.underlying50 rfl H16.out) ?_
    refine tqB 31 rfl (v_fieldB (s := 0) rfl rfl Tryz.underlying135 rfl (by kernel_rfl) rfl) ?_
    refine tqB 32 rfl (v_cellB (i := 0) hE2 rfl rfl rfl Tryz.underlying50 rfl kcl_x) ?_
    refine sqB 8 rfl (st_gives hE2 rfl (run_call rfl Tryz.call118) (G1.out _) ?_)
    intro w3 hb3 hE3
    clear hE2
    refine ⟨fun _ => hb3, ?_⟩
    simp only [qZ]
    refine tqB 14 rfl (v_add rfl rfl rfl (w_u64m _)) ?_
    refine sqB 23 rfl (st_gives hE3 rfl (run_call rfl Tryz.call118) (G0.out _) ?_)
    intro w4 hb4 hE4
    clear hE3
    refine ⟨fun _ => hb4, ?_⟩
    simp only [qZ]
    refine tqB 24 rfl (v_add rfl rfl rfl (w_u64m _)) ?_
    refine tqB 30 rfl (v_add rfl rfl rfl (w_u64m _)) ?_
    refine tqB 33 rfl (v_band rfl rfl rfl m1 m2 (w_and rfl m1)) ?_
    rw [Hsum.out]
    refine sqB 34 rfl (st_val rfl (v_moveT (.inr rfl) rfl) ?_)
    refine ⟨fun _ => Below.refl _ _, ?_⟩
    simp only [qZ]
    refine wpB_done (by kernel_rfl) ?_ _
    repeat ((fail_if_success refine sqx ?_); go_step)
    refine mqA ?_
    refine mqA ?_
    refine wl_step (st_buildNums (k := .u64) [X] hE4 rfl rfl (by first | (kernel_rfl; done) | (simp only [List.map_cons, List.map_nil, List.zipIdx_cons, List.zipIdx_nil]; rfl)) rfl (by decide) (by decide) Tryz.underlying102 (by kernel_rfl) Tryz.zeroValue50 ?_)
    intro g1 w5 hb5 hE5
    clear hE4
    simp only [qZ]
    refine wl_step (st_append (hO.out.sl (hE5.perm (List.perm_middle (l₁ := [_, _])))) rfl rfl Tryz.underlying102 Hi.out Hz.out Hs.out rfl Hby.out rfl rfl (RdS.of_block (hE5.get (i := 0) rfl)) h63 hfit ?_)
    intro v6 w6 hS6
    have hE6 := hS6.env
    clear hE5
    simp only [qZ]
    obtain ⟨bs2, ho2, hEE⟩ := hS6.ow
    rw [Hnx.out] at ho2
    refine mqB ?_
    repeat ((fail_if_success refine sqx ?_); go_step)
    refine mqA ?_
    refine wqv (v_add (n := 1) rfl rfl rfl (w_i64 (by omega))) ?_
    refine mqB ?_
    go_wp2
    go_roundw
    case rel => exact ⟨n + 1, bs2, by omega, rfl, Lib.hid ho2, hEE.sub (List.Sublist.append_left (List.Sublist.cons _ (List.Sublist.refl _)) _)⟩
    case measure => simp [intOf]; omega
  ·have hnN' : n = N := by omega
   subst hnN'
   have d1 := Lib.hid (decide_eq_false hnN)
   have hE1 := Env.mid.1 hE
   obtain ⟨gw, cw4, cw, hv4, hbs, hcw⟩ := hO.out.cells (by omega)
   injection hv4 with hv4 _ hv5
   subst hbs hv4 hv5
   have HW := Lib.hid (fun j hj => hcw j (by rw [hsl]; exact hj))
   have hLh : ([] : List Value).length + h.length ≤ maxLen := by rw [hh]; decide
   have hLf : (([] : List Value).length + h.length) * 8 ≤ 140737488355328 := by rw [hh]; decide
   clear hE hcw
   repeat ((fail_if_success refine sqx ?_); go_step)
   refine mqA ?_
   refine wqv (v_fieldB (s := 0) rfl rfl Tryz.underlying135 rfl (by kernel_rfl) rfl) ?_
   refine wqv (v_cellB (i := 0) hE1 rfl rfl rfl Tryz.underlying102 rfl kcl_r) ?_
   refine wqv (v_len rfl rfl Tryz.underlying102 (by omega)) ?_
   refine wqv (v_lss rfl rfl rfl) ?_
   rw [d1.out]
   repeat ((fail_if_success refine sqy ?_); go_step)
   refine cqF ?_
   skip
   repeat ((fail_if_success refine sqx ?_); go_step)
   refine wl_step (st_build0 hE1 rfl rfl Tryz.underlying102 (by kernel_rfl) ?_)
   intro g1 w2 hb2 hE2
   clear hE1
   simp only [qZ]
   refine mqA ?_
   refine wl_step (st_append (Sl.of_block hE2 (by decide)) rfl rfl Tryz.underlying102 Hi.out Hz.out Hs.out rfl Hby.out rfl rfl (HH.out.below hE2.below) hLh hLf ?_)
   intro v3 w3 hS3
   have hE3 := hS3.env
   clear hE2
   simp only [qZ]
   obtain ⟨bs2, ho1, hEE⟩ := hS3.ow
   refine mqB ?_
   repeat ((fail_if_success refine sqx ?_); go_step)
   refine mqC ?_
   have ho2 : Ow 50 (nats .u64 h) v3 bs2 := ho1
   have hR8 := roundsS_len (k := k) hh m
   have hRd := roundsS_lt (k := k) Hhd.out m
   have hRn : ∀ j, roundsS k h m (j + 1) = roundS k (roundsS k h m j) (k.rounds.getD j 0) ((sched k m n).getD j 0) := fun j => by rw [← HN.out]; rfl
   have hR0 : h = roundsS k h m 0 := rfl
   have hbl : ∀ j, j < 8 → (blockS k h m).getD j 0 = (h.getD j 0 + (roundsS k h m n).getD j 0) % 2 ^ k.w := fun j hj => by rw [blockS_get k h m hj, HN.out]
   have hbl8 := blockS_len k h m
   obtain ⟨R, hR⟩ : ∃ R : Nat → List Nat, (fun j => roundsS k h m j) = R := ⟨_, rfl⟩
   have hR' : ∀ j, roundsS k h m j = R j := fun j => congrFun hR j
   simp only [hR'] at hR8 hRd hRn hR0 hbl
   obtain ⟨BL, hBL⟩ : ∃ BL, blockS k h m = BL := ⟨_, rfl⟩
   rw [hBL] at hbl hbl8
   have HBL := Lib.hid hBL
   rw [hR0] at ho2
   have HR8 := Lib.hid hR8
   have HRd := Lib.hid hRd
   have HRn := Lib.hid hRn
   have Hbl := Lib.hid hbl
   have Ho2 := Lib.hid ho2
   have m2 : 2 ^ k.w - 1 < 2 ^ IntKind.u64.bits := by
    have : 0 < 2 ^ k.w := Nat.pow_pos (by decide)
    exact Nat.lt_of_lt_of_le (by omega) hp64
   clear hR8 hRd hRn hR0 hbl hR hR' hBL ho2 ho1 d1 h63 hfit hLh hLf
   go_wp2
   go_loopw [11, 12] (fun s i wr => ∃ (j : Nat) (bs : List Blk), j ≤ n ∧ i = .int .i64 j ∧ Hid (Ow 50 (nats .u64 (R j)) s bs) ∧ Env w (bs ++ [⟨g0, 135, (kcl k r fv (.slice p1 n c1)).toArray⟩, ⟨gw, 50, cw⟩]) wr) (fun _ i _ => n - (intOf i).toNat)
   case atStart => exact ⟨0, bs2, Nat.zero_le _, rfl, Ho2, hEE⟩
   case round =>
    clear hEE Ho2
    obtain ⟨j, bs, hj, rfl, hO, hE0⟩ := hrel
    have hV8 := HR8.out j
    obtain ⟨gv, cv4, cv, hv4, hbs, hcv⟩ := hO.out.cells (by rw [hV8]; decide)
    subst hbs hv4
    by_cases hjn : j < n
    ·have d1 := Lib.hid (decide_eq_true hjn)
     obtain ⟨b, off, hpo, hcell⟩ := HR.out.at (j := j) (by rw [HN.out]; exact hjn)
     subst hpo
     have Hc := Lib.hid hcell
     have HWj := Lib.hid (HW.out j hjn)
     have hb := HRd.out j
     have hnx := HRn.out j
     have hjs : j < (sched k m n).length := by rw [hsl]; exact hjn
     obtain ⟨C, hC⟩ : ∃ C, k.rounds.getD j 0 = C := ⟨_, rfl⟩
     obtain ⟨X, hX⟩ : ∃ X, (sched k m n).getD j 0 = X := ⟨_, rfl⟩
     rw [hC] at Hc hnx
     rw [hX] at HWj hnx
     obtain ⟨V, hVV⟩ : ∃ V, R j = V := ⟨_, rfl⟩
     rw [hVV] at hV8 hcv hb hnx
     rw [hVV]
     clear hVV hC hX hcell hO
     obtain ⟨a0, a1, a2, a3, a4, a5, a6, a7, rfl⟩ := len8 hV8
     have K0 : Hid (cv[0]? = some (Value.int .u64 (a0 : Nat))) := Lib.hid (hcv 0 (show 0 < 8 by decide))
     have b0 : a0 < 2 ^ k.w := hb 0
     have d0' : a0 < 2 ^ IntKind.u64.bits := Nat.lt_of_lt_of_le b0 hp64
     have K1 : Hid (cv[1]? = some (Value.int .u64 (a1 : Nat))) := Lib.hid (hcv 1 (show 1 < 8 by decide))
     have b1 : a1 < 2 ^ k.w := hb 1
     have d1' : a1 < 2 ^ IntKind.u64.bits := Nat.lt_of_lt_of_le b1 hp64
     have K2 : Hid (cv[2]? = some (Value.int .u64 (a2 : Nat))) := Lib.hid (hcv 2 (show 2 < 8 by decide))
     have b2 : a2 < 2 ^ k.w := hb 2
     have d2' : a2 < 2 ^ IntKind.u64.bits := Nat.lt_of_lt_of_le b2 hp64
     have K3 : Hid (cv[3]? = some (Value.int .u64 (a3 : Nat))) := Lib.hid (hcv 3 (show 3 < 8 by decide))
     have b3 : a3 < 2 ^ k.w := hb 3
     have d3' : a3 < 2 ^ IntKind.u64.bits := Nat.lt_of_lt_of_le b3 hp64
     have K4 : Hid (cv[4]? = some (Value.int .u64 (a4 : Nat))) := Lib.hid (hcv 4 (show 4 < 8 by decide))
     have b4 : a4 < 2 ^ k.w := hb 4
     have d4' : a4 < 2 ^ IntKind.u64.bits := Nat.lt_of_lt_of_le b4 hp64
     have K5 : Hid (cv[5]? = some (Value.int .u64 (a5 : Nat))) := Lib.hid (hcv 5 (show 5 < 8 by decide))
     have b5 : a5 < 2 ^ k.w := hb 5
     have d5' : a5 < 2 ^ IntKind.u64.bits := Nat.lt_of_lt_of_le b5 hp64
     have K6 : Hid (cv[6]? = some (Value.int .u64 (a6 : Nat))) := Lib.hid (hcv 6 (show 6 < 8 by decide))
     have b6 : a6 < 2 ^ k.w := hb 6
     have d6' : a6 < 2 ^ IntKind.u64.bits := Nat.lt_of_lt_of_le b6 hp64
     have K7 : Hid (cv[7]? = some (Value.int .u64 (a7 : Nat))) := Lib.hid (hcv 7 (show 7 < 8 by decide))
     have b7 : a7 < 2 ^ k.w := hb 7
     have d7' : a7 < 2 ^ IntKind.u64.bits := Nat.lt_of_lt_of_le b7 hp64
     obtain ⟨B1, hB1⟩ : ∃ B1, bigS k.w k.s1 a4 = B1 := ⟨_, rfl⟩
     obtain ⟨B0, hB0⟩ : ∃ B0, bigS k.w k.s0 a0 = B0 := ⟨_, rfl⟩
     have G1 := Lib.hid (fun w => FS1.out a4 b4 w)
     have G0 := Lib.hid (fun w => FS0.out a0 b0 w)
     rw [hB1] at G1
     rw [hB0] at G0
     have ec := Lib.hid (compl_xor b4)
     have cn : 2 ^ k.w - 1 - a4 < 2 ^ IntKind.u64.bits := Nat.lt_of_le_of_lt (Nat.sub_le _ _) m2
     have e1 : a4 &&& a5 < 2 ^ IntKind.u64.bits := Nat.lt_of_le_of_lt Nat.and_le_left d4'
     have e2 : (2 ^ k.w - 1 - a4) &&& a6 < 2 ^ IntKind.u64.bits := Nat.lt_of_le_of_lt Nat.and_le_left cn
     have e3 : a0 &&& a1 < 2 ^ IntKind.u64.bits := Nat.lt_of_le_of_lt Nat.and_le_left d0'
     have e4 : a0 &&& a2 < 2 ^ IntKind.u64.bits := Nat.lt_of_le_of_lt Nat.and_le_left d0'
     have e5 : a1 &&& a2 < 2 ^ IntKind.u64.bits := Nat.lt_of_le_of_lt Nat.and_le_left d1'
     have e6 : (a0 &&& a1) ^^^ (a0 &&& a2) < 2 ^ IntKind.u64.bits := Nat.xor_lt_two_pow e3 e4
     have hch : (a4 &&& a5) ^^^ ((2 ^ k.w - 1 - a4) &&& a6) = chS k.w a4 a5 a6 := rfl
     have hma : (a0 &&& a1) ^^^ (a0 &&& a2) ^^^ (a1 &&& a2) = majS a0 a1 a2 := rfl
     have hrd : roundS k [a0, a1, a2, a3, a4, a5, a6, a7] C X = [((a7 + B1 + chS k.w a4 a5 a6 + C + X) % 2 ^ k.w + (B0 + majS a0 a1 a2) % 2 ^ k.w) % 2 ^ k.w, a0, a1, a2, (a3 + (a7 + B1 + chS k.w a4 a5 a6 + C + X) % 2 ^ k.w) % 2 ^ k.w, a4, a5, a6] := by
      rw [← hB1, ← hB0]
      rfl
     obtain ⟨CH, hCH⟩ : ∃ CH, chS k.w a4 a5 a6 = CH := ⟨_, rfl⟩
     obtain ⟨MJ, hMJ⟩ : ∃ MJ, majS a0 a1 a2 = MJ := ⟨_, rfl⟩
     rw [hCH] at hch hrd
     rw [hMJ] at hma hrd
     obtain ⟨T, hT⟩ : ∃ T, ((((a7 + B1) % 18446744073709551616 + CH) % 18446744073709551616 + C) % 18446744073709551616 + X) % 18446744073709551616 = T := ⟨_, rfl⟩
     obtain ⟨U, hU⟩ : ∃ U, (B0 + MJ) % 18446744073709551616 = U := ⟨_, rfl⟩
     have hTm : T % 2 ^ k.w = (a7 + B1 + CH + C + X) % 2 ^ k.w := by rw [← hT, sumM5, mod_dvd hw64]
     have hUm : U % 2 ^ k.w = (B0 + MJ) % 2 ^ k.w := by rw [← hU, mod_dvd hw64]
     have hN0 : (T + U) % 18446744073709551616 &&& (2 ^ k.w - 1) = ((a7 + B1 + CH + C + X) % 2 ^ k.w + (B0 + MJ) % 2 ^ k.w) % 2 ^ k.w := by rw [and_mask hw64, Nat.add_mod, hTm, hUm]
     have hN4 : (a3 + T) % 18446744073709551616 &&& (2 ^ k.w - 1) = (a3 + (a7 + B1 + CH + C + X) % 2 ^ k.w) % 2 ^ k.w := by rw [and_mask hw64, ← hTm, Nat.add_mod_mod]
     obtain ⟨N0, hN0'⟩ : ∃ N0, ((a7 + B1 + CH + C + X) % 2 ^ k.w + (B0 + MJ) % 2 ^ k.w) % 2 ^ k.w = N0 := ⟨_, rfl⟩
     obtain ⟨N4, hN4'⟩ : ∃ N4, (a3 + (a7 + B1 + CH + C + X) % 2 ^ k.w) % 2 ^ k.w = N4 := ⟨_, rfl⟩
     rw [hN0'] at hN0 hrd
     rw [hN4'] at hN4 hrd
     rw [hrd] at hnx
     have m5 : (T + U) % 18446744073709551616 < 2 ^ IntKind.u64.bits := Nat.mod_lt _ (by decide)
     have m6 : (a3 + T) % 18446744073709551616 < 2 ^ IntKind.u64.bits := Nat.mod_lt _ (by decide)
     have Hnx := Lib.hid hnx
     have HT := Lib.hid hT
     have HU := Lib.hid hU
     have Hch := Lib.hid hch
     have Hma := Lib.hid hma
     have HN0 := Lib.hid hN0
     have HN4 := Lib.hid hN4
     clear hcv hb hnx hB1 hB0 hch hma hrd hCH hMJ hT hU hTm hUm hN0 hN4 hN0' hN4' b0 b1 b2 b3 b4 b5 b6 b7
     repeat ((fail_if_success refine sqx ?_); go_step)
     refine mqA ?_
     refine wqv (v_fieldB (s := 0) rfl rfl Tryz.underlying135 rfl (by kernel_rfl) rfl) ?_
     refine wqv (v_cellB (i := 1) hE0 rfl rfl rfl Tryz.underlying102 rfl kcl_r) ?_
     refine wqv (v_len rfl rfl Tryz.underlying102 (by omega)) ?_
     refine wqv (v_lss rfl rfl rfl) ?_
     rw [d1.out]
     repeat ((fail_if_success refine sqy ?_); go_step)
     refine cqT ?_
     skip
     repeat ((fail_if_success refine sqx ?_); go_step)
     refine wp_region_B (n := 42) 41 (by kernel_rfl) rfl hE0 ?_
     intro w1 hb1 hE1
     clear hE0
     refine tqB 0 rfl (v_moveT (.inl rfl) rfl) ?_
     refine tqB 1 rfl (v_indexS0 (j := 7) rfl rfl rfl Tryz.underlying102 (by kernel_rfl) (by first | assumption | omega)) ?_
     refine tqB 2 rfl (v_cellB (i := 0) hE1 rfl rfl rfl Tryz.underlying50 rfl K7.out) ?_
     refine tqB 3 rfl (vqL 1 17 hE1 Tryz.underlying135) ?_
     refine tqB 4 rfl (v_moveT (.inl rfl) rfl) ?_
     refine tqB 5 rfl (v_indexS0 (j := 4) rfl rfl rfl Tryz.underlying102 (by kernel_rfl) (by first | assumption | omega)) ?_
     refine tqB 6 rfl (v_cellB (i := 0) hE1 rfl rfl rfl Tryz.underlying50 rfl K4.out) ?_
     refine tqB 7 rfl (v_fieldB (s := 2) rfl rfl Tryz.underlying135 rfl (by kernel_rfl) rfl) ?_
     refine tqB 8 rfl (v_loadCut (i := 1) kcl_s1 hE1 rfl rfl rfl Tryz.underlying133 rfl (by kernel_rfl) (show 6 + 3 ≤ 17 by decide)) ?_
     rw [nats_ints]
     refine tqB 11 rfl (v_moveT (.inl rfl) rfl) ?_
     refine tqB 12 rfl (v_indexS0 (j := 4) rfl rfl rfl Tryz.underlying102 (by kernel_rfl) (by first | assumption | omega)) ?_
     refine tqB 13 rfl (v_cellB (i := 0) hE1 rfl rfl rfl Tryz.underlying50 rfl K4.out) ?_
     refine tqB 14 rfl (v_moveT (.inl rfl) rfl) ?_
     refine tqB 15 rfl (v_indexS0 (j := 5) rfl rfl rfl Tryz.underlying102 (by kernel_rfl) (by first | assumption | omega)) ?_
     refine tqB 16 rfl (v_cellB (i := 0) hE1 rfl rfl rfl Tryz.underlying50 rfl K5.out) ?_
     refine tqB 17 rfl (v_band rfl rfl rfl d4' d5' (w_and rfl d4')) ?_
     refine tqB 18 rfl (v_fieldB (s := 0) rfl rfl Tryz.underlying135 rfl (by kernel_rfl) rfl) ?_
     refine tqB 19 rfl (v_cellB (i := 1) hE1 rfl rfl rfl Tryz.underlying50 rfl kcl_x) ?_
     refine tqB 20 rfl (v_moveT (.inl rfl) rfl) ?_
     refine tqB 21 rfl (v_indexS0 (j := 4) rfl rfl rfl Tryz.underlying102 (by kernel_rfl) (by first | assumption | omega)) ?_
     refine tqB 22 rfl (v_cellB (i := 0) hE1 rfl rfl rfl Tryz.underlying50 rfl K4.out) ?_
     refine tqB 23 rfl (v_bxor rfl rfl rfl m2 d4' (w_xor rfl m2 d4')) ?_
     rw [ec.out]
     refine tqB 24 rfl (v_moveT (.inl rfl) rfl) ?_
     refine tqB 25 rfl (v_indexS0 (j := 6) rfl rfl rfl Tryz.underlying102 (by kernel_rfl) (by first | assumption | omega)) ?_
     refine tqB 26 rfl (v_cellB (i := 0) hE1 rfl rfl rfl Tryz.underlying50 rfl K6.out) ?_
     refine tqB 27 rfl (v_band rfl rfl rfl cn d6' (w_and rfl cn)) ?_
     refine tqB 28 rfl (v_bxor rfl rfl rfl e1 e2 (w_xor rfl e1 e2)) ?_
     rw [Hch.out]
     refine tqB 30 rfl (v_fieldB (s := 0) rfl rfl Tryz.underlying135 rfl (by kernel_rfl) rfl) ?_
     refine tqB 31 rfl (v_cellB (i := 1) hE1 rfl rfl rfl Tryz.underlying102 rfl kcl_r) ?_
     refine tqB 32 rfl (v_moveT (.inl rfl) rfl) ?_
     refine tqB 33 rfl (v_indexS rfl rfl rfl Tryz.underlying102 (by kernel_rfl) hjn) ?_
     refine tqB 34 rfl (v_cell rfl rfl Tryz.underlying50 rfl (fun w1 hb => Hc.out w1 (hE1.below.trans (hb.mono hE1.below.size)))) ?_
     refine tqB 36 rfl (v_moveT (.inl rfl) rfl) ?_
     refine tqB 37 rfl (v_moveT (.inl rfl) rfl) ?_
     refine tqB 38 rfl (v_indexS0 rfl rfl rfl Tryz.underlying102 (by kernel_rfl) (by first | exact hjs | exact hjn)) ?_
     refine tqB 39 rfl (v_cellB (i := 2) hE1 rfl rfl rfl Tryz.underlying50 rfl HWj.out) ?_
     refine sqB 9 rfl (st_gives hE1 rfl (run_call rfl Tryz.call119) (G1.out _) ?_)
     intro w2 hb2 hE2
     clear hE1
     refine ⟨fun _ => hb2, ?_⟩
     simp only [qZ]
     refine tqB 10 rfl (v_add rfl rfl rfl (w_u64m _)) ?_
     refine tqB 29 rfl (v_add rfl rfl rfl (w_u64m _)) ?_
     refine tqB 35 rfl (v_add rfl rfl rfl (w_u64m _)) ?_
     refine tqB 40 rfl (v_add rfl rfl rfl (w_u64m _)) ?_
     rw [HT.out]
     refine sqB 41 rfl (st_val rfl (v_moveT (.inr rfl) rfl) ?_)
     refine ⟨fun _ => Below.refl _ _, ?_⟩
     simp only [qZ]
     refine wpB_done (by kernel_rfl) ?_ _
     repeat ((fail_if_success refine sqx ?_); go_step)
     refine wp_region_B (n := 32) 31 (by kernel_rfl) rfl hE2 ?_
     intro w3 hb3 hE3
     clear hE2
     refine tqB 0 rfl (vqL 1 17 hE3 Tryz.underlying135) ?_
     refine tqB 1 rfl (v_moveT (.inl rfl) rfl) ?_
     refine tqB 2 rfl (v_indexS0 (j := 0) rfl rfl rfl Tryz.underlying102 (by kernel_rfl) (by first | assumption | omega)) ?_
     refine tqB 3 rfl (v_cellB (i := 0) hE3 rfl rfl rfl Tryz.underlying50 rfl K0.out) ?_
     refine tqB 4 rfl (v_fieldB (s := 2) rfl rfl Tryz.underlying135 rfl (by kernel_rfl) rfl) ?_
     refine tqB 5 rfl (v_loadCut (i := 1) kcl_s0 hE3 rfl rfl rfl Tryz.underlying133 rfl (by kernel_rfl) (show 3 + 3 ≤ 17 by decide)) ?_
     rw [nats_ints]
     refine tqB 7 rfl (v_moveT (.inl rfl) rfl) ?_
     refine tqB 8 rfl (v_indexS0 (j := 0) rfl rfl rfl Tryz.underlying102 (by kernel_rfl) (by first | assumption | omega)) ?_
     refine tqB 9 rfl (v_cellB (i := 0) hE3 rfl rfl rfl Tryz.underlying50 rfl K0.out) ?_
     refine tqB 10 rfl (v_moveT (.inl rfl) rfl) ?_
     refine tqB 11 rfl (v_indexS0 (j := 1) rfl rfl rfl Tryz.underlying102 (by kernel_rfl) (by first | assumption | omega)) ?_
     refine tqB 12 rfl (v_cellB (i := 0) hE3 rfl rfl rfl Tryz.underlying50 rfl K1.out) ?_
     refine tqB 13 rfl (v_band rfl rfl rfl d0' d1' (w_and rfl d0')) ?_
     refine tqB 14 rfl (v_moveT (.inl rfl) rfl) ?_
     refine tqB 15 rfl (v_indexS0 (j := 0) rfl rfl rfl Tryz.underlying102 (by kernel_rfl) (by first | assumption | omega)) ?_
     refine tqB 16 rfl (v_cellB (i := 0) hE3 rfl rfl rfl Tryz.underlying50 rfl K0.out) ?_
     refine tqB 17 rfl (v_moveT (.inl rfl) rfl) ?_
     refine tqB 18 rfl (v_indexS0 (j := 2) rfl rfl rfl Tryz.underlying102 (by kernel_rfl) (by first | assumption | omega)) ?_
     refine tqB 19 rfl (v_cellB (i := 0) hE3 rfl rfl rfl Tryz.underlying50 rfl K2.out) ?_
     refine tqB 20 rfl (v_band rfl rfl rfl d0' d2' (w_and rfl d0')) ?_
     refine tqB 21 rfl (v_bxor rfl rfl rfl e3 e4 (w_xor rfl e3 e4)) ?_
     refine tqB 22 rfl (v_moveT (.inl rfl) rfl) ?_
     refine tqB 23 rfl (v_indexS0 (j := 1) rfl rfl rfl Tryz.underlying102 (by kernel_rfl) (by first | assumption | omega)) ?_
     refine tqB 24 rfl (v_cellB (i := 0) hE3 rfl rfl rfl Tryz.underlying50 rfl K1.out) ?_
     refine tqB 25 rfl (v_moveT (.inl rfl) rfl) ?_
     refine tqB 26 rfl (v_indexS0 (j := 2) rfl rfl rfl Tryz.underlying102 (by kernel_rfl) (by first | assumption | omega)) ?_
     refine tqB 27 rfl (v_cellB (i := 0) hE3 rfl rfl rfl Tryz.underlying50 rfl K2.out) ?_
     refine tqB 28 rfl (v_band rfl rfl rfl d1' d2' (w_and rfl d1')) ?_
     refine tqB 29 rfl (v_bxor rfl rfl rfl e6 e5 (w_xor rfl e6 e5)) ?_
     rw [Hma.out]
     refine sqB 6 rfl (st_gives hE3 rfl (run_call rfl Tryz.call119) (G0.out _) ?_)
     intro w4 hb4 hE4
     clear hE3
     refine ⟨fun _ => hb4, ?_⟩
     simp only [qZ]
     refine tqB 30 rfl (v_add rfl rfl rfl (w_u64m _)) ?_
     rw [HU.out]
     refine sqB 31 rfl (st_val rfl (v_moveT (.inr rfl) rfl) ?_)
     refine ⟨fun _ => Below.refl _ _, ?_⟩
     simp only [qZ]
     refine wpB_done (by kernel_rfl) ?_ _
     repeat ((fail_if_success refine sqx ?_); go_step)
     refine wp_region_B (n := 34) 33 (by kernel_rfl) rfl hE4 ?_
     intro w5 hb5 hE5
     clear hE4
     refine tqB 0 rfl (v_moveT (.inl rfl) rfl) ?_
     refine tqB 1 rfl (v_moveT (.inl rfl) rfl) ?_
     refine tqB 2 rfl (v_add rfl rfl rfl (w_u64m _)) ?_
     refine tqB 3 rfl (v_fieldB (s := 0) rfl rfl Tryz.underlying135 rfl (by kernel_rfl) rfl) ?_
     refine tqB 4 rfl (v_cellB (i := 1) hE5 rfl rfl rfl Tryz.underlying50 rfl kcl_x) ?_
     refine tqB 5 rfl (v_band rfl rfl rfl m5 m2 (w_and rfl m5)) ?_
     rw [HN0.out]
     refine tqB 6 rfl (v_moveT (.inl rfl) rfl) ?_
     refine tqB 7 rfl (v_indexS0 (j := 0) rfl rfl rfl Tryz.underlying102 (by kernel_rfl) (by first | assumption | omega)) ?_
     refine tqB 8 rfl (v_cellB (i := 0) hE5 rfl rfl rfl Tryz.underlying50 rfl K0.out) ?_
     refine tqB 9 rfl (v_moveT (.inl rfl) rfl) ?_
     refine tqB 10 rfl (v_indexS0 (j := 1) rfl rfl rfl Tryz.underlying102 (by kernel_rfl) (by first | assumption | omega)) ?_
     refine tqB 11 rfl (v_cellB (i := 0) hE5 rfl rfl rfl Tryz.underlying50 rfl K1.out) ?_
     refine tqB 12 rfl (v_moveT (.inl rfl) rfl) ?_
     refine tqB 13 rfl (v_indexS0 (j := 2) rfl rfl rfl Tryz.underlying102 (by kernel_rfl) (by first | assumption | omega)) ?_
     refine tqB 14 rfl (v_cellB (i := 0) hE5 rfl rfl rfl Tryz.underlying50 rfl K2.out) ?_
     refine tqB 15 rfl (v_moveT (.inl rfl) rfl) ?_
     refine tqB 16 rfl (v_indexS0 (j := 3) rfl rfl rfl Tryz.underlying102 (by kernel_rfl) (by first | assumption | omega)) ?_
     refine tqB 17 rfl (v_cellB (i := 0) hE5 rfl rfl rfl Tryz.underlying50 rfl K3.out) ?_
     refine tqB 18 rfl (v_moveT (.inl rfl) rfl) ?_
     refine tqB 19 rfl (v_add rfl rfl rfl (w_u64m _)) ?_
     refine tqB 20 rfl (v_fieldB (s := 0) rfl rfl Tryz.underlying135 rfl (by kernel_rfl) rfl) ?_
     refine tqB 21 rfl (v_cellB (i := 1) hE5 rfl rfl rfl Tryz.underlying50 rfl kcl_x) ?_
     refine tqB 22 rfl (v_band rfl rfl rfl m6 m2 (w_and rfl m6)) ?_
     rw [HN4.out]
     refine tqB 23 rfl (v_moveT (.inl rfl) rfl) ?_
     refine tqB 24 rfl (v_indexS0 (j := 4) rfl rfl rfl Tryz.underlying102 (by kernel_rfl) (by first | assumption | omega)) ?_
     refine tqB 25 rfl (v_cellB (i := 0) hE5 rfl rfl rfl Tryz.underlying50 rfl K4.out) ?_
     refine tqB 26 rfl (v_moveT (.inl rfl) rfl) ?_
     refine tqB 27 rfl (v_indexS0 (j := 5) rfl rfl rfl Tryz.underlying102 (by kernel_rfl) (by first | assumption | omega)) ?_
     refine tqB 28 rfl (v_cellB (i := 0) hE5 rfl rfl rfl Tryz.underlying50 rfl K5.out) ?_
     refine tqB 29 rfl (v_moveT (.inl rfl) rfl) ?_
     refine tqB 30 rfl (v_indexS0 (j := 6) rfl rfl rfl Tryz.underlying102 (by kernel_rfl) (by first | assumption | omega)) ?_
     refine tqB 31 rfl (v_cellB (i := 0) hE5 rfl rfl rfl Tryz.underlying50 rfl K6.out) ?_
     refine sqB 32 rfl (st_buildNums (k := .u64) [N0, a0, a1, a2, N4, a4, a5, a6] hE5 rfl rfl (by first | (kernel_rfl; done) | (simp only [List.map_cons, List.map_nil, List.zipIdx_cons, List.zipIdx_nil]; rfl)) rfl (by decide) (by decide) Tryz.underlying102 (by kernel_rfl) Tryz.zeroValue50 ?_)
     intro g1 w6 hb6 hE6
     clear hE5
     refine ⟨fun _ => hb6, ?_⟩
     simp only [qZ]
     refine sqB 33 rfl (st_val rfl (v_moveT (.inr rfl) rfl) ?_)
     refine ⟨fun _ => Below.refl _ _, ?_⟩
     simp only [qZ]
     refine wpB_done (by kernel_rfl) ?_ _
     repeat ((fail_if_success refine sqx ?_); go_step)
     refine mqA ?_
     refine wqv (v_add (n := 1) rfl rfl rfl (w_i64 (by omega))) ?_
     refine mqB ?_
     go_wp2
     go_roundw
     case rel => exact ⟨j + 1, _, by omega, rfl, Lib.hid (by rw [Hnx.out]; exact Ow.of_block (show 8 ≤ maxLen by decide)), (hE6).sub (List.Sublist.cons_cons _ (List.Sublist.cons _ (List.Sublist.refl _)))⟩
     case measure => simp [intOf]; omega
    ·have hjn' : j = n := by omega
     subst hjn'
     have d1 := Lib.hid (decide_eq_false hjn)
     obtain ⟨V, hVV⟩ : ∃ V, R j = V := ⟨_, rfl⟩
     rw [hVV] at hV8 hcv
     have hcv' : ∀ i, i < 8 → cv[i]? = some (.int .u64 (V.getD i 0 : Nat)) := fun i hi => hcv i (by rw [hV8]; exact hi)
     have Hcv := Lib.hid hcv'
     have hbl := Hbl.out
     rw [hVV] at hbl
     have Hbl2 := Lib.hid hbl
     rw [hVV]
     clear hVV hcv hO hbl
     repeat ((fail_if_success refine sqx ?_); go_step)
     refine mqA ?_
     refine wqv (v_fieldB (s := 0) rfl rfl Tryz.underlying135 rfl (by kernel_rfl) rfl) ?_
     refine wqv (v_cellB (i := 1) hE0 rfl rfl rfl Tryz.underlying102 rfl kcl_r) ?_
     refine wqv (v_len rfl rfl Tryz.underlying102 (by omega)) ?_
     refine wqv (v_lss rfl rfl rfl) ?_
     rw [d1.out]
     repeat ((fail_if_success refine sqy ?_); go_step)
     refine cqF ?_
     skip
     repeat ((fail_if_success refine sqx ?_); go_step)
     refine mqC ?_
     repeat ((fail_if_success refine sqx ?_); go_step)
     refine mqC ?_
     have hst : Env w ([⟨gv, 50, cv⟩, ⟨g0, 135, (kcl k r fv (.slice p1 j c1)).toArray⟩, ⟨gw, 50, cw⟩] ++ []) wr := hE0
     clear hE0
     go_wp2
     go_loopw [15, 16] (fun s i wr => ∃ (n : Nat) (bs : List Blk), n ≤ 8 ∧ i = .int .i64 n ∧ Hid (Ow 50 (nats .u64 (BL.take n)) s bs) ∧ Env w ([⟨gv, 50, cv⟩, ⟨g0, 135, (kcl k r fv (.slice p1 j c1)).toArray⟩, ⟨gw, 50, cw⟩] ++ bs) wr) (fun _ i _ => 8 - (intOf i).toNat)
     case atStart => exact ⟨0, [], Nat.zero_le _, rfl, Lib.hid (by rw [List.take_zero]; exact Ow.nil _), hst⟩
     case round =>
      clear hst
      obtain ⟨n, bs, hn, rfl, hO, hE0⟩ := hrel
      by_cases hn8 : n < 8
      ·have d2 := Lib.hid (decide_eq_true hn8)
       obtain ⟨b, off, hpo, hcell⟩ := HH.out.at (j := n) (by rw [hh]; exact hn8)
       subst hpo
       have hnh : n < h.length := by rw [hh]; exact hn8
       have hnv : n < V.length := by rw [hV8]; exact hn8
       have HC := Lib.hid hcell
       have HCv := Lib.hid (Hcv.out n hn8)
       have hbn := Hbl2.out n hn8
       have hbt : nats .u64 (BL.take n) ++ nats .u64 [BL.getD n 0] = nats .u64 (BL.take (n + 1)) := by
        rw [nats_append, List.take_succ_eq_append_getElem (by rw [hbl8]; exact hn8), List.getD_eq_getElem?_getD, List.getElem?_eq_getElem (by rw [hbl8]; exact hn8)]
        rfl
       have hl63 : (nats .u64 (BL.take n)).length + ([0] : List Nat).length ≤ maxLen := by rw [nats_len, List.length_take]; simp only [List.length_singleton, maxLen]; omega
       have hlft : ((nats .u64 (BL.take n)).length + ([0] : List Nat).length) * 8 ≤ 140737488355328 := by rw [nats_len, List.length_take]; simp only [List.length_singleton]; omega
       obtain ⟨x, hx⟩ : ∃ x, h.getD n 0 = x := ⟨_, rfl⟩
       obtain ⟨y, hy⟩ : ∃ y, V.getD n 0 = y := ⟨_, rfl⟩
       obtain ⟨z, hz⟩ : ∃ z, BL.getD n 0 = z := ⟨_, rfl⟩
       rw [hx] at HC hbn
       rw [hy] at HCv hbn
       rw [hz] at hbn hbt
       have hfi : (x + y) % 18446744073709551616 &&& (2 ^ k.w - 1) = z := by rw [and_mask hw64, hbn]
       have m1 : (x + y) % 18446744073709551616 < 2 ^ IntKind.u64.bits := Nat.mod_lt _ (by decide)
       have Hfi := Lib.hid hfi
       have Hbt := Lib.hid hbt
       clear hcell hbn hbt hx hy hz hfi
       repeat ((fail_if_success refine sqx ?_); go_step)
       refine mqA ?_
       refine wqv (v_lss (n := 8) rfl rfl rfl) ?_
       rw [d2.out]
       repeat ((fail_if_success refine sqy ?_); go_step)
       refine cqT ?_
       skip
       repeat ((fail_if_success refine sqx ?_); go_step)
       refine wp_region_B (n := 16) 14 (by kernel_rfl) rfl hE0 ?_
       intro w1 hb1 hE1
       clear hE0
       refine tqB 0 rfl (v_moveT (.inl rfl) rfl) ?_
       refine tqB 1 rfl (v_moveT (.inl rfl) rfl) ?_
       refine tqB 2 rfl (v_moveT (.inl rfl) rfl) ?_
       refine tqB 3 rfl (v_indexS rfl rfl rfl Tryz.underlying102 (by kernel_rfl) (by first | exact hnh | exact hn8)) ?_
       refine tqB 4 rfl (v_cell rfl rfl Tryz.underlying50 rfl (fun w1 hb => HC.out w1 (hE1.below.trans (hb.mono hE1.below.size)))) ?_
       refine tqB 5 rfl (v_moveT (.inl rfl) rfl) ?_
       refine tqB 6 rfl (v_moveT (.inl rfl) rfl) ?_
       refine tqB 7 rfl (v_indexS0 rfl rfl rfl Tryz.underlying102 (by kernel_rfl) (by first | exact hnv | exact hn8)) ?_
       refine tqB 8 rfl (v_cellB (i := 0) hE1 rfl rfl rfl Tryz.underlying50 rfl HCv.out) ?_
       refine tqB 9 rfl (v_add rfl rfl rfl (w_u64m _)) ?_
       refine tqB 10 rfl (v_fieldB (s := 0) rfl rfl Tryz.underlying135 rfl (by kernel_rfl) rfl) ?_
       refine tqB 11 rfl (v_cellB (i := 1) hE1 rfl rfl rfl Tryz.underlying50 rfl kcl_x) ?_
       refine tqB 12 rfl (v_band rfl rfl rfl m1 m2 (w_and rfl m1)) ?_
       rw [Hfi.out]
       refine sqB 13 rfl (st_buildNums (k := .u64) [z] hE1 rfl rfl (by first | (kernel_rfl; done) | (simp only [List.map_cons, List.map_nil, List.zipIdx_cons, List.zipIdx_nil]; rfl)) rfl (by decide) (by decide) Tryz.underlying102 (by kernel_rfl) Tryz.zeroValue50 ?_)
       intro g1 w2 hb2 hE2
       clear hE1
       refine ⟨fun _ => hb2, ?_⟩
       simp only [qZ]
       refine sqB 14 rfl (st_append (hO.out.sl (hE2.perm (List.perm_append_comm (l₁ := [_, _, _, _])))) rfl rfl Tryz.underlying102 Hi.out Hz.out Hs.out rfl Hby.out rfl rfl (RdS.of_block (hE2.get (i := 0) rfl)) hl63 hlft ?_)
       intro v3 w3 hS3
       have hE3 := hS3.env
       clear hE2
       refine nqB ?_
       simp only [qZ]
       obtain ⟨bs4, ho4, hEE⟩ := hS3.ow
       rw [Hbt.out] at ho4
       refine sqB 15 rfl (st_val rfl (v_moveT (.inr rfl) rfl) ?_)
       refine ⟨fun _ => Below.refl _ _, ?_⟩
       simp only [qZ]
       refine wpB_done (by kernel_rfl) ?_ _
       repeat ((fail_if_success refine sqx ?_); go_step)
       refine mqA ?_
       refine wqv (v_add (n := 1) rfl rfl rfl (w_i64 (by omega))) ?_
       refine mqB ?_
       go_wp2
       go_roundw
       case rel => exact ⟨n + 1, bs4, by omega, rfl, Lib.hid ho4, ((hEE.perm List.perm_append_comm).sub (List.Sublist.cons _ (List.Sublist.refl _)))⟩
       case measure => simp [intOf]; omega
      ·have hn' : n = 8 := by omega
       subst hn'
       have d2 := Lib.hid (decide_eq_false hn8)
       have hS := hO.out.sl (l := []) (hE0.sub (by rw [List.append_nil]; exact List.sublist_append_right _ _))
       have htk : BL.take 8 = BL := List.take_of_length_le (by omega)
       rw [htk, ← HBL.out] at hS
       have HS := Lib.hid hS
       clear hS htk
       repeat ((fail_if_success refine sqx ?_); go_step)
       refine mqA ?_
       refine wqv (v_lss (n := 8) rfl rfl rfl) ?_
       rw [d2.out]
       repeat ((fail_if_success refine sqy ?_); go_step)
       refine cqF ?_
       skip
       repeat ((fail_if_success refine sqx ?_); go_step)
       refine mqA ?_
       refine mqB ?_
       go_wp2
       go_returns
       exact ⟨_, rfl, HS.out⟩
end Go.Proofs.YthddoelflmoedaaGreat
namespace Go.Proofs.YthddoelflmoedaaGreat
open Go.RowKit
set_option maxRecDepth 100000

theorem kcl_one {k : Kd} {r n m c d : Nat} {p q : Option Addr} : (kcl k r (.slice p n c) (.slice q m d)).toArray.all (·.oneCell') = true := by simp [kcl, Value.oneCell']
def kzero : List Value := [.int .i64 0, .slice none 0 0, .slice none 0 0] ++ List.replicate 13 (.int .i64 0) ++ [.int .u64 0]
theorem kcl_laid {k : Kd} {r n m c d : Nat} {p q : Option Addr} : laidAll [(0, 1), (1, 1), (2, 1), (3, 3), (6, 3), (9, 3), (12, 3), (15, 1), (16, 1)] kzero
  [(0, .int .i64 (k.w : Nat)), (1, .slice p n c), (2, .slice q m d), (3, .agg (ints .i64 [k.s0.1, k.s0.2.1, k.s0.2.2])), (4, .agg (ints .i64 [k.s1.1, k.s1.2.1, k.s1.2.2])), (5, .agg (ints .i64 [k.t0.1, k.t0.2.1, k.t0.2.2])), (6, .agg (ints .i64 [k.t1.1, k.t1.2.1, k.t1.2.2])), (7, .int .i64 (r : Nat)), (8, .int .u64 ((2 ^ k.w - 1 : Nat) : Int))] = some (kcl k r (.slice p n c) (.slice q m d)) := by
 simp [laidAll, kzero, kcl, Value.cells, ints, List.replicate]
end Go.Proofs.YthddoelflmoedaaGreat
namespace Go.Proofs.YthddoelflmoedaaGreat
open Go.RowKit
set_option maxRecDepth 100000

set_option maxRecDepth 100000 in
set_option maxHeartbeats 8000000 in
theorem KGreat_any (w : World) : Calls Tryz.prog 100 #[] w fun e w' => ∃ fv rv, e = .returned (.agg (kcl k512 16 fv rv).toArray) ∧ Below w.heap.size w w' ∧ RdS .u64 k512.first fv w' ∧ RdS .u64 k512.rounds rv w' := by
 have hE0 := Env.nil w
 go_enter Tryz.func100, Tryz.ntmps100
 repeat ((fail_if_success refine sqx ?_); go_step)
 refine wl_step (sqA (#[Value.int .i64 0, Value.slice none 0 0, Value.slice none 0 0, Value.int .i64 0, Value.int .i64 0, Value.int .i64 0, Value.int .i64 0, Value.int .i64 0, Value.int .i64 0, Value.int .i64 0, Value.int .i64 0, Value.int .i64 0, Value.int .i64 0, Value.int .i64 0, Value.int .i64 0, Value.int .i64 0, Value.int .u64 0]) hE0 ?_)
 intro g0 w1 hb1 hE1
 clear hE0
 simp only [qZ]
 repeat ((fail_if_success refine sqx ?_); go_step)
 refine wl_step (st_buildNums (k := .u64) k512.first hE1 rfl rfl (by first | (kernel_rfl; done) | (simp only [List.map_cons, List.map_nil, List.zipIdx_cons, List.zipIdx_nil]; rfl)) rfl (by decide) (by decide) Tryz.underlying102 (by kernel_rfl) Tryz.zeroValue50 ?_)
 intro g1 w2 hb2 hE2
 clear hE1
 simp only [qZ]
 refine wl_step (st_buildNums (k := .u64) k512.rounds hE2 rfl rfl (by first | (kernel_rfl; done) | (simp only [List.map_cons, List.map_nil, List.zipIdx_cons, List.zipIdx_nil]; rfl)) rfl (by decide) (by decide) Tryz.underlying102 (by kernel_rfl) Tryz.zeroValue50 ?_)
 intro g2 w3 hb3 hE3
 clear hE2
 simp only [qZ]
 refine wqv (v_built (k := .i64) (l := [k512.s0.1, k512.s0.2.1, k512.s0.2.2]) rfl (fun w => by kernel_rfl)) ?_
 refine wqv (v_built (k := .i64) (l := [k512.s1.1, k512.s1.2.1, k512.s1.2.2]) rfl (fun w => by kernel_rfl)) ?_
 refine wqv (v_built (k := .i64) (l := [k512.t0.1, k512.t0.2.1, k512.t0.2.2]) rfl (fun w => by kernel_rfl)) ?_
 refine wqv (v_built (k := .i64) (l := [k512.t1.1, k512.t1.2.1, k512.t1.2.2]) rfl (fun w => by kernel_rfl)) ?_
 refine wqv (v_buildV (zs := kzero) (vals := [(0, .int .i64 (k512.w : Nat)), (1, .slice (some ⟨g1, 0, none⟩) 8 8), (2, .slice (some ⟨g2, 0, none⟩) 80 80), (3, .agg (ints .i64 [k512.s0.1, k512.s0.2.1, k512.s0.2.2])), (4, .agg (ints .i64 [k512.s1.1, k512.s1.2.1, k512.s1.2.2])), (5, .agg (ints .i64 [k512.t0.1, k512.t0.2.1, k512.t0.2.2])), (6, .agg (ints .i64 [k512.t1.1, k512.t1.2.1, k512.t1.2.2])), (7, .int .i64 (16 : Nat)), (8, .int .u64 ((2 ^ k512.w - 1 : Nat) : Int))]) (kcl k512 16 (.slice (some ⟨g1, 0, none⟩) 8 8) (.slice (some ⟨g2, 0, none⟩) 80 80)) rfl (by kernel_rfl) Tryz.underlying135 (by kernel_rfl) rfl kcl_laid) ?_
 refine wl_step (st_store (i := 2) hE3 rfl rfl rfl rfl rfl (sz_of (n := 17) (by kernel_rfl) rfl) rfl kcl_one ?_)
 intro w4 hE4
 clear hE3
 simp only [qpB, qpC] at hE4
 simp only [qZ]
 repeat ((fail_if_success refine sqy ?_); go_step)
 refine bodyPost_ret (results_cell_row rfl _ _ _ _ _ (0, 0) _ rfl ((hE4).get (i := 2) rfl) Tryz.underlying135 rfl (sz_of (n := 17) (by kernel_rfl) rfl)) rfl ?_
 exact ⟨_, _, rfl, (hE4).below, RdS.of_block ((hE4).get (i := 1) rfl), RdS.of_block ((hE4).get (i := 0) rfl)⟩

end Go.Proofs.YthddoelflmoedaaGreat
