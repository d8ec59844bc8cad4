/-
  Layer 7, the document's: a seed's key; a signature.
  Layer 7, the document's: whether a signature is right.
  Layer 7: of any key, signature and message the program and the document say the same.
  Layer 7: 'SignVerifies': of any key, signature and message whether it is right; of any bytes whether they are a point's. No condition.
-/
import Derived.Test.YthddoelflmoedaaGreatJ36
import Derived.Test.YthddoelflmoedaaGreatJ38
set_option linter.unusedVariables false
set_option linter.unusedSimpArgs false
namespace Go.Proofs.YthddoelflmoedaaGreat
open Go.RowKit
set_option maxRecDepth 100000

theorem Env.more {w0 w w1 : World} {l : List Blk} {g : Nat} {T : TypeId} {cs : Array Value} (hE : Env w0 l w) (hb : Below w.heap.size w w1) (hn : w.heap.size ≤ g) (hg : w1.heap[g]? = some (.cells cs T (0, 0))) : Env w0 (⟨g, T, cs⟩ :: l) w1 :=
 (hE.call hb).add hg (Nat.le_trans hE.below.size hn) fun b hm => Nat.ne_of_gt (Nat.lt_of_lt_of_le (hE.lt hm) hn)

set_option maxHeartbeats 4000000 in
theorem rPublic_any {s : List Nat} (hs : s.length = 32) (ds : Digs 256 s) (w : World) : Gives 9 #[.agg (ints .u8 s)] w (.agg (ints .u8 (pubL s))) := by
 obtain ⟨g, hg, Gg⟩ := rBase4
 obtain ⟨z, hz, Gz⟩ := rMul4 hg (numL_len s) (numL_Digs s)
 have HB := Lib.hid (fun w => rBytes4 hz w)
 have HG := Lib.hid Gg
 have HZ := Lib.hid Gz
 have HS := Lib.hid (fun w => rSplit_any hs ds w)
 have lg := hg.len
 have lz := hz.len
 have l1 := numL_len s
 have l3 := pubL_len s
 have e : encB (smul (val 256 (numL s)) baseP) = pubL s := rfl
 rw [e] at HB
 clear hg hz Gg Gz e ds
 have hE0 := Env.nil w
 go_enter Tryz.func9, Tryz.ntmps9
 repeat ((fail_if_success refine sqx ?_); go_step)
 refine wl_step (st_boxA hE0 rfl rfl rfl ?_)
 intro g0 w1 hb1 hE1
 clear hE0
 simp only [qZ]
 refine wl_step (sqA (ints .u8 (List.replicate 32 0)) hE1 ?_)
 intro g1 w2 hb2 hE2
 clear hE1
 simp only [qZ]
 repeat ((fail_if_success refine sqx ?_); go_step)
 refine wqv (vqL 1 32 hE2 Tryz.underlying22) ?_
 refine wl_step (st_calls rfl (run_call rfl Tryz.call20) (HS.out _) ?_)
 rintro _ w3 ⟨g2, rfl, hb3, hn, hgS⟩
 have hE3 := hE2.more hb3 hn hgS
 refine ⟨_, rfl, ?_⟩
 clear hE2
 simp only [qZ]
 refine mqA ?_
 refine wqv (v_extract rfl rfl rfl) ?_
 refine wqv (v_extract rfl rfl rfl) ?_
 refine wl_step (sqA (ints .u8 (List.replicate 32 0)) hE3 ?_)
 intro g3 w4 hb4 hE4
 clear hE3
 simp only [qZ]
 refine wl_step (sqS 0 32 hE4 ?_)
 intro w5 hE5
 clear hE4
 simp only [qQ] at hE5
 simp only [qZ]
 refine mqB ?_
 repeat ((fail_if_success refine sqx ?_); go_step)
 refine wp_region_B (n := 5) 4 (by kernel_rfl) rfl hE5 ?_
 intro w6 hb6 hE6
 clear hE5
 refine tqB 1 rfl (vqL 0 32 hE6 Tryz.underlying22) ?_
 refine sqB 0 rfl (st_gives hE6 rfl (run_call rfl Tryz.call23) (HG.out _) ?_)
 intro w7 hb7 hE7
 clear hE6
 refine ⟨fun _ => hb7, ?_⟩
 simp only [qZ]
 refine sqB 2 rfl (st_gives hE7 rfl (run_call rfl Tryz.call22) (HZ.out _) ?_)
 intro w8 hb8 hE8
 clear hE7
 refine ⟨fun _ => hb8, ?_⟩
 simp only [qZ]
 refine sqB 3 rfl (st_gives hE8 rfl (run_call rfl Tryz.call21) (HB.out _) ?_)
 intro w9 hb9 hE9
 clear hE8
 refine ⟨fun _ => hb9, ?_⟩
 simp only [qZ]
 refine sqB 4 rfl (sqS 2 32 hE9 ?_)
 intro w10 hE10
 clear hE9
 simp only [qQ] at hE10
 refine nqB ?_
 simp only [qZ]
 refine wpB_done (by kernel_rfl) ?_ _
 repeat ((fail_if_success refine sqx ?_); go_step)
 refine bodyPost_ret (results_cell_row rfl _ _ _ _ _ (0, 0) _ rfl (hE10.get (i := 2) rfl) Tryz.underlying22 rfl (szqA (n := 32))) rfl ⟨rfl, hE10.below⟩

def outP (F S : List Nat) (j : Nat) : List Nat := firstAt F j ++ firstAt S j
theorem outP_zero (F S : List Nat) : outP F S 0 = List.replicate 64 0 := by unfold outP; rw [firstAt_zero, firstAt_zero]; decide
theorem outP_full {F S : List Nat} (hF : F.length = 32) (hS : S.length = 32) : outP F S 32 = F ++ S := by unfold outP; rw [firstAt_full, firstAt_full, List.take_of_length_le (by omega), List.take_of_length_le (by omega)]
theorem outP_len {F S : List Nat} (hF : F.length = 32) (hS : S.length = 32) {j : Nat} (hj : j ≤ 32) : (outP F S j).length = 64 := by unfold outP; rw [List.length_append, firstAt_len (by omega) hj, firstAt_len (by omega) hj]
theorem outP_set {F S : List Nat} (hF : F.length = 32) (hS : S.length = 32) {j : Nat} (hj : j < 32) : ((outP F S j).set j (F.getD j 0)).set (32 + j) (S.getD j 0) = outP F S (j + 1) := by
 unfold outP
 have l1 : (firstAt F j).length = 32 := firstAt_len (by omega) (by omega)
 rw [List.set_append_left _ _ (by omega), List.set_append_right _ _ (by rw [List.length_set]; omega), List.length_set, l1, Nat.add_sub_cancel_left, firstAt_set (by omega) hj, firstAt_set (by omega) hj]

set_option maxHeartbeats 16000000 in
theorem rSignBy_any {s m : List Nat} {v : Value} {w : World} (hs : s.length = 32) (ds : Digs 256 s) (hm : RdS .u8 m v w) (dm : Digs 256 m) (hl : m.length < 274877906944) : Gives 26 #[.agg (ints .u8 s), .agg (ints .u8 (pubL s)), v] w (.agg (ints .u8 (sigL s m))) := by
 have l1 := numL_len s
 have l3 := pubL_len s
 have l4 : (rL s m).length = 32 := hashL_len _
 have l5 := firstL_len s m
 have l6 := lastL_len s m
 have l8 := sigL_len s m
 have HS := Lib.hid (fun w => rSplit_any hs ds w)
 obtain ⟨g, hg, Gg⟩ := rBase4
 obtain ⟨z, hz, Gz⟩ := rMul4 hg (hashL_len (saltL s ++ m)) (hashL_Digs (saltL s ++ m))
 have HB := Lib.hid (fun w => rBytes4 hz w)
 have HG := Lib.hid Gg
 have HZ := Lib.hid Gz
 have lg := hg.len
 have lz := hz.len
 have e1 : encB (smul (val 256 (hashL (saltL s ++ m))) baseP) = firstL s m := rfl
 have e2 : hashL (saltL s ++ m) = rL s m := rfl
 have HM := Lib.hid (fun w => rMulAdd_any (kL s m) (numL s) (rL s m) (hashL_len _) l1 (hashL_len _) (hashL_Digs _) (numL_Digs s) (hashL_Digs _) w)
 have e3 : digs 256 32 ((val 256 (kL s m) * val 256 (numL s) + val 256 (rL s m)) % q) = lastL s m := rfl
 rw [e1] at HB
 rw [e2] at HZ
 rw [e3] at HM
 have H1 : Hid (∀ (w1 : World) (v : Value), RdS .u8 (saltL s ++ m) v w1 → Gives 33 #[v] w1 (.agg (ints .u8 (rL s m)))) := Lib.hid (fun w1 v h => rHash_any h ((saltL_Digs s).append dm) (by rw [List.length_append, saltL_len]; omega))
 have H2 : Hid (∀ (w1 : World) (v : Value), RdS .u8 (firstL s m ++ pubL s ++ m) v w1 → Gives 33 #[v] w1 (.agg (ints .u8 (kL s m)))) := Lib.hid (fun w1 v h => rHash_any h (((firstL_Digs s m).append (pubL_Digs s)).append dm) (by rw [List.length_append, List.length_append, firstL_len, pubL_len]; omega))
 have lk : (kL s m).length = 32 := hashL_len _
 obtain ⟨iu, hi, hz', hsz, hby⟩ := info_u8
 have Hi := Lib.hid hi
 have Hz := Lib.hid hz'
 have Hsz := Lib.hid hsz
 have Hby := Lib.hid hby
 have Hm := Lib.hid hm
 have HSl : Hid (∀ (w : World) (g : Nat), w.heap[g]? = some (.cells (ints .u8 (sum512 s)) 30 (0, 0)) → RdS .u8 (saltL s) (.slice (some ⟨g, 32, none⟩) 32 32) w) := Lib.hid (fun w g h => by
  have := RdS.part (lo := 32) (n := 32) (c := 32) h (by rw [sum512_len]; decide) (by decide)
  rwa [List.take_of_length_le (by rw [List.length_drop, sum512_len]; decide)] at this)
 have hFF := Lib.hid (fun j => outP_set (F := firstL s m) (S := lastL s m) l5 l6 (j := j))
 have hFl := Lib.hid (fun j => outP_len (F := firstL s m) (S := lastL s m) l5 l6 (j := j))
 have hF0 := Lib.hid (outP_zero (firstL s m) (lastL s m))
 have hF1 : outP (firstL s m) (lastL s m) 32 = sigL s m := outP_full l5 l6
 have HF1 := Lib.hid hF1
 have hsl := saltL_len s
 obtain ⟨SA, hSA⟩ : ∃ x, saltL s = x := ⟨_, rfl⟩
 obtain ⟨F, hF⟩ : ∃ x, firstL s m = x := ⟨_, rfl⟩
 obtain ⟨S, hS⟩ : ∃ x, lastL s m = x := ⟨_, rfl⟩
 obtain ⟨K, hK⟩ : ∃ x, pubL s = x := ⟨_, rfl⟩
 obtain ⟨R, hR⟩ : ∃ x, rL s m = x := ⟨_, rfl⟩
 obtain ⟨KK, hKK⟩ : ∃ x, kL s m = x := ⟨_, rfl⟩
 obtain ⟨NU, hNU⟩ : ∃ x, numL s = x := ⟨_, rfl⟩
 obtain ⟨HH, hHH⟩ : ∃ x, sum512 s = x := ⟨_, rfl⟩
 rw [hNU, hHH] at HS
 rw [hNU] at l1 HM
 rw [hHH] at HSl
 rw [hSA] at H1 HSl hsl
 rw [hR] at H1 HZ HM l4
 rw [hF] at H2 HB l5 hFF hFl hF0 HF1
 rw [hS] at HM l6 hFF hFl hF0 HF1
 rw [hK] at H2 l3 ⊢
 rw [hKK] at H2 HM lk
 have a1 : ([] : List Value).length + SA.length ≤ maxLen := by simp only [List.length_nil, maxLen]; omega
 have a2 : (([] : List Value).length + SA.length) * 1 ≤ 140737488355328 := by simp only [List.length_nil]; omega
 have a3 : (nats .u8 SA).length + m.length ≤ maxLen := by rw [nats_len]; simp only [maxLen]; omega
 have a4 : ((nats .u8 SA).length + m.length) * 1 ≤ 140737488355328 := by rw [nats_len]; omega
 have b1 : ([] : List Value).length + F.length ≤ maxLen := by simp only [List.length_nil, maxLen]; omega
 have b2 : (([] : List Value).length + F.length) * 1 ≤ 140737488355328 := by simp only [List.length_nil]; omega
 have b3 : (nats .u8 F).length + K.length ≤ maxLen := by rw [nats_len]; simp only [maxLen]; omega
 have b4 : ((nats .u8 F).length + K.length) * 1 ≤ 140737488355328 := by rw [nats_len]; omega
 have b5 : (nats .u8 (F ++ K)).length + m.length ≤ maxLen := by rw [nats_len, List.length_append]; simp only [maxLen]; omega
 have b6 : ((nats .u8 (F ++ K)).length + m.length) * 1 ≤ 140737488355328 := by rw [nats_len, List.length_append]; omega
 clear hg hz Gg Gz e1 e2 e3 ds dm hm hi hz' hsz hby hSA hF hS hK hR hKK hNU hHH hF1 hl
 have hE0 := Env.nil w
 go_enter Tryz.func26, Tryz.ntmps26
 repeat ((fail_if_success refine sqx ?_); go_step)
 refine wl_step (st_boxA hE0 rfl rfl rfl ?_)
 intro g0 w1 hb1 hE1
 clear hE0
 simp only [qZ]
 refine wl_step (st_boxA hE1 rfl rfl rfl ?_)
 intro g1 w2 hb2 hE2
 clear hE1
 simp only [qZ]
 refine wl_step (sqA (ints .u8 (List.replicate 64 0)) hE2 ?_)
 intro g2 w3 hb3 hE3
 clear hE2
 simp only [qZ]
 repeat ((fail_if_success refine sqx ?_); go_step)
 refine wqv (vqL 2 32 hE3 Tryz.underlying22) ?_
 refine wl_step (st_calls rfl (run_call rfl Tryz.call20) (HS.out _) ?_)
 rintro _ w4 ⟨g3, rfl, hb4, hn, hgS⟩
 have hE4 := hE3.more hb4 hn hgS
 refine ⟨_, rfl, ?_⟩
 clear hE3
 simp only [qZ]
 refine mqA ?_
 refine wqv (v_extract rfl rfl rfl) ?_
 refine wqv (v_extract rfl rfl rfl) ?_
 refine wl_step (sqA (ints .u8 (List.replicate 32 0)) hE4 ?_)
 intro g4 w5 hb5 hE5
 clear hE4
 simp only [qZ]
 refine wl_step (sqS 0 32 hE5 ?_)
 intro w6 hE6
 clear hE5
 simp only [qQ] at hE6
 simp only [qZ]
 refine mqB ?_
 repeat ((fail_if_success refine sqx ?_); go_step)
 refine wl_step (st_build0' hE6 rfl rfl Tryz.underlying24 (by kernel_rfl) ?_)
 intro g5 w7 hb7 hE7
 clear hE6
 simp only [qZ]
 obtain ⟨bs0, ho0, hEE⟩ := (Sl.of_block hE7 (by decide)).ow
 clear hE7
 have hE7 := hEE.perm List.perm_append_comm
 clear hEE
 refine mqA ?_
 refine wl_step (st_append (ho0.sl (hE7.perm (List.perm_append_comm (l₁ := [_, _, _, _, _])))) rfl rfl Tryz.underlying24 Hi.out Hz.out Hsz.out rfl Hby.out rfl rfl (HSl.out _ _ (hE7.get (i := 1) rfl)) a1 a2 ?_)
 intro v8 w8 hS8
 have hE8 := hS8.env
 clear hE7
 simp only [qZ]
 obtain ⟨bs1, ho1, hEE⟩ := hS8.ow
 clear hE8 hS8
 have hE8 := hEE.perm List.perm_append_comm
 clear hEE
 refine mqA ?_
 refine wl_step (st_append (xs := nats .u8 SA) (ho1.sl (hE8.perm (List.perm_append_comm (l₁ := [_, _, _, _, _])))) rfl rfl Tryz.underlying24 Hi.out Hz.out Hsz.out rfl Hby.out rfl rfl (Hm.out.below hE8.below) a3 a4 ?_)
 intro v9 w9 hS9
 have hE9 := hS9.env
 clear hE8
 simp only [qZ]
 obtain ⟨bs2, ho2, hEE⟩ := hS9.ow
 rw [nats_append] at ho2
 clear hE9 hS9
 have hE9 := hEE.perm List.perm_append_comm
 clear hEE
 refine wl_step (st_gives hE9 rfl (run_call rfl Tryz.call33) (H1.out _ _ ((ho2.sl (hE9.perm (List.perm_append_comm (l₁ := [_, _, _, _, _])))).rdS)) ?_)
 intro w10 hb10 hE10
 clear hE9
 simp only [qZ]
 refine wl_step (sqA (ints .u8 (List.replicate 32 0)) hE10 ?_)
 intro g6 w11 hb11 hE11
 clear hE10
 simp only [qZ]
 refine wl_step (sqS 0 32 hE11 ?_)
 intro w12 hE12
 clear hE11
 simp only [qQ] at hE12
 simp only [qZ]
 replace hE12 := (hE12).sub (List.sublist_append_left [_, _, _, _, _, _] _)
 repeat ((fail_if_success refine sqx ?_); go_step)
 refine wp_region_env 5 (by kernel_rfl) (by kernel_rfl) (fun _ _ d _ _ h => by cases d <;> exact h) hE12 ?_
 refine headRun_call (fun w1 => run_call rfl Tryz.call23) (fun w1 hW => HG.out _) ?_
 simp only [qZ]
 refine hqv (fun _ hW => (vqL 0 32 hW Tryz.underlying22)) ?_
 refine headRun_call (fun w1 => run_call rfl Tryz.call22) (fun w1 hW => HZ.out _) ?_
 simp only [qZ]
 refine headRun_call (fun w1 => run_call rfl Tryz.call21) (fun w1 hW => HB.out _) ?_
 simp only [qZ]
 refine headRun_alloc (zs := ints .u8 (List.replicate 32 0)) rfl rfl (fun w => by kernel_rfl) ?_
 simp only [qZ]
 refine headRun_nil (endK1 ?_)
 intro g7 w13 hE13
 clear hE12
 simp only [List.drop_succ_cons, List.drop_zero, Act.put, qpA, qpB, qpC]
 refine wl_step (sqS 0 32 hE13 ?_)
 intro w14 hE14
 clear hE13
 simp only [qQ] at hE14
 simp only [qZ]
 repeat ((fail_if_success refine sqx ?_); go_step)
 apply wp_region_D (n := 10) (fun gH _ _ => [⟨gH, 22, ints .u8 KK⟩, ⟨g7, 22, ints .u8 F⟩, ⟨g6, 22, ints .u8 R⟩, ⟨g4, 22, ints .u8 NU⟩, ⟨g3, 30, ints .u8 HH⟩, ⟨g2, 30, ints .u8 (List.replicate 64 0)⟩, ⟨g1, 22, ints .u8 K⟩, ⟨g0, 22, ints .u8 s⟩]) 0 (by kernel_rfl) rfl hE14
 focus
  intro hcont w15 hb15 hE15
  obtain ⟨gx1, gx2, gx3, vx1, vx2, vx3, -⟩ : ∃ (a b c : Nat) (d e f : Value), True := ⟨0, 0, 0, undef, undef, undef, trivial⟩
  refine wpB_takeU (i := 1) rfl (by kernel_rfl) (fun _ _ _ h => h) rfl (fun _ => (v_sliceAll rfl rfl Tryz.underlying22 (by kernel_rfl))) ?_
  simp only [qZ]
  refine wpB_takeU (i := 3) rfl (by kernel_rfl) (fun _ _ _ h => h) rfl (fun _ => (v_sliceAll rfl rfl Tryz.underlying22 (by kernel_rfl))) ?_
  simp only [qZ]
  refine wpB_takeU (i := 5) rfl (by kernel_rfl) (fun _ _ _ h => h) rfl (fun _ => (v_moveT (.inl rfl) rfl)) ?_
  simp only [qZ]
  refine wpB_step2 (i := 0) (j := 8) (by kernel_rfl) rfl rfl ?br1a ?br1b
  case br1a =>
   refine st_build0' hE15 rfl rfl Tryz.underlying24 (by kernel_rfl) ?_
   intro g8 w16 hb16 hE16
   clear hE15
   refine nqB ?_
   simp only [qZ]
   obtain ⟨bs3, ho3, hEE⟩ := (Sl.of_block hE16 (by decide)).ow
   clear hE16
   have hE16 := hEE.perm List.perm_append_comm
   clear hEE
   refine wpB_step2 (i := 2) (j := 8) (by kernel_rfl) rfl rfl ?br2a ?br2b
   case br2a =>
    refine st_append (ho3.sl (hE16.perm (List.perm_append_comm (l₁ := [_, _, _, _, _, _, _])))) rfl rfl Tryz.underlying24 Hi.out Hz.out Hsz.out rfl Hby.out rfl rfl (RdS.whole (hE16.get (i := 0) rfl) l5) b1 b2 ?_
    intro v17 w17 hS17
    have hE17 := hS17.env
    clear hE16
    refine nqB ?_
    simp only [qZ]
    obtain ⟨bs4, ho4, hEE⟩ := hS17.ow
    clear hE17 hS17
    have hE17 := hEE.perm List.perm_append_comm
    clear hEE
    refine wpB_step2 (i := 4) (j := 8) (by kernel_rfl) rfl rfl ?br3a ?br3b
    case br3a =>
     refine st_append (xs := nats .u8 F) (ho4.sl (hE17.perm (List.perm_append_comm (l₁ := [_, _, _, _, _, _, _])))) rfl rfl Tryz.underlying24 Hi.out Hz.out Hsz.out rfl Hby.out rfl rfl (RdS.whole (hE17.get (i := 5) rfl) l3) b3 b4 ?_
     intro v18 w18 hS18
     have hE18 := hS18.env
     clear hE17
     refine nqB ?_
     simp only [qZ]
     obtain ⟨bs6, ho6, hEE⟩ := hS18.ow
     rw [nats_append] at ho6
     clear hE18 hS18
     have hE18 := hEE.perm List.perm_append_comm
     clear hEE
     refine wpB_step2 (i := 6) (j := 8) (by kernel_rfl) rfl rfl ?br4a ?br4b
     case br4a =>
      refine st_append (xs := nats .u8 (F ++ K)) (ho6.sl (hE18.perm (List.perm_append_comm (l₁ := [_, _, _, _, _, _, _])))) rfl rfl Tryz.underlying24 Hi.out Hz.out Hsz.out rfl Hby.out rfl rfl (Hm.out.below hE18.below) b5 b6 ?_
      intro v19 w19 hS19
      have hE19 := hS19.env
      clear hE18
      refine nqB ?_
      simp only [qZ]
      obtain ⟨bs5, ho5, hEE⟩ := hS19.ow
      rw [nats_append] at ho5
      clear hE19 hS19
      have hE19 := hEE.perm List.perm_append_comm
      clear hEE
      refine wpB_step2 (i := 7) (j := 8) (by kernel_rfl) rfl rfl ?br5a ?br5b
      case br5a =>
       refine st_gives hE19 rfl (run_call rfl Tryz.call33) (H2.out _ _ ((ho5.sl (hE19.perm (List.perm_append_comm (l₁ := [_, _, _, _, _, _, _])))).rdS)) ?_
       intro w20 hb20 hE20
       clear hE19
       refine nqB ?_
       simp only [qZ]
       refine sqB 8 rfl (sqA (ints .u8 (List.replicate 32 0)) hE20 ?_)
       intro g9 w21 hb21 hE21
       clear hE20
       refine nqB ?_
       simp only [qZ]
       refine sqB 9 rfl (sqS 0 32 hE21 ?_)
       intro w22 hE22
       clear hE21
       simp only [qQ] at hE22
       refine nqB ?_
       simp only [qZ]
       replace hE22 := hE22.sub (List.sublist_append_left [_, _, _, _, _, _, _, _] _)
       refine wpB_done (by kernel_rfl) ?_ _
       exact hcont g9 g8 gx1 v17 v18 v19 _ (hE22)
      case br5b =>
       refine sqA (ints .u8 (List.replicate 32 0)) hE19 ?_
       intro g9 w20 hb20 hE20
       clear hE19
       refine nqB ?_
       simp only [qZ]
       refine sqB 7 rfl (st_gives hE20 rfl (run_call rfl Tryz.call33) (H2.out _ _ ((ho5.sl (hE20.perm (List.perm_append_comm (l₁ := [_, _, _, _, _, _, _, _])))).rdS)) ?_)
       intro w21 hb21 hE21
       clear hE20
       refine nqB ?_
       simp only [qZ]
       refine sqB 9 rfl (sqS 0 32 hE21 ?_)
       intro w22 hE22
       clear hE21
       simp only [qQ] at hE22
       refine nqB ?_
       simp only [qZ]
       replace hE22 := hE22.sub (List.sublist_append_left [_, _, _, _, _, _, _, _] _)
       refine wpB_done (by kernel_rfl) ?_ _
       exact hcont g9 g8 gx1 v17 v18 v19 _ (hE22)
     case br4b =>
      refine sqA (ints .u8 (List.replicate 32 0)) hE18 ?_
      intro g9 w19 hb19 hE19
      clear hE18
      refine nqB ?_
      simp only [qZ]
      refine sqB 6 rfl (st_append (xs := nats .u8 (F ++ K)) (ho6.sl (hE19.perm (List.perm_append_comm (l₁ := [_, _, _, _, _, _, _, _])))) rfl rfl Tryz.underlying24 Hi.out Hz.out Hsz.out rfl Hby.out rfl rfl (Hm.out.below hE19.below) b5 b6 ?_)
      intro v20 w20 hS20
      have hE20 := hS20.env
      clear hE19
      refine nqB ?_
      simp only [qZ]
      obtain ⟨bs5, ho5, hEE⟩ := hS20.ow
      rw [nats_append] at ho5
      clear hE20 hS20
      have hE20 := hEE.perm List.perm_append_comm
      clear hEE
      refine sqB 7 rfl (st_gives hE20 rfl (run_call rfl Tryz.call33) (H2.out _ _ ((ho5.sl (hE20.perm (List.perm_append_comm (l₁ := [_, _, _, _, _, _, _, _])))).rdS)) ?_)
      intro w21 hb21 hE21
      clear hE20
      refine nqB ?_
      simp only [qZ]
      refine sqB 9 rfl (sqS 0 32 hE21 ?_)
      intro w22 hE22
      clear hE21
      simp only [qQ] at hE22
      refine nqB ?_
      simp only [qZ]
      replace hE22 := hE22.sub (List.sublist_append_left [_, _, _, _, _, _, _, _] _)
      refine wpB_done (by kernel_rfl) ?_ _
      exact hcont g9 g8 gx1 v17 v18 v20 _ (hE22)
    case br3b =>
     refine sqA (ints .u8 (List.replicate 32 0)) hE17 ?_
     intro g9 w18 hb18 hE18
     clear hE17
     refine nqB ?_
     simp only [qZ]
     refine sqB 4 rfl (st_append (xs := nats .u8 F) (ho4.sl (hE18.perm (List.perm_append_comm (l₁ := [_, _, _, _, _, _, _, _])))) rfl rfl Tryz.underlying24 Hi.out Hz.out Hsz.out rfl Hby.out rfl rfl (RdS.whole (hE18.get (i := 6) rfl) l3) b3 b4 ?_)
     intro v19 w19 hS19
     have hE19 := hS19.env
     clear hE18
     refine nqB ?_
     simp only [qZ]
     obtain ⟨bs6, ho6, hEE⟩ := hS19.ow
     rw [nats_append] at ho6
     clear hE19 hS19
     have hE19 := hEE.perm List.perm_append_comm
     clear hEE
     refine sqB 6 rfl (st_append (xs := nats .u8 (F ++ K)) (ho6.sl (hE19.perm (List.perm_append_comm (l₁ := [_, _, _, _, _, _, _, _])))) rfl rfl Tryz.underlying24 Hi.out Hz.out Hsz.out rfl Hby.out rfl rfl (Hm.out.below hE19.below) b5 b6 ?_)
     intro v20 w20 hS20
     have hE20 := hS20.env
     clear hE19
     refine nqB ?_
     simp only [qZ]
     obtain ⟨bs5, ho5, hEE⟩ := hS20.ow
     rw [nats_append] at ho5
     clear hE20 hS20
     have hE20 := hEE.perm List.perm_append_comm
     clear hEE
     refine sqB 7 rfl (st_gives hE20 rfl (run_call rfl Tryz.call33) (H2.out _ _ ((ho5.sl (hE20.perm (List.perm_append_comm (l₁ := [_, _, _, _, _, _, _, _])))).rdS)) ?_)
     intro w21 hb21 hE21
     clear hE20
     refine nqB ?_
     simp only [qZ]
     refine sqB 9 rfl (sqS 0 32 hE21 ?_)
     intro w22 hE22
     clear hE21
     simp only [qQ] at hE22
     refine nqB ?_
     simp only [qZ]
     replace hE22 := hE22.sub (List.sublist_append_left [_, _, _, _, _, _, _, _] _)
     refine wpB_done (by kernel_rfl) ?_ _
     exact hcont g9 g8 gx1 v17 v19 v20 _ (hE22)
   case br2b =>
    refine sqA (ints .u8 (List.replicate 32 0)) hE16 ?_
    intro g9 w17 hb17 hE17
    clear hE16
    refine nqB ?_
    simp only [qZ]
    refine sqB 2 rfl (st_append (ho3.sl (hE17.perm (List.perm_append_comm (l₁ := [_, _, _, _, _, _, _, _])))) rfl rfl Tryz.underlying24 Hi.out Hz.out Hsz.out rfl Hby.out rfl rfl (RdS.whole (hE17.get (i := 1) rfl) l5) b1 b2 ?_)
    intro v18 w18 hS18
    have hE18 := hS18.env
    clear hE17
    refine nqB ?_
    simp only [qZ]
    obtain ⟨bs4, ho4, hEE⟩ := hS18.ow
    clear hE18 hS18
    have hE18 := hEE.perm List.perm_append_comm
    clear hEE
    refine sqB 4 rfl (st_append (xs := nats .u8 F) (ho4.sl (hE18.perm (List.perm_append_comm (l₁ := [_, _, _, _, _, _, _, _])))) rfl rfl Tryz.underlying24 Hi.out Hz.out Hsz.out rfl Hby.out rfl rfl (RdS.whole (hE18.get (i := 6) rfl) l3) b3 b4 ?_)
    intro v19 w19 hS19
    have hE19 := hS19.env
    clear hE18
    refine nqB ?_
    simp only [qZ]
    obtain ⟨bs6, ho6, hEE⟩ := hS19.ow
    rw [nats_append] at ho6
    clear hE19 hS19
    have hE19 := hEE.perm List.perm_append_comm
    clear hEE
    refine sqB 6 rfl (st_append (xs := nats .u8 (F ++ K)) (ho6.sl (hE19.perm (List.perm_append_comm (l₁ := [_, _, _, _, _, _, _, _])))) rfl rfl Tryz.underlying24 Hi.out Hz.out Hsz.out rfl Hby.out rfl rfl (Hm.out.below hE19.below) b5 b6 ?_)
    intro v20 w20 hS20
    have hE20 := hS20.env
    clear hE19
    refine nqB ?_
    simp only [qZ]
    obtain ⟨bs5, ho5, hEE⟩ := hS20.ow
    rw [nats_append] at ho5
    clear hE20 hS20
    have hE20 := hEE.perm List.perm_append_comm
    clear hEE
    refine sqB 7 rfl (st_gives hE20 rfl (run_call rfl Tryz.call33) (H2.out _ _ ((ho5.sl (hE20.perm (List.perm_append_comm (l₁ := [_, _, _, _, _, _, _, _])))).rdS)) ?_)
    intro w21 hb21 hE21
    clear hE20
    refine nqB ?_
    simp only [qZ]
    refine sqB 9 rfl (sqS 0 32 hE21 ?_)
    intro w22 hE22
    clear hE21
    simp only [qQ] at hE22
    refine nqB ?_
    simp only [qZ]
    replace hE22 := hE22.sub (List.sublist_append_left [_, _, _, _, _, _, _, _] _)
    refine wpB_done (by kernel_rfl) ?_ _
    exact hcont g9 g8 gx1 v18 v19 v20 _ (hE22)
  case br1b =>
   refine sqA (ints .u8 (List.replicate 32 0)) hE15 ?_
   intro g8 w16 hb16 hE16
   clear hE15
   refine nqB ?_
   simp only [qZ]
   refine sqB 0 rfl (st_build0' hE16 rfl rfl Tryz.underlying24 (by kernel_rfl) ?_)
   intro g9 w17 hb17 hE17
   clear hE16
   refine nqB ?_
   simp only [qZ]
   obtain ⟨bs3, ho3, hEE⟩ := (Sl.of_block hE17 (by decide)).ow
   clear hE17
   have hE17 := hEE.perm List.perm_append_comm
   clear hEE
   refine sqB 2 rfl (st_append (ho3.sl (hE17.perm (List.perm_append_comm (l₁ := [_, _, _, _, _, _, _, _])))) rfl rfl Tryz.underlying24 Hi.out Hz.out Hsz.out rfl Hby.out rfl rfl (RdS.whole (hE17.get (i := 1) rfl) l5) b1 b2 ?_)
   intro v18 w18 hS18
   have hE18 := hS18.env
   clear hE17
   refine nqB ?_
   simp only [qZ]
   obtain ⟨bs4, ho4, hEE⟩ := hS18.ow
   clear hE18 hS18
   have hE18 := hEE.perm List.perm_append_comm
   clear hEE
   refine sqB 4 rfl (st_append (xs := nats .u8 F) (ho4.sl (hE18.perm (List.perm_append_comm (l₁ := [_, _, _, _, _, _, _, _])))) rfl rfl Tryz.underlying24 Hi.out Hz.out Hsz.out rfl Hby.out rfl rfl (RdS.whole (hE18.get (i := 6) rfl) l3) b3 b4 ?_)
   intro v19 w19 hS19
   have hE19 := hS19.env
   clear hE18
   refine nqB ?_
   simp only [qZ]
   obtain ⟨bs6, ho6, hEE⟩ := hS19.ow
   rw [nats_append] at ho6
   clear hE19 hS19
   have hE19 := hEE.perm List.perm_append_comm
   clear hEE
   refine sqB 6 rfl (st_append (xs := nats .u8 (F ++ K)) (ho6.sl (hE19.perm (List.perm_append_comm (l₁ := [_, _, _, _, _, _, _, _])))) rfl rfl Tryz.underlying24 Hi.out Hz.out Hsz.out rfl Hby.out rfl rfl (Hm.out.below hE19.below) b5 b6 ?_)
   intro v20 w20 hS20
   have hE20 := hS20.env
   clear hE19
   refine nqB ?_
   simp only [qZ]
   obtain ⟨bs5, ho5, hEE⟩ := hS20.ow
   rw [nats_append] at ho5
   clear hE20 hS20
   have hE20 := hEE.perm List.perm_append_comm
   clear hEE
   refine sqB 7 rfl (st_gives hE20 rfl (run_call rfl Tryz.call33) (H2.out _ _ ((ho5.sl (hE20.perm (List.perm_append_comm (l₁ := [_, _, _, _, _, _, _, _])))).rdS)) ?_)
   intro w21 hb21 hE21
   clear hE20
   refine nqB ?_
   simp only [qZ]
   refine sqB 9 rfl (sqS 0 32 hE21 ?_)
   intro w22 hE22
   clear hE21
   simp only [qQ] at hE22
   refine nqB ?_
   simp only [qZ]
   replace hE22 := hE22.sub (List.sublist_append_left [_, _, _, _, _, _, _, _] _)
   refine wpB_done (by kernel_rfl) ?_ _
   exact hcont g8 g9 gx1 v18 v19 v20 _ (hE22)
 intro gH gZ _ vA vB vC w16 hE16
 repeat ((fail_if_success refine sqx ?_); go_step)
 refine wqv (vqL 0 32 hE16 Tryz.underlying22) ?_
 refine wqv (vqL 3 32 hE16 Tryz.underlying22) ?_
 refine wqv (vqL 2 32 hE16 Tryz.underlying22) ?_
 refine wl_step (st_gives hE16 rfl (run_call rfl Tryz.call68) (HM.out _) ?_)
 intro w17 hb17 hE17
 clear hE16
 simp only [qZ]
 refine wl_step (sqA (ints .u8 (List.replicate 32 0)) hE17 ?_)
 intro g8 w18 hb18 hE18
 clear hE17
 simp only [qZ]
 refine wl_step (sqS 0 32 hE18 ?_)
 intro w19 hE19
 clear hE18
 simp only [qQ] at hE19
 simp only [qZ]
 repeat ((fail_if_success refine sqx ?_); go_step)
 refine wl_step (sqA (ints .u8 (List.replicate 64 0)) hE19 ?_)
 intro g9 w20 hb20 hE20
 clear hE19
 simp only [qZ]
 repeat ((fail_if_success refine sqx ?_); go_step)
 refine mqC ?_
 have hst : Env w [⟨g9, 30, ints .u8 (outP F S 0)⟩, ⟨g8, 22, ints .u8 S⟩, ⟨gH, 22, ints .u8 KK⟩, ⟨g7, 22, ints .u8 F⟩, ⟨g6, 22, ints .u8 R⟩, ⟨g4, 22, ints .u8 NU⟩, ⟨g3, 30, ints .u8 HH⟩, ⟨g2, 30, ints .u8 (List.replicate 64 0)⟩, ⟨g1, 22, ints .u8 K⟩, ⟨g0, 22, ints .u8 s⟩] w20 := by
  rw [hF0.out]
  exact hE20
 clear hE20
 go_wp2
 go_loopw [14] (fun i wr => ∃ j : Nat, j ≤ 32 ∧ i = .int .i64 j ∧ Env w [⟨g9, 30, ints .u8 (outP F S j)⟩, ⟨g8, 22, ints .u8 S⟩, ⟨gH, 22, ints .u8 KK⟩, ⟨g7, 22, ints .u8 F⟩, ⟨g6, 22, ints .u8 R⟩, ⟨g4, 22, ints .u8 NU⟩, ⟨g3, 30, ints .u8 HH⟩, ⟨g2, 30, ints .u8 (List.replicate 64 0)⟩, ⟨g1, 22, ints .u8 K⟩, ⟨g0, 22, ints .u8 s⟩] wr) (fun i _ => 32 - (intOf i).toNat)
 case atStart => exact ⟨0, Nat.zero_le _, rfl, hst⟩
 case round =>
  clear hst
  obtain ⟨j, hj, rfl, hE0⟩ := hrel
  by_cases hj32 : j < 32
  ·have d1 := Lib.hid (decide_eq_true hj32)
   have hs1 := Lib.hid (hFF.out j hj32)
   have hln := hFl.out j hj
   have hjF : j < F.length := by omega
   have hjS : j < S.length := by omega
   have hj64 : j < 64 := by omega
   have hjj : 32 + j < 64 := by omega
   repeat ((fail_if_success refine sqx ?_); go_step)
   refine mqA ?_
   refine wqv (v_lss (n := 32) rfl rfl rfl) ?_
   rw [d1.out]
   repeat ((fail_if_success refine sqy ?_); go_step)
   refine cqT ?_
   skip
   repeat ((fail_if_success refine sqx ?_); go_step)
   apply wp_region_D (n := 13) (fun _ _ _ => [⟨g9, 30, ints .u8 (((outP F S j).set j (F.getD j 0)).set (32 + j) (S.getD j 0))⟩, ⟨g8, 22, ints .u8 S⟩, ⟨gH, 22, ints .u8 KK⟩, ⟨g7, 22, ints .u8 F⟩, ⟨g6, 22, ints .u8 R⟩, ⟨g4, 22, ints .u8 NU⟩, ⟨g3, 30, ints .u8 HH⟩, ⟨g2, 30, ints .u8 (List.replicate 64 0)⟩, ⟨g1, 22, ints .u8 K⟩, ⟨g0, 22, ints .u8 s⟩]) 0 (by kernel_rfl) rfl hE0
   focus
    intro hcont w1 hb1 hE1
    obtain ⟨gx1, gx2, gx3, vx1, vx2, vx3, -⟩ : ∃ (a b c : Nat) (d e f : Value), True := ⟨0, 0, 0, undef, undef, undef, trivial⟩
    refine wpB_takeU (i := 0) rfl (by kernel_rfl) (fun _ _ _ h => h) rfl (fun _ => (v_moveT (.inl rfl) rfl)) ?_
    simp only [qZ]
    refine wpB_takeU (i := 1) rfl (by kernel_rfl) (fun _ _ _ h => h) rfl (fun _ => (v_moveT (.inl rfl) rfl)) ?_
    simp only [qZ]
    refine wpB_takeU (i := 2) rfl (by kernel_rfl) (fun _ _ _ h => h) rfl (fun _ => (v_add (m := 32) rfl rfl rfl (w_i64 (by omega)))) ?_
    simp only [qZ]
    refine wpB_takeU (i := 3) rfl (by kernel_rfl) (fun _ _ _ h => h) rfl (fun _ => (v_moveT (.inl rfl) rfl)) ?_
    simp only [qZ]
    refine wpB_takeU (i := 4) rfl (by kernel_rfl) (fun _ _ _ h => h) rfl (fun _ => (vqI Tryz.underlying22)) ?_
    simp only [qZ]
    refine wpB_takeU (i := 6) rfl (by kernel_rfl) (fun _ _ _ h => h) rfl (fun _ => (v_moveT (.inl rfl) rfl)) ?_
    simp only [qZ]
    refine wpB_takeU (i := 7) rfl (by kernel_rfl) (fun _ _ _ h => h) rfl (fun _ => (vqI Tryz.underlying22)) ?_
    simp only [qZ]
    refine wpB_step2 (i := 5) (j := 8) (by kernel_rfl) rfl rfl ?br6a ?br6b
    case br6a =>
     refine st_val rfl (vqC 3 hE1 Tryz.underlying5) ?_
     refine ⟨fun _ => Below.refl _ _, ?_⟩
     simp only [qZ]
     refine wpB_takeU (i := 9) rfl (by kernel_rfl) (fun _ _ _ h => h) rfl (fun _ => (vqI Tryz.underlying30)) ?_
     simp only [qZ]
     refine wpB_step2 (i := 8) (j := 10) (by kernel_rfl) rfl rfl ?br7a ?br7b
     case br7a =>
      refine st_val rfl (vqC 1 hE1 Tryz.underlying5) ?_
      refine ⟨fun _ => Below.refl _ _, ?_⟩
      simp only [qZ]
      refine sqB 10 rfl (st_putN (i := 0) hE1 rfl rfl rfl rfl rfl (by kernel_rfl) (by first | assumption | omega | (simp only [List.length_set, List.length_replicate]; first | assumption | omega)) ?_)
      intro w2 hE2
      clear hE1
      simp only [qQ] at hE2
      refine nqB ?_
      simp only [qZ]
      refine wpB_takeU (i := 11) rfl (by kernel_rfl) (fun _ _ _ h => h) rfl (fun _ => (vqI Tryz.underlying30)) ?_
      simp only [qZ]
      refine sqB 12 rfl (st_putN (i := 0) hE2 rfl rfl rfl rfl rfl (by kernel_rfl) (by first | assumption | omega | (simp only [List.length_set, List.length_replicate]; first | assumption | omega)) ?_)
      intro w3 hE3
      clear hE2
      simp only [qQ] at hE3
      refine nqB ?_
      simp only [qZ]
      refine wpB_done (by kernel_rfl) ?_ _
      exact hcont gx1 gx2 gx3 vx1 vx2 vx3 _ (hE3)
     case br7b =>
      refine st_putN (i := 0) hE1 rfl rfl rfl rfl rfl (by kernel_rfl) (by first | assumption | omega | (simp only [List.length_set, List.length_replicate]; first | assumption | omega)) ?_
      intro w2 hE2
      clear hE1
      simp only [qQ] at hE2
      refine nqB ?_
      simp only [qZ]
      refine sqB 8 rfl (st_val rfl (vqC 1 hE2 Tryz.underlying5) ?_)
      refine ⟨fun _ => Below.refl _ _, ?_⟩
      simp only [qZ]
      refine wpB_takeU (i := 11) rfl (by kernel_rfl) (fun _ _ _ h => h) rfl (fun _ => (vqI Tryz.underlying30)) ?_
      simp only [qZ]
      refine sqB 12 rfl (st_putN (i := 0) hE2 rfl rfl rfl rfl rfl (by kernel_rfl) (by first | assumption | omega | (simp only [List.length_set, List.length_replicate]; first | assumption | omega)) ?_)
      intro w3 hE3
      clear hE2
      simp only [qQ] at hE3
      refine nqB ?_
      simp only [qZ]
      refine wpB_done (by kernel_rfl) ?_ _
      exact hcont gx1 gx2 gx3 vx1 vx2 vx3 _ (hE3)
    case br6b =>
     refine st_val rfl (vqC 1 hE1 Tryz.underlying5) ?_
     refine ⟨fun _ => Below.refl _ _, ?_⟩
     simp only [qZ]
     refine sqB 5 rfl (st_val rfl (vqC 3 hE1 Tryz.underlying5) ?_)
     refine ⟨fun _ => Below.refl _ _, ?_⟩
     simp only [qZ]
     refine wpB_takeU (i := 9) rfl (by kernel_rfl) (fun _ _ _ h => h) rfl (fun _ => (vqI Tryz.underlying30)) ?_
     simp only [qZ]
     refine sqB 10 rfl (st_putN (i := 0) hE1 rfl rfl rfl rfl rfl (by kernel_rfl) (by first | assumption | omega | (simp only [List.length_set, List.length_replicate]; first | assumption | omega)) ?_)
     intro w2 hE2
     clear hE1
     simp only [qQ] at hE2
     refine nqB ?_
     simp only [qZ]
     refine wpB_takeU (i := 11) rfl (by kernel_rfl) (fun _ _ _ h => h) rfl (fun _ => (vqI Tryz.underlying30)) ?_
     simp only [qZ]
     refine sqB 12 rfl (st_putN (i := 0) hE2 rfl rfl rfl rfl rfl (by kernel_rfl) (by first | assumption | omega | (simp only [List.length_set, List.length_replicate]; first | assumption | omega)) ?_)
     intro w3 hE3
     clear hE2
     simp only [qQ] at hE3
     refine nqB ?_
     simp only [qZ]
     refine wpB_done (by kernel_rfl) ?_ _
     exact hcont gx1 gx2 gx3 vx1 vx2 vx3 _ (hE3)
   intro _ _ _ _ _ _ w2 hE2
   rw [hs1.out] at hE2
   repeat ((fail_if_success refine sqx ?_); go_step)
   refine mqA ?_
   refine wqv (v_add (n := 1) rfl rfl rfl (w_i64 (by omega))) ?_
   refine mqB ?_
   go_wp2
   go_roundw
   case rel => exact ⟨j + 1, by omega, rfl, hE2⟩
   case measure => simp [intOf]; omega
  ·have hj' : j = 32 := by omega
   subst hj'
   have d1 := Lib.hid (decide_eq_false hj32)
   rw [HF1.out] at hE0
   repeat ((fail_if_success refine sqx ?_); go_step)
   refine mqA ?_
   refine wqv (v_lss (n := 32) rfl rfl rfl) ?_
   rw [d1.out]
   repeat ((fail_if_success refine sqy ?_); go_step)
   refine cqF ?_
   skip
   repeat ((fail_if_success refine sqx ?_); go_step)
   refine wqv (vqL 0 64 hE0 Tryz.underlying30) ?_
   refine wl_step (sqS 7 64 hE0 ?_)
   intro w1 hE1
   clear hE0
   simp only [qQ] at hE1
   simp only [qZ]
   repeat ((fail_if_success refine sqx ?_); go_step)
   refine bodyPost_ret (results_cell_row rfl _ _ _ _ _ (0, 0) _ rfl (hE1.get (i := 7) rfl) Tryz.underlying30 rfl (szqA (n := 64))) rfl ⟨rfl, hE1.below⟩

set_option maxHeartbeats 4000000 in
theorem rSign_any {s m : List Nat} {v : Value} {w : World} (hs : s.length = 32) (ds : Digs 256 s) (hm : RdS .u8 m v w) (dm : Digs 256 m) (hl : m.length < 274877906944) : Gives 11 #[.agg (ints .u8 s), v] w (.agg (ints .u8 (sigL s m))) := by
 have HP := Lib.hid (fun w => rPublic_any hs ds w)
 have HB : Hid (∀ w1, Below w.heap.size w w1 → Gives 26 #[.agg (ints .u8 s), .agg (ints .u8 (pubL s)), v] w1 (.agg (ints .u8 (sigL s m)))) := Lib.hid (fun w1 hb => rSignBy_any hs ds (hm.below hb) dm hl)
 have l3 := pubL_len s
 have l8 := sigL_len s m
 obtain ⟨K, hK⟩ : ∃ x, pubL s = x := ⟨_, rfl⟩
 obtain ⟨G, hG⟩ : ∃ x, sigL s m = x := ⟨_, rfl⟩
 rw [hK] at HP HB l3
 rw [hG] at HB l8 ⊢
 clear hm dm ds hK hG
 have hE0 := Env.nil w
 go_enter Tryz.func11, Tryz.ntmps11
 repeat ((fail_if_success refine sqx ?_); go_step)
 refine wl_step (st_boxA hE0 rfl rfl rfl ?_)
 intro g0 w1 hb1 hE1
 clear hE0
 simp only [qZ]
 refine wl_step (sqA (ints .u8 (List.replicate 64 0)) hE1 ?_)
 intro g1 w2 hb2 hE2
 clear hE1
 simp only [qZ]
 repeat ((fail_if_success refine sqx ?_); go_step)
 refine wp_region_B (n := 6) 5 (by kernel_rfl) rfl hE2 ?_
 intro w3 hb3 hE3
 clear hE2
 refine tqB 0 rfl (vqL 1 32 hE3 Tryz.underlying22) ?_
 refine tqB 1 rfl (vqL 1 32 hE3 Tryz.underlying22) ?_
 refine tqB 3 rfl (v_moveT (.inl rfl) rfl) ?_
 refine sqB 2 rfl (st_gives hE3 rfl (run_call rfl Tryz.call9) (HP.out _) ?_)
 intro w4 hb4 hE4
 clear hE3
 refine ⟨fun _ => hb4, ?_⟩
 simp only [qZ]
 refine sqB 4 rfl (st_gives hE4 rfl (run_call rfl Tryz.call26) (HB.out _ hE4.below) ?_)
 intro w5 hb5 hE5
 clear hE4
 refine ⟨fun _ => hb5, ?_⟩
 simp only [qZ]
 refine sqB 5 rfl (sqS 0 64 hE5 ?_)
 intro w6 hE6
 clear hE5
 simp only [qQ] at hE6
 refine nqB ?_
 simp only [qZ]
 refine wpB_done (by kernel_rfl) ?_ _
 repeat ((fail_if_success refine sqx ?_); go_step)
 refine bodyPost_ret (results_cell_row rfl _ _ _ _ _ (0, 0) _ rfl (hE6.get (i := 0) rfl) Tryz.underlying30 rfl (szqA (n := 64))) rfl ⟨rfl, hE6.below⟩
end Go.Proofs.YthddoelflmoedaaGreat
namespace Go.Proofs.YthddoelflmoedaaGreat
open Go.RowKit
set_option maxRecDepth 100000

theorem getD_take {G : List Nat} {n j : Nat} (hj : j < n) : (G.take n).getD j 0 = G.getD j 0 := by rw [List.getD_eq_getElem?_getD, List.getElem?_take, if_pos hj, ← List.getD_eq_getElem?_getD]
theorem getD_drop {G : List Nat} {n j : Nat} : (G.drop n).getD j 0 = G.getD (n + j) 0 := by rw [List.getD_eq_getElem?_getD, List.getElem?_drop, ← List.getD_eq_getElem?_getD]

set_option maxHeartbeats 16000000 in
theorem rVerify_any {key G m L : List Nat} {P : Pt} {v : Value} {w : World} (ok : Bool) (hk : key.length = 32) (dk : Digs 256 key) (hg : G.length = 64) (dg : Digs 256 G) (hm : RdS .u8 m v w) (dm : Digs 256 m) (hl : m.length < 274877906944)
  (hL : R4 L P) (HD0 : ∀ w, Gives 14 #[.agg (ints .u8 key)] w (.tuple #[rt L, .bool ok])) :
  Gives 13 #[.agg (ints .u8 key), .agg (ints .u8 G), v] w (.bool (ok && (decide (val 256 (G.drop 32) < q) && decide (encB (verP key (G.take 32) (G.drop 32) m P) = G.take 32)))) := by
 have HD := Lib.hid HD0
 have lf : (G.take 32).length = 32 := by rw [List.length_take]; omega
 have ls : (G.drop 32).length = 32 := by rw [List.length_drop]; omega
 have df := dg.take 32
 have dS := dg.drop 32
 have hGF := Lib.hid (fun j (h : j < 32) => getD_take (G := G) h)
 have hGS := Lib.hid (fun j => getD_drop (G := G) (n := 32) (j := j))
 obtain ⟨F, hF⟩ : ∃ F, G.take 32 = F := ⟨_, rfl⟩
 obtain ⟨S, hSS⟩ : ∃ S, G.drop 32 = S := ⟨_, rfl⟩
 rw [hF] at lf df hGF ⊢
 rw [hSS] at ls dS hGS ⊢
 have HBl := Lib.hid (fun w => rBelow_any S ls dS w)
 have H2 : Hid (∀ (w1 : World) (v : Value), RdS .u8 (F ++ key ++ m) v w1 → Gives 33 #[v] w1 (.agg (ints .u8 (hashL (F ++ key ++ m))))) := Lib.hid (fun w1 v h => rHash_any h ((df.append dk).append dm) (by rw [List.length_append, List.length_append]; omega))
 obtain ⟨g, hgB, Gg⟩ := rBase4
 obtain ⟨z, hz, Gz⟩ := rMul4 hgB ls dS
 obtain ⟨n, hn, Gn⟩ := rNeg4 hL
 obtain ⟨y, hy, Gy⟩ := rMul4 hn (hashL_len (F ++ key ++ m)) (hashL_Digs (F ++ key ++ m))
 obtain ⟨x, hx, Gx⟩ := rAdd4 hz hy
 have HB := Lib.hid (fun w => rBytes4 hx w)
 have HG := Lib.hid Gg
 have HZ := Lib.hid Gz
 have HN := Lib.hid Gn
 have HY := Lib.hid Gy
 have HX := Lib.hid Gx
 have HDD := Lib.hid (fun w => rD_any w)
 have e : padd (smul (val 256 S) baseP) (smul (val 256 (hashL (F ++ key ++ m))) (pneg P)) = verP key F S m P := padd_comm _ _
 rw [e] at HB
 have lL := hL.len
 have lg := hgB.len
 have lz := hz.len
 have ln := hn.len
 have ly := hy.len
 have lx := hx.len
 have l1 := hashL_len (F ++ key ++ m)
 have l2 := encB_len (verP key F S m P)
 obtain ⟨Y, hY⟩ : ∃ Y, encB (verP key F S m P) = Y := ⟨_, rfl⟩
 obtain ⟨X, hX⟩ : ∃ X, hashL (F ++ key ++ m) = X := ⟨_, rfl⟩
 rw [hY] at HB l2 ⊢
 rw [hX] at H2 HY l1
 obtain ⟨iu, hi, hz', hsz, hby⟩ := info_u8
 have Hi := Lib.hid hi
 have Hz := Lib.hid hz'
 have Hsz := Lib.hid hsz
 have Hby := Lib.hid hby
 have Hm := Lib.hid hm
 have hF32 : 32 ≤ F.length := by omega
 have hS32 : 32 ≤ S.length := by omega
 have FS := Lib.hid (fun j (h : j < 32) => firstAt_set hF32 h)
 have SS := Lib.hid (fun j (h : j < 32) => firstAt_set hS32 h)
 have FL := Lib.hid (fun j (h : j ≤ 32) => firstAt_len hF32 h)
 have SL := Lib.hid (fun j (h : j ≤ 32) => firstAt_len hS32 h)
 have F1 : firstAt F 32 = F := by rw [firstAt_full, List.take_of_length_le (by omega)]
 have S1 : firstAt S 32 = S := by rw [firstAt_full, List.take_of_length_le (by omega)]
 have HF1 := Lib.hid F1
 have HS1 := Lib.hid S1
 have HF0 := Lib.hid (firstAt_zero (H := F))
 have HS0 := Lib.hid (firstAt_zero (H := S))
 have b1 : ([] : List Value).length + F.length ≤ maxLen := by simp only [List.length_nil, maxLen]; omega
 have b2 : (([] : List Value).length + F.length) * 1 ≤ 140737488355328 := by simp only [List.length_nil]; omega
 have b3 : (nats .u8 F).length + key.length ≤ maxLen := by rw [nats_len]; simp only [maxLen]; omega
 have b4 : ((nats .u8 F).length + key.length) * 1 ≤ 140737488355328 := by rw [nats_len]; omega
 have b5 : (nats .u8 (F ++ key)).length + m.length ≤ maxLen := by rw [nats_len, List.length_append]; simp only [maxLen]; omega
 have b6 : ((nats .u8 (F ++ key)).length + m.length) * 1 ≤ 140737488355328 := by rw [nats_len, List.length_append]; omega
 obtain ⟨bS, hbS⟩ : ∃ b, decide (val 256 S < q) = b := ⟨_, rfl⟩
 rw [hbS] at HBl ⊢
 clear HD0 hL hgB Gg hz Gz hn Gn hy Gy hx Gx e hY hX hi hz' hsz hby hm dm dk dg df dS hF hSS F1 S1 hbS hl
 have hE0 := Env.nil w
 go_enter Tryz.func13, Tryz.ntmps13
 repeat ((fail_if_success refine sqx ?_); go_step)
 refine wl_step (st_boxA hE0 rfl rfl rfl ?_)
 intro g0 w1 hb1 hE1
 clear hE0
 simp only [qZ]
 refine wl_step (st_boxA hE1 rfl rfl rfl ?_)
 intro g1 w2 hb2 hE2
 clear hE1
 simp only [qZ]
 refine mqC ?_
 repeat ((fail_if_success refine sqx ?_); go_step)
 refine wl_step (sqA (ints .u8 (List.replicate 32 0)) hE2 ?_)
 intro g2 w3 hb3 hE3
 clear hE2
 simp only [qZ]
 refine wl_step (sqA (ints .u8 (List.replicate 32 0)) hE3 ?_)
 intro g3 w4 hb4 hE4
 clear hE3
 simp only [qZ]
 repeat ((fail_if_success refine sqx ?_); go_step)
 refine mqC ?_
 have hst : Env w [⟨g3, 22, ints .u8 (firstAt S 0)⟩, ⟨g2, 22, ints .u8 (firstAt F 0)⟩, ⟨g1, 30, ints .u8 G⟩, ⟨g0, 22, ints .u8 key⟩] w4 := by
  rw [HF0.out, HS0.out]
  exact hE4
 clear hE4
 go_wp2
 go_loopw [9] (fun i wr => ∃ j : Nat, j ≤ 32 ∧ i = .int .i64 j ∧ Env w [⟨g3, 22, ints .u8 (firstAt S j)⟩, ⟨g2, 22, ints .u8 (firstAt F j)⟩, ⟨g1, 30, ints .u8 G⟩, ⟨g0, 22, ints .u8 key⟩] wr) (fun i _ => 32 - (intOf i).toNat)
 case atStart => exact ⟨0, Nat.zero_le _, rfl, hst⟩
 case round =>
  clear hst
  obtain ⟨j, hj, rfl, hE0⟩ := hrel
  by_cases hj32 : j < 32
  ·have d1 := Lib.hid (decide_eq_true hj32)
   have hs1 := Lib.hid (FS.out j hj32)
   have hs2 := Lib.hid (SS.out j hj32)
   have hlF := FL.out j hj
   have hlS := SL.out j hj
   have hg1 := Lib.hid (hGF.out j hj32)
   have hg2 := Lib.hid (hGS.out j)
   have hjF : j < (firstAt F j).length := by omega
   have hjS : j < (firstAt S j).length := by omega
   have hj64 : j < 64 := by omega
   have hjj : 32 + j < 64 := by omega
   have hjG : j < G.length := by omega
   have hjG2 : 32 + j < G.length := by omega
   repeat ((fail_if_success refine sqx ?_); go_step)
   refine mqA ?_
   refine wqv (v_lss (n := 32) rfl rfl rfl) ?_
   rw [d1.out]
   repeat ((fail_if_success refine sqy ?_); go_step)
   refine cqT ?_
   skip
   repeat ((fail_if_success refine sqx ?_); go_step)
   apply wp_region_D (n := 13) (fun _ _ _ => [⟨g3, 22, ints .u8 ((firstAt S j).set j (G.getD (32 + j) 0))⟩, ⟨g2, 22, ints .u8 ((firstAt F j).set j (G.getD j 0))⟩, ⟨g1, 30, ints .u8 G⟩, ⟨g0, 22, ints .u8 key⟩]) 0 (by kernel_rfl) rfl hE0
   focus
    intro hcont w1 hb1 hE1
    obtain ⟨gx1, gx2, gx3, vx1, vx2, vx3, -⟩ : ∃ (a b c : Nat) (d e f : Value), True := ⟨0, 0, 0, undef, undef, undef, trivial⟩
    refine wpB_takeU (i := 0) rfl (by kernel_rfl) (fun _ _ _ h => h) rfl (fun _ => (v_moveT (.inl rfl) rfl)) ?_
    simp only [qZ]
    refine wpB_takeU (i := 1) rfl (by kernel_rfl) (fun _ _ _ h => h) rfl (fun _ => (v_moveT (.inl rfl) rfl)) ?_
    simp only [qZ]
    refine wpB_takeU (i := 2) rfl (by kernel_rfl) (fun _ _ _ h => h) rfl (fun _ => (v_moveT (.inl rfl) rfl)) ?_
    simp only [qZ]
    refine wpB_takeU (i := 3) rfl (by kernel_rfl) (fun _ _ _ h => h) rfl (fun _ => (vqI Tryz.underlying30)) ?_
    simp only [qZ]
    refine wpB_takeU (i := 5) rfl (by kernel_rfl) (fun _ _ _ h => h) rfl (fun _ => (v_moveT (.inl rfl) rfl)) ?_
    simp only [qZ]
    refine wpB_takeU (i := 6) rfl (by kernel_rfl) (fun _ _ _ h => h) rfl (fun _ => (v_add (m := 32) rfl rfl rfl (w_i64 (by omega)))) ?_
    simp only [qZ]
    refine wpB_takeU (i := 7) rfl (by kernel_rfl) (fun _ _ _ h => h) rfl (fun _ => (vqI Tryz.underlying30)) ?_
    simp only [qZ]
    refine wpB_step2 (i := 4) (j := 8) (by kernel_rfl) rfl rfl ?br1a ?br1b
    case br1a =>
     refine st_val rfl (vqC 2 hE1 Tryz.underlying5) ?_
     refine ⟨fun _ => Below.refl _ _, ?_⟩
     simp only [qZ]
     refine wpB_takeU (i := 9) rfl (by kernel_rfl) (fun _ _ _ h => h) rfl (fun _ => (vqI Tryz.underlying22)) ?_
     simp only [qZ]
     refine wpB_step2 (i := 8) (j := 10) (by kernel_rfl) rfl rfl ?br2a ?br2b
     case br2a =>
      refine st_val rfl (vqC 2 hE1 Tryz.underlying5) ?_
      refine ⟨fun _ => Below.refl _ _, ?_⟩
      simp only [qZ]
      refine sqB 10 rfl (st_putN (i := 1) hE1 rfl rfl rfl rfl rfl (by kernel_rfl) (by first | assumption | omega | (simp only [List.length_set, List.length_replicate]; first | assumption | omega)) ?_)
      intro w2 hE2
      clear hE1
      simp only [qQ] at hE2
      refine nqB ?_
      simp only [qZ]
      refine wpB_takeU (i := 11) rfl (by kernel_rfl) (fun _ _ _ h => h) rfl (fun _ => (vqI Tryz.underlying22)) ?_
      simp only [qZ]
      refine sqB 12 rfl (st_putN (i := 0) hE2 rfl rfl rfl rfl rfl (by kernel_rfl) (by first | assumption | omega | (simp only [List.length_set, List.length_replicate]; first | assumption | omega)) ?_)
      intro w3 hE3
      clear hE2
      simp only [qQ] at hE3
      refine nqB ?_
      simp only [qZ]
      refine wpB_done (by kernel_rfl) ?_ _
      exact hcont gx1 gx2 gx3 vx1 vx2 vx3 _ (hE3)
     case br2b =>
      refine st_putN (i := 1) hE1 rfl rfl rfl rfl rfl (by kernel_rfl) (by first | assumption | omega | (simp only [List.length_set, List.length_replicate]; first | assumption | omega)) ?_
      intro w2 hE2
      clear hE1
      simp only [qQ] at hE2
      refine nqB ?_
      simp only [qZ]
      refine sqB 8 rfl (st_val rfl (vqC 2 hE2 Tryz.underlying5) ?_)
      refine ⟨fun _ => Below.refl _ _, ?_⟩
      simp only [qZ]
      refine wpB_takeU (i := 11) rfl (by kernel_rfl) (fun _ _ _ h => h) rfl (fun _ => (vqI Tryz.underlying22)) ?_
      simp only [qZ]
      refine sqB 12 rfl (st_putN (i := 0) hE2 rfl rfl rfl rfl rfl (by kernel_rfl) (by first | assumption | omega | (simp only [List.length_set, List.length_replicate]; first | assumption | omega)) ?_)
      intro w3 hE3
      clear hE2
      simp only [qQ] at hE3
      refine nqB ?_
      simp only [qZ]
      refine wpB_done (by kernel_rfl) ?_ _
      exact hcont gx1 gx2 gx3 vx1 vx2 vx3 _ (hE3)
    case br1b =>
     refine st_val rfl (vqC 2 hE1 Tryz.underlying5) ?_
     refine ⟨fun _ => Below.refl _ _, ?_⟩
     simp only [qZ]
     refine sqB 4 rfl (st_val rfl (vqC 2 hE1 Tryz.underlying5) ?_)
     refine ⟨fun _ => Below.refl _ _, ?_⟩
     simp only [qZ]
     refine wpB_takeU (i := 9) rfl (by kernel_rfl) (fun _ _ _ h => h) rfl (fun _ => (vqI Tryz.underlying22)) ?_
     simp only [qZ]
     refine sqB 10 rfl (st_putN (i := 1) hE1 rfl rfl rfl rfl rfl (by kernel_rfl) (by first | assumption | omega | (simp only [List.length_set, List.length_replicate]; first | assumption | omega)) ?_)
     intro w2 hE2
     clear hE1
     simp only [qQ] at hE2
     refine nqB ?_
     simp only [qZ]
     refine wpB_takeU (i := 11) rfl (by kernel_rfl) (fun _ _ _ h => h) rfl (fun _ => (vqI Tryz.underlying22)) ?_
     simp only [qZ]
     refine sqB 12 rfl (st_putN (i := 0) hE2 rfl rfl rfl rfl rfl (by kernel_rfl) (by first | assumption | omega | (simp only [List.length_set, List.length_replicate]; first | assumption | omega)) ?_)
     intro w3 hE3
     clear hE2
     simp only [qQ] at hE3
     refine nqB ?_
     simp only [qZ]
     refine wpB_done (by kernel_rfl) ?_ _
     exact hcont gx1 gx2 gx3 vx1 vx2 vx3 _ (hE3)
   intro _ _ _ _ _ _ w2 hE2
   rw [← hg1.out, ← hg2.out, hs1.out, hs2.out] at hE2
   repeat ((fail_if_success refine sqx ?_); go_step)
   refine mqA ?_
   refine wqv (v_add (n := 1) rfl rfl rfl (w_i64 (by omega))) ?_
   refine mqB ?_
   go_wp2
   go_roundw
   case rel => exact ⟨j + 1, by omega, rfl, hE2⟩
   case measure => simp [intOf]; omega
  ·have hj' : j = 32 := by omega
   subst hj'
   have d1 := Lib.hid (decide_eq_false hj32)
   rw [HF1.out, HS1.out] at hE0
   repeat ((fail_if_success refine sqx ?_); go_step)
   refine mqA ?_
   refine wqv (v_lss (n := 32) rfl rfl rfl) ?_
   rw [d1.out]
   repeat ((fail_if_success refine sqy ?_); go_step)
   refine cqF ?_
   skip
   repeat ((fail_if_success refine sqx ?_); go_step)
   refine wqv (vqL 3 32 hE0 Tryz.underlying22) ?_
   refine wl_step (st_gives hE0 rfl (run_call rfl Tryz.call14) (HD.out _) ?_)
   intro w1 hb1 hE1
   clear hE0
   simp only [qZ]
   refine mqA ?_
   refine wqv (v_extract rfl rfl rfl) ?_
   refine wqv (v_extract rfl rfl rfl) ?_
   refine wl_step (sqA (ints .u32 (List.replicate 24 0)) hE1 ?_)
   intro g4 w2 hb2 hE2
   clear hE1
   simp only [qZ]
   refine wl_step (sqS 0 24 hE2 ?_)
   intro w3 hE3
   clear hE2
   simp only [qQ] at hE3
   simp only [qZ]
   refine mqB ?_
   cases ok
   case false =>
    repeat ((fail_if_success refine sqx ?_); go_step)
    refine mqA ?_
    refine wqv (v_not rfl rfl) ?_
    refine mqA ?_
    refine wl_step (st_skip rfl ?_)
    simp only [qZ]
    refine wl_step (st_skip rfl ?_)
    simp only [qZ]
    refine wl_step (st_skip rfl ?_)
    simp only [qZ]
    refine wqv (v_orT rfl rfl) ?_
    repeat ((fail_if_success refine sqy ?_); go_step)
    refine cqT ?_
    skip
    repeat ((fail_if_success refine sqx ?_); go_step)
    refine mqC ?_
    repeat ((fail_if_success refine sqx ?_); go_step)
    go_returns
    exact ⟨rfl, hE3.below⟩
   case true =>
    cases bS
    case false =>
     repeat ((fail_if_success refine sqx ?_); go_step)
     refine mqA ?_
     refine wqv (v_not rfl rfl) ?_
     refine mqA ?_
     refine wqv (vqL 1 32 hE3 Tryz.underlying22) ?_
     refine wl_step (st_gives hE3 rfl (run_call rfl Tryz.call32) (HBl.out _) ?_)
     intro w4 hb4 hE4
     clear hE3
     simp only [qZ]
     refine wqv (v_not rfl rfl) ?_
     refine wqv (v_or rfl rfl (fun _ => rfl)) ?_
     repeat ((fail_if_success refine sqy ?_); go_step)
     refine cqT ?_
     skip
     repeat ((fail_if_success refine sqx ?_); go_step)
     refine mqC ?_
     repeat ((fail_if_success refine sqx ?_); go_step)
     go_returns
     exact ⟨rfl, hE4.below⟩
    case true =>
     repeat ((fail_if_success refine sqx ?_); go_step)
     refine mqA ?_
     refine wqv (v_not rfl rfl) ?_
     refine mqA ?_
     refine wqv (vqL 1 32 hE3 Tryz.underlying22) ?_
     refine wl_step (st_gives hE3 rfl (run_call rfl Tryz.call32) (HBl.out _) ?_)
     intro w4 hb4 hE4
     clear hE3
     simp only [qZ]
     refine wqv (v_not rfl rfl) ?_
     refine wqv (v_or rfl rfl (fun _ => rfl)) ?_
     repeat ((fail_if_success refine sqy ?_); go_step)
     refine cqF ?_
     skip
     repeat ((fail_if_success refine sqx ?_); go_step)
     apply wp_region_D (n := 10) (fun gH _ _ => [⟨gH, 22, ints .u8 X⟩, ⟨g4, 43, ints .u32 L⟩, ⟨g3, 22, ints .u8 S⟩, ⟨g2, 22, ints .u8 F⟩, ⟨g1, 30, ints .u8 G⟩, ⟨g0, 22, ints .u8 key⟩]) 0 (by kernel_rfl) rfl hE4
     focus
      intro hcont w5 hb5 hE5
      obtain ⟨gx1, gx2, gx3, vx1, vx2, vx3, -⟩ : ∃ (a b c : Nat) (d e f : Value), True := ⟨0, 0, 0, undef, undef, undef, trivial⟩
      refine wpB_takeU (i := 1) rfl (by kernel_rfl) (fun _ _ _ h => h) rfl (fun _ => (v_sliceAll rfl rfl Tryz.underlying22 (by kernel_rfl))) ?_
      simp only [qZ]
      refine wpB_takeU (i := 3) rfl (by kernel_rfl) (fun _ _ _ h => h) rfl (fun _ => (v_sliceAll rfl rfl Tryz.underlying22 (by kernel_rfl))) ?_
      simp only [qZ]
      refine wpB_takeU (i := 5) rfl (by kernel_rfl) (fun _ _ _ h => h) rfl (fun _ => (v_moveT (.inl rfl) rfl)) ?_
      simp only [qZ]
      refine wpB_step2 (i := 0) (j := 8) (by kernel_rfl) rfl rfl ?br3a ?br3b
      case br3a =>
       refine st_build0' hE5 rfl rfl Tryz.underlying24 (by kernel_rfl) ?_
       intro g5 w6 hb6 hE6
       clear hE5
       refine nqB ?_
       simp only [qZ]
       obtain ⟨bs3, ho3, hEE⟩ := (Sl.of_block hE6 (by decide)).ow
       clear hE6
       have hE6 := hEE.perm List.perm_append_comm
       clear hEE
       refine wpB_step2 (i := 2) (j := 8) (by kernel_rfl) rfl rfl ?br4a ?br4b
       case br4a =>
        refine st_append (ho3.sl (hE6.perm (List.perm_append_comm (l₁ := [_, _, _, _, _])))) rfl rfl Tryz.underlying24 Hi.out Hz.out Hsz.out rfl Hby.out rfl rfl (RdS.whole (hE6.get (i := 2) rfl) lf) b1 b2 ?_
        intro v7 w7 hS7
        have hE7 := hS7.env
        clear hE6
        refine nqB ?_
        simp only [qZ]
        obtain ⟨bs4, ho4, hEE⟩ := hS7.ow
        clear hE7 hS7
        have hE7 := hEE.perm List.perm_append_comm
        clear hEE
        refine wpB_step2 (i := 4) (j := 8) (by kernel_rfl) rfl rfl ?br5a ?br5b
        case br5a =>
         refine st_append (xs := nats .u8 F) (ho4.sl (hE7.perm (List.perm_append_comm (l₁ := [_, _, _, _, _])))) rfl rfl Tryz.underlying24 Hi.out Hz.out Hsz.out rfl Hby.out rfl rfl (RdS.whole (hE7.get (i := 4) rfl) hk) b3 b4 ?_
         intro v8 w8 hS8
         have hE8 := hS8.env
         clear hE7
         refine nqB ?_
         simp only [qZ]
         obtain ⟨bs6, ho6, hEE⟩ := hS8.ow
         rw [nats_append] at ho6
         clear hE8 hS8
         have hE8 := hEE.perm List.perm_append_comm
         clear hEE
         refine wpB_step2 (i := 6) (j := 8) (by kernel_rfl) rfl rfl ?br6a ?br6b
         case br6a =>
          refine st_append (xs := nats .u8 (F ++ key)) (ho6.sl (hE8.perm (List.perm_append_comm (l₁ := [_, _, _, _, _])))) rfl rfl Tryz.underlying24 Hi.out Hz.out Hsz.out rfl Hby.out rfl rfl (Hm.out.below hE8.below) b5 b6 ?_
          intro v9 w9 hS9
          have hE9 := hS9.env
          clear hE8
          refine nqB ?_
          simp only [qZ]
          obtain ⟨bs5, ho5, hEE⟩ := hS9.ow
          rw [nats_append] at ho5
          clear hE9 hS9
          have hE9 := hEE.perm List.perm_append_comm
          clear hEE
          refine wpB_step2 (i := 7) (j := 8) (by kernel_rfl) rfl rfl ?br7a ?br7b
          case br7a =>
           refine st_gives hE9 rfl (run_call rfl Tryz.call33) (H2.out _ _ ((ho5.sl (hE9.perm (List.perm_append_comm (l₁ := [_, _, _, _, _])))).rdS)) ?_
           intro w10 hb10 hE10
           clear hE9
           refine nqB ?_
           simp only [qZ]
           refine sqB 8 rfl (sqA (ints .u8 (List.replicate 32 0)) hE10 ?_)
           intro g6 w11 hb11 hE11
           clear hE10
           refine nqB ?_
           simp only [qZ]
           refine sqB 9 rfl (sqS 0 32 hE11 ?_)
           intro w12 hE12
           clear hE11
           simp only [qQ] at hE12
           refine nqB ?_
           simp only [qZ]
           replace hE12 := hE12.sub (List.sublist_append_left [_, _, _, _, _, _] _)
           refine wpB_done (by kernel_rfl) ?_ _
           exact hcont g6 g5 gx1 v7 v8 v9 _ (hE12)
          case br7b =>
           refine sqA (ints .u8 (List.replicate 32 0)) hE9 ?_
           intro g6 w10 hb10 hE10
           clear hE9
           refine nqB ?_
           simp only [qZ]
           refine sqB 7 rfl (st_gives hE10 rfl (run_call rfl Tryz.call33) (H2.out _ _ ((ho5.sl (hE10.perm (List.perm_append_comm (l₁ := [_, _, _, _, _, _])))).rdS)) ?_)
           intro w11 hb11 hE11
           clear hE10
           refine nqB ?_
           simp only [qZ]
           refine sqB 9 rfl (sqS 0 32 hE11 ?_)
           intro w12 hE12
           clear hE11
           simp only [qQ] at hE12
           refine nqB ?_
           simp only [qZ]
           replace hE12 := hE12.sub (List.sublist_append_left [_, _, _, _, _, _] _)
           refine wpB_done (by kernel_rfl) ?_ _
           exact hcont g6 g5 gx1 v7 v8 v9 _ (hE12)
         case br6b =>
          refine sqA (ints .u8 (List.replicate 32 0)) hE8 ?_
          intro g6 w9 hb9 hE9
          clear hE8
          refine nqB ?_
          simp only [qZ]
          refine sqB 6 rfl (st_append (xs := nats .u8 (F ++ key)) (ho6.sl (hE9.perm (List.perm_append_comm (l₁ := [_, _, _, _, _, _])))) rfl rfl Tryz.underlying24 Hi.out Hz.out Hsz.out rfl Hby.out rfl rfl (Hm.out.below hE9.below) b5 b6 ?_)
          intro v10 w10 hS10
          have hE10 := hS10.env
          clear hE9
          refine nqB ?_
          simp only [qZ]
          obtain ⟨bs5, ho5, hEE⟩ := hS10.ow
          rw [nats_append] at ho5
          clear hE10 hS10
          have hE10 := hEE.perm List.perm_append_comm
          clear hEE
          refine sqB 7 rfl (st_gives hE10 rfl (run_call rfl Tryz.call33) (H2.out _ _ ((ho5.sl (hE10.perm (List.perm_append_comm (l₁ := [_, _, _, _, _, _])))).rdS)) ?_)
          intro w11 hb11 hE11
          clear hE10
          refine nqB ?_
          simp only [qZ]
          refine sqB 9 rfl (sqS 0 32 hE11 ?_)
          intro w12 hE12
          clear hE11
          simp only [qQ] at hE12
          refine nqB ?_
          simp only [qZ]
          replace hE12 := hE12.sub (List.sublist_append_left [_, _, _, _, _, _] _)
          refine wpB_done (by kernel_rfl) ?_ _
          exact hcont g6 g5 gx1 v7 v8 v10 _ (hE12)
        case br5b =>
         refine sqA (ints .u8 (List.replicate 32 0)) hE7 ?_
         intro g6 w8 hb8 hE8
         clear hE7
         refine nqB ?_
         simp only [qZ]
         refine sqB 4 rfl (st_append (xs := nats .u8 F) (ho4.sl (hE8.perm (List.perm_append_comm (l₁ := [_, _, _, _, _, _])))) rfl rfl Tryz.underlying24 Hi.out Hz.out Hsz.out rfl Hby.out rfl rfl (RdS.whole (hE8.get (i := 5) rfl) hk) b3 b4 ?_)
         intro v9 w9 hS9
         have hE9 := hS9.env
         clear hE8
         refine nqB ?_
         simp only [qZ]
         obtain ⟨bs6, ho6, hEE⟩ := hS9.ow
         rw [nats_append] at ho6
         clear hE9 hS9
         have hE9 := hEE.perm List.perm_append_comm
         clear hEE
         refine sqB 6 rfl (st_append (xs := nats .u8 (F ++ key)) (ho6.sl (hE9.perm (List.perm_append_comm (l₁ := [_, _, _, _, _, _])))) rfl rfl Tryz.underlying24 Hi.out Hz.out Hsz.out rfl Hby.out rfl rfl (Hm.out.below hE9.below) b5 b6 ?_)
         intro v10 w10 hS10
         have hE10 := hS10.env
         clear hE9
         refine nqB ?_
         simp only [qZ]
         obtain ⟨bs5, ho5, hEE⟩ := hS10.ow
         rw [nats_append] at ho5
         clear hE10 hS10
         have hE10 := hEE.perm List.perm_append_comm
         clear hEE
         refine sqB 7 rfl (st_gives hE10 rfl (run_call rfl Tryz.call33) (H2.out _ _ ((ho5.sl (hE10.perm (List.perm_append_comm (l₁ := [_, _, _, _, _, _])))).rdS)) ?_)
         intro w11 hb11 hE11
         clear hE10
         refine nqB ?_
         simp only [qZ]
         refine sqB 9 rfl (sqS 0 32 hE11 ?_)
         intro w12 hE12
         clear hE11
         simp only [qQ] at hE12
         refine nqB ?_
         simp only [qZ]
         replace hE12 := hE12.sub (List.sublist_append_left [_, _, _, _, _, _] _)
         refine wpB_done (by kernel_rfl) ?_ _
         exact hcont g6 g5 gx1 v7 v9 v10 _ (hE12)
       case br4b =>
        refine sqA (ints .u8 (List.replicate 32 0)) hE6 ?_
        intro g6 w7 hb7 hE7
        clear hE6
        refine nqB ?_
        simp only [qZ]
        refine sqB 2 rfl (st_append (ho3.sl (hE7.perm (List.perm_append_comm (l₁ := [_, _, _, _, _, _])))) rfl rfl Tryz.underlying24 Hi.out Hz.out Hsz.out rfl Hby.out rfl rfl (RdS.whole (hE7.get (i := 3) rfl) lf) b1 b2 ?_)
        intro v8 w8 hS8
        have hE8 := hS8.env
        clear hE7
        refine nqB ?_
        simp only [qZ]
        obtain ⟨bs4, ho4, hEE⟩ := hS8.ow
        clear hE8 hS8
        have hE8 := hEE.perm List.perm_append_comm
        clear hEE
        refine sqB 4 rfl (st_append (xs := nats .u8 F) (ho4.sl (hE8.perm (List.perm_append_comm (l₁ := [_, _, _, _, _, _])))) rfl rfl Tryz.underlying24 Hi.out Hz.out Hsz.out rfl Hby.out rfl rfl (RdS.whole (hE8.get (i := 5) rfl) hk) b3 b4 ?_)
        intro v9 w9 hS9
        have hE9 := hS9.env
        clear hE8
        refine nqB ?_
        simp only [qZ]
        obtain ⟨bs6, ho6, hEE⟩ := hS9.ow
        rw [nats_append] at ho6
        clear hE9 hS9
        have hE9 := hEE.perm List.perm_append_comm
        clear hEE
        refine sqB 6 rfl (st_append (xs := nats .u8 (F ++ key)) (ho6.sl (hE9.perm (List.perm_append_comm (l₁ := [_, _, _, _, _, _])))) rfl rfl Tryz.underlying24 Hi.out Hz.out Hsz.out rfl Hby.out rfl rfl (Hm.out.below hE9.below) b5 b6 ?_)
        intro v10 w10 hS10
        have hE10 := hS10.env
        clear hE9
        refine nqB ?_
        simp only [qZ]
        obtain ⟨bs5, ho5, hEE⟩ := hS10.ow
        rw [nats_append] at ho5
        clear hE10 hS10
        have hE10 := hEE.perm List.perm_append_comm
        clear hEE
        refine sqB 7 rfl (st_gives hE10 rfl (run_call rfl Tryz.call33) (H2.out _ _ ((ho5.sl (hE10.perm (List.perm_append_comm (l₁ := [_, _, _, _, _, _])))).rdS)) ?_)
        intro w11 hb11 hE11
        clear hE10
        refine nqB ?_
        simp only [qZ]
        refine sqB 9 rfl (sqS 0 32 hE11 ?_)
        intro w12 hE12
        clear hE11
        simp only [qQ] at hE12
        refine nqB ?_
        simp only [qZ]
        replace hE12 := hE12.sub (List.sublist_append_left [_, _, _, _, _, _] _)
        refine wpB_done (by kernel_rfl) ?_ _
        exact hcont g6 g5 gx1 v8 v9 v10 _ (hE12)
      case br3b =>
       refine sqA (ints .u8 (List.replicate 32 0)) hE5 ?_
       intro g5 w6 hb6 hE6
       clear hE5
       refine nqB ?_
       simp only [qZ]
       refine sqB 0 rfl (st_build0' hE6 rfl rfl Tryz.underlying24 (by kernel_rfl) ?_)
       intro g6 w7 hb7 hE7
       clear hE6
       refine nqB ?_
       simp only [qZ]
       obtain ⟨bs3, ho3, hEE⟩ := (Sl.of_block hE7 (by decide)).ow
       clear hE7
       have hE7 := hEE.perm List.perm_append_comm
       clear hEE
       refine sqB 2 rfl (st_append (ho3.sl (hE7.perm (List.perm_append_comm (l₁ := [_, _, _, _, _, _])))) rfl rfl Tryz.underlying24 Hi.out Hz.out Hsz.out rfl Hby.out rfl rfl (RdS.whole (hE7.get (i := 3) rfl) lf) b1 b2 ?_)
       intro v8 w8 hS8
       have hE8 := hS8.env
       clear hE7
       refine nqB ?_
       simp only [qZ]
       obtain ⟨bs4, ho4, hEE⟩ := hS8.ow
       clear hE8 hS8
       have hE8 := hEE.perm List.perm_append_comm
       clear hEE
       refine sqB 4 rfl (st_append (xs := nats .u8 F) (ho4.sl (hE8.perm (List.perm_append_comm (l₁ := [_, _, _, _, _, _])))) rfl rfl Tryz.underlying24 Hi.out Hz.out Hsz.out rfl Hby.out rfl rfl (RdS.whole (hE8.get (i := 5) rfl) hk) b3 b4 ?_)
       intro v9 w9 hS9
       have hE9 := hS9.env
       clear hE8
       refine nqB ?_
       simp only [qZ]
       obtain ⟨bs6, ho6, hEE⟩ := hS9.ow
       rw [nats_append] at ho6
       clear hE9 hS9
       have hE9 := hEE.perm List.perm_append_comm
       clear hEE
       refine sqB 6 rfl (st_append (xs := nats .u8 (F ++ key)) (ho6.sl (hE9.perm (List.perm_append_comm (l₁ := [_, _, _, _, _, _])))) rfl rfl Tryz.underlying24 Hi.out Hz.out Hsz.out rfl Hby.out rfl rfl (Hm.out.below hE9.below) b5 b6 ?_)
       intro v10 w10 hS10
       have hE10 := hS10.env
       clear hE9
       refine nqB ?_
       simp only [qZ]
       obtain ⟨bs5, ho5, hEE⟩ := hS10.ow
       rw [nats_append] at ho5
       clear hE10 hS10
       have hE10 := hEE.perm List.perm_append_comm
       clear hEE
       refine sqB 7 rfl (st_gives hE10 rfl (run_call rfl Tryz.call33) (H2.out _ _ ((ho5.sl (hE10.perm (List.perm_append_comm (l₁ := [_, _, _, _, _, _])))).rdS)) ?_)
       intro w11 hb11 hE11
       clear hE10
       refine nqB ?_
       simp only [qZ]
       refine sqB 9 rfl (sqS 0 32 hE11 ?_)
       intro w12 hE12
       clear hE11
       simp only [qQ] at hE12
       refine nqB ?_
       simp only [qZ]
       replace hE12 := hE12.sub (List.sublist_append_left [_, _, _, _, _, _] _)
       refine wpB_done (by kernel_rfl) ?_ _
       exact hcont g5 g6 gx1 v8 v9 v10 _ (hE12)
     intro gH gZ _ vA vB vC w6 hE6
     repeat ((fail_if_success refine sqx ?_); go_step)
     refine wp_region_B (n := 13) 12 (by kernel_rfl) rfl hE6 ?_
     intro w7 hb7 hE7
     clear hE6
     refine tqB 1 rfl (vqL 2 32 hE7 Tryz.underlying22) ?_
     refine tqB 3 rfl (vqL 1 24 hE7 Tryz.underlying43) ?_
     refine tqB 5 rfl (vqL 0 32 hE7 Tryz.underlying22) ?_
     refine tqB 10 rfl (vqL 3 32 hE7 Tryz.underlying22) ?_
     refine sqB 0 rfl (st_gives hE7 rfl (run_call rfl Tryz.call23) (HG.out _) ?_)
     intro w8 hb8 hE8
     clear hE7
     refine ⟨fun _ => hb8, ?_⟩
     simp only [qZ]
     refine sqB 2 rfl (st_gives hE8 rfl (run_call rfl Tryz.call22) (HZ.out _) ?_)
     intro w9 hb9 hE9
     clear hE8
     refine ⟨fun _ => hb9, ?_⟩
     simp only [qZ]
     refine sqB 4 rfl (st_gives hE9 rfl (run_call rfl Tryz.call35) (HN.out _) ?_)
     intro w10 hb10 hE10
     clear hE9
     refine ⟨fun _ => hb10, ?_⟩
     simp only [qZ]
     refine sqB 6 rfl (st_gives hE10 rfl (run_call rfl Tryz.call22) (HY.out _) ?_)
     intro w11 hb11 hE11
     clear hE10
     refine ⟨fun _ => hb11, ?_⟩
     simp only [qZ]
     refine sqB 7 rfl (st_gives hE11 rfl (run_call rfl Tryz.call36) (HDD.out _) ?_)
     intro w12 hb12 hE12
     clear hE11
     refine ⟨fun _ => hb12, ?_⟩
     simp only [qZ]
     refine sqB 8 rfl (st_gives hE12 rfl (run_call rfl Tryz.call34) (HX.out _) ?_)
     intro w13 hb13 hE13
     clear hE12
     refine ⟨fun _ => hb13, ?_⟩
     simp only [qZ]
     refine sqB 9 rfl (st_gives hE13 rfl (run_call rfl Tryz.call21) (HB.out _) ?_)
     intro w14 hb14 hE14
     clear hE13
     refine ⟨fun _ => hb14, ?_⟩
     simp only [qZ]
     refine tqB 11 rfl (v_eqS32b rfl rfl rfl l2 lf) ?_
     refine sqB 12 rfl (st_val rfl (v_moveT (.inr rfl) rfl) ?_)
     refine ⟨fun _ => Below.refl _ _, ?_⟩
     simp only [qZ]
     refine wpB_done (by kernel_rfl) ?_ _
     repeat ((fail_if_success refine sqx ?_); go_step)
     go_returns
     exact ⟨rfl, hE14.below⟩
end Go.Proofs.YthddoelflmoedaaGreat
namespace Go.Proofs.YthddoelflmoedaaGreat
open Go.RowKit
set_option maxRecDepth 100000

section
variable {a : Act} {w : World} {o : Oper}
theorem v_eqKey {t' : TypeId} {x y : Operand} {l : List Nat} (ho : o.op = .binOp .eql 27 x y t') (hx : a.eval x = .agg (ints .u8 l)) (hy : a.eval y = .agg (ints .u8 l)) (hl : l.length = 32) : Val Tryz.prog o a (.bool true) w :=
 v_eqIntsS ho hx hy (by kernel_rfl) Tryz.underlying27 Tryz.underlying5 (size_run (by kernel_rfl)) hl
end
theorem both_any {K G m : List Nat} (hk : K.length = 32) (dk : Digs 256 K) (hg : G.length = 64) (dg : Digs 256 G) (dm : Digs 256 m) (hl : m.length < 274877906944) :
  ∃ (b ok : Bool) (L : List Nat), L.length = 24 ∧ (∀ w, Gives 14 #[.agg (ints .u8 K)] w (.tuple #[rt L, .bool ok])) ∧ (∀ w, Gives 15 #[.agg (ints .u8 K)] w (.bool ok)) ∧
   (∀ (w : World) (v : Value), RdSs .u8 [m] v w → Gives 12 #[.agg (ints .u8 K), .agg (ints .u8 G), v] w (.bool b)) ∧
   (∀ (w : World) (v : Value), RdS .u8 m v w → Gives 13 #[.agg (ints .u8 K), .agg (ints .u8 G), v] w (.bool b)) := by
 have e1 : ([m] : List (List Nat)).flatten = m := by simp
 have dms : ∀ r ∈ [m], Digs 256 r := fun r hr => by rw [List.mem_singleton.1 hr]; exact dm
 have hV : val 256 K < 115792089237316195423570985008687907853269984665640564039457584007913129639936 := by
  have := val_lt dk
  rw [hk] at this
  exact Nat.lt_of_lt_of_eq this (by decide)
 by_cases hP : isPt (val 256 K)
 ·obtain ⟨P, hP1, -⟩ := pt_of hV hP
  obtain ⟨L, hL, HD⟩ := rDecode4 hk dk hP1
  have hR := fun (w : World) (v : Value) (h : RdS .u8 m v w) => rVerify_any true hk dk hg dg h dm hl hL HD
  by_cases hS : val 256 (G.drop 32) < q
  ·refine ⟨decide (encB (verP K (G.take 32) (G.drop 32) m P) = G.take 32), true, L, hL.len, HD, fun w => Known_yes hk dk hP1, fun w v h => ?_, fun w v h => ?_⟩
   ·have := Verify_yes hk dk hg dg h dms (by rw [e1]; exact hl) (show 1 < 1099511627776 by decide) hP1 hS
    rwa [e1] at this
   ·have := hR w v h
    rwa [decide_eq_true hS, Bool.true_and, Bool.true_and] at this
  ·refine ⟨false, true, L, hL.len, HD, fun w => Known_yes hk dk hP1, fun w v h => Verify_noS hk dk hg dg hP1 hS, fun w v h => ?_⟩
   have := hR w v h
   rwa [decide_eq_false hS, Bool.true_and, Bool.false_and] at this
 ·refine ⟨false, false, rpL 0 1 1, rZero4.len, rDecode4_no hk dk hP, fun w => Known_no hk dk hP, fun w v h => Verify_noP hk dk hg hP, fun w v h => ?_⟩
  have := rVerify_any (w := w) false hk dk hg dg h dm hl rZero4 (rDecode4_no hk dk hP)
  rwa [Bool.false_and] at this
end Go.Proofs.YthddoelflmoedaaGreat
namespace Go.Proofs.YthddoelflmoedaaGreat
open Go.ChangeShapes Go.WideShapes Go.ChangeAt Go.RowKit
set_option maxRecDepth 100000

set_option maxHeartbeats 8000000 in
theorem signVerifies_walk {K G m : List Nat} {v : Value} {w : World} (hk : K.length = 32) (dk : Digs 256 K) (hg : G.length = 64) (dg : Digs 256 G) (hv : RdS .u8 m v w) (dm : Digs 256 m) (hm : m.length ≤ maxLen) : Gives 5 #[.agg (ints .u8 K), .agg (ints .u8 G), v] w (.bool true) := by
 obtain ⟨p, c, rfl, hc, -⟩ := id hv
 have Hv := Lib.hid hv
 have HG : Hid (∀ w1, Below w.heap.size w w1 → Gives 6 #[.slice p m.length c] w1 (.bool (decide (300 < m.length)))) := Lib.hid (fun w1 hb => great_any (hv.below hb) hm)
 have HW := Lib.hid (fun w => awake_any w)
 by_cases h3 : 300 < m.length
 ·rw [decide_eq_true h3] at HG
  clear hv dk dg dm
  have hE0 := Env.nil w
  go_enter Tryz.func5, Tryz.ntmps5
  repeat ((fail_if_success refine sqx ?_); go_step)
  refine wl_step (st_boxA hE0 rfl rfl rfl ?_)
  intro g0 w1 hb1 hE1
  clear hE0
  simp only [qZ]
  refine wl_step (st_boxA hE1 rfl rfl rfl ?_)
  intro g1 w2 hb2 hE2
  clear hE1
  simp only [qZ]
  refine mqC ?_
  repeat ((fail_if_success refine sqx ?_); go_step)
  refine mqA ?_
  refine wl_step (st_gives hE2 rfl (run_call rfl Tryz.call6) (HG.out _ hE2.below) ?_)
  intro w3 hb3 hE3
  clear hE2
  simp only [qZ]
  repeat ((fail_if_success refine sqy ?_); go_step)
  refine cqT ?_
  skip
  repeat ((fail_if_success refine sqx ?_); go_step)
  refine wl_step (st_gives hE3 rfl (run_call rfl Tryz.call7) (HW.out _) ?_)
  intro w4 hb4 hE4
  clear hE3
  simp only [qZ]
  refine mqB ?_
  repeat ((fail_if_success refine sqx ?_); go_step)
  go_returns
  exact ⟨rfl, hE4.below⟩
 ·rw [decide_eq_false h3] at HG
  obtain ⟨b, ok, L, lL, HD0, HK0, HV0, HR0⟩ := both_any hk dk hg dg dm (by omega)
  have HD := Lib.hid HD0
  have HK := Lib.hid HK0
  have HV := Lib.hid HV0
  have HR := Lib.hid HR0
  clear hv dk dg dm HD0 HK0 HV0 HR0
  have hE0 := Env.nil w
  go_enter Tryz.func5, Tryz.ntmps5
  repeat ((fail_if_success refine sqx ?_); go_step)
  refine wl_step (st_boxA hE0 rfl rfl rfl ?_)
  intro g0 w1 hb1 hE1
  clear hE0
  simp only [qZ]
  refine wl_step (st_boxA hE1 rfl rfl rfl ?_)
  intro g1 w2 hb2 hE2
  clear hE1
  simp only [qZ]
  refine mqC ?_
  repeat ((fail_if_success refine sqx ?_); go_step)
  refine mqA ?_
  refine wl_step (st_gives hE2 rfl (run_call rfl Tryz.call6) (HG.out _ hE2.below) ?_)
  intro w3 hb3 hE3
  clear hE2
  simp only [qZ]
  repeat ((fail_if_success refine sqy ?_); go_step)
  refine cqF ?_
  skip
  repeat ((fail_if_success refine sqx ?_); go_step)
  refine wqv (vqL 1 32 hE3 Tryz.underlying27) ?_
  refine wl_step (st_gives hE3 rfl (run_call rfl Tryz.call14) (HD.out _) ?_)
  intro w4 hb4 hE4
  clear hE3
  simp only [qZ]
  refine mqA ?_
  refine wqv (v_extract rfl rfl rfl) ?_
  refine wqv (v_extract rfl rfl rfl) ?_
  refine wl_step (sqA (ints .u32 (List.replicate 24 0)) hE4 ?_)
  intro g2 w5 hb5 hE5
  clear hE4
  simp only [qZ]
  refine wl_step (sqS 0 24 hE5 ?_)
  intro w6 hE6
  clear hE5
  simp only [qQ] at hE6
  simp only [qZ]
  refine mqB ?_
  repeat ((fail_if_success refine sqx ?_); go_step)
  refine wp_region_B (n := 20) 19 (by kernel_rfl) rfl hE6 ?_
  intro w7 hb7 hE7
  clear hE6
  refine tqB 0 rfl (vqL 2 32 hE7 Tryz.underlying27) ?_
  refine tqB 1 rfl (vqL 1 64 hE7 Tryz.underlying31) ?_
  refine tqB 2 rfl (v_moveT (.inl rfl) rfl) ?_
  refine tqB 5 rfl (vqL 2 32 hE7 Tryz.underlying27) ?_
  refine tqB 6 rfl (vqL 1 64 hE7 Tryz.underlying31) ?_
  refine tqB 7 rfl (v_moveT (.inl rfl) rfl) ?_
  refine sqB 3 rfl (st_buildVs [Value.slice p m.length c] (one_slice) hE7 rfl rfl (by first | rfl | (simp only [List.map_cons, List.map_nil, List.zipIdx_cons, List.zipIdx_nil]; rfl)) rfl (by decide) (by decide) Tryz.underlying64 (by kernel_rfl) Tryz.zeroValue24 ?_)
  intro g3 w8 hb8 hE8
  clear hE7
  refine ⟨fun _ => hb8, ?_⟩
  simp only [qZ]
  refine sqB 4 rfl (st_gives hE8 rfl (run_call rfl Tryz.call12) (HV.out _ _ (RdSs.one (hE8.get (i := 0) rfl) (Hv.out.below hE8.below))) ?_)
  intro w9 hb9 hE9
  clear hE8
  refine ⟨fun _ => hb9, ?_⟩
  simp only [qZ]
  refine sqB 8 rfl (st_gives hE9 rfl (run_call rfl Tryz.call13) (HR.out _ _ (Hv.out.below hE9.below)) ?_)
  intro w10 hb10 hE10
  clear hE9
  refine ⟨fun _ => hb10, ?_⟩
  simp only [qZ]
  refine tqB 9 rfl (v_eqBs rfl rfl rfl Tryz.underlying4) ?_
  refine tqB 10 rfl (v_moveT (.inl rfl) rfl) ?_
  refine tqB 11 rfl (vqL 3 32 hE10 Tryz.underlying27) ?_
  refine tqB 13 rfl (v_moveT (.inl rfl) rfl) ?_
  refine sqB 12 rfl (st_gives hE10 rfl (run_call rfl Tryz.call15) (HK.out _) ?_)
  intro w11 hb11 hE11
  clear hE10
  refine ⟨fun _ => hb11, ?_⟩
  simp only [qZ]
  refine tqB 14 rfl (v_eqBs rfl rfl rfl Tryz.underlying4) ?_
  refine tqB 15 rfl (v_and rfl rfl (fun _ => rfl)) ?_
  refine tqB 16 rfl (v_moveT (.inl rfl) rfl) ?_
  refine sqB 17 rfl (st_gives hE11 rfl (run_call rfl Tryz.call7) (HW.out _) ?_)
  intro w12 hb12 hE12
  clear hE11
  refine ⟨fun _ => hb12, ?_⟩
  simp only [qZ]
  refine tqB 18 rfl (v_and rfl rfl (fun _ => rfl)) ?_
  refine sqB 19 rfl (st_val rfl (v_moveT (.inr rfl) rfl) ?_)
  refine ⟨fun _ => Below.refl _ _, ?_⟩
  simp only [qZ]
  refine wpB_done (by kernel_rfl) ?_ _
  repeat ((fail_if_success refine sqx ?_); go_step)
  go_returns
  exact ⟨rfl, hE12.below⟩
set_option maxRecDepth 100000 in
theorem signVerifies_lifted (os : Os) (started : os.Started) (H : Type) (enc : TypeId × Value → H) :
  ReturnsInHanded {} Tryz.checked os 5 .any (Rows.signVerifiesSpec.pre6 enc Tryz.prog Tryz.f5 Rows.signVerifiesRow.domain false) (Rows.signVerifiesSpec.post enc Tryz.prog Tryz.f5 false true false false) := by
 refine returnsInHanded_of_change (C := Tryz.checked) own started (by kernel_rfl) Tryz.func5
  (ChangeSpec.witness6 (enc := enc) (C := Tryz.checked) false ⟨#[], #[.agg (ints .u8 (List.replicate 32 0)), .agg (ints .u8 (List.replicate 64 0)), .slice none 0 0], []⟩ 8 (by kernel_rfl) (by kernel_rfl) (by kernel_rfl) (by kernel_rfl)) ?_
 intro W base args ds gs before hval0 hW hcnd _
 have hval : ∀ (j : Nat) t v, Tryz.f5.params[j]? = some t → args[j]? = some v → Value.okWide Tryz.prog W .any base t v := hval0
 have hW' := hW
 obtain ⟨p, q, hA0, hV, rfl, hfz, hnd⟩ := hW
 have hA : DataW.TrodAll enc Tryz.prog W 0 (fun _ => true) true Tryz.f5.params.toList args.toList ds p := hA0
 rw [Tryz.params5] at hA hval
 obtain ⟨v0, vs0, d0, ds0, p0, q0, hargs, rfl, rfl, h0, r0⟩ := trodAll_cons hA
 obtain ⟨v1, vs1, d1, ds1, p1, q1, rfl, rfl, rfl, h1, r1⟩ := trodAll_cons r0
 obtain ⟨v2, vs2, d2, ds2, p2, q2, rfl, rfl, rfl, h2, r2⟩ := trodAll_cons r1
 obtain ⟨rfl, rfl, rfl⟩ := trodAll_nil r2
 obtain rfl : args = #[v0, v1, v2] := by cases args; simp_all
 obtain ⟨rfl, rfl⟩ := trodVars_none hV
 have k0 := h0
 have lt0 : ∀ x ∈ p0, x.block < W.heap.size := by obtain ⟨m, hm⟩ := k0; exact DataW.trod_lt m _ _ _ hm
 have k1 := h1
 have lt1 : ∀ x ∈ p1, x.block < W.heap.size := by obtain ⟨m, hm⟩ := k1; exact DataW.trod_lt m _ _ _ hm
 have k2 := h2
 have lt2 : ∀ x ∈ p2, x.block < W.heap.size := by obtain ⟨m, hm⟩ := k2; exact DataW.trod_lt m _ _ _ hm
 obtain ⟨l0, rfl, hl0, dl0⟩ := open_u8s Tryz.underlying27 Tryz.underlying5 (by kernel_rfl) (by kernel_rfl) (hval 0 27 v0 rfl rfl) h0
 obtain ⟨l1, rfl, hl1, dl1⟩ := open_u8s Tryz.underlying31 Tryz.underlying5 (by kernel_rfl) (by kernel_rfl) (hval 1 31 v1 rfl rfl) h1
 obtain ⟨l2, hu2, hd2, hm2⟩ := open_bytes Tryz.underlying24 Tryz.underlying5 (by kernel_rfl) (hval 2 24 v2 rfl rfl) h2
 clear hA0 hval0
 refine (signVerifies_walk hl0 dl0 hl1 dl1 hu2 hd2 hm2).mono fun e W' ⟨he, bel⟩ => ?_
 subst he
 exact ⟨_, rfl, _, _, _, [], _, [], hW', trodAll_mk1 (shut_bool Tryz.underlying4 _), (trodAll_cons_mk (Below.trod laidOut (by kernel_rfl) (of_decide_eq_true (by kernel_rfl)) k0 bel lt0) (trodAll_cons_mk (Below.trod laidOut (by kernel_rfl) (of_decide_eq_true (by kernel_rfl)) k1 bel lt1) (trodAll_cons_mk (Below.trod laidOut (by kernel_rfl) (of_decide_eq_true (by kernel_rfl)) k2 bel lt2) trodAll_mk0))), rfl, bel.frame _, fun h => by cases h⟩

theorem signVerifies_over : Rows.signVerifiesRow.holds Tryz.pinned (OpenSpec.ofChange Rows.signVerifiesSpec) :=
 OpenClaim.holds_of_wide 5 Tryz.f5 rfl rfl rfl rfl rfl rfl rfl ⟨rfl, rfl, rfl, rfl, rfl⟩ rfl rfl rfl rfl rfl (by kernel_rfl) Tryz.func5 (by kernel_rfl)
  (of_decide_eq_true (by kernel_rfl)) (by unfold Func.isWrapper; first | (rw [if_pos (by decide +kernel)]; kernel_rfl) | (rw [if_neg (by decide +kernel)]; exact ⟨rfl, rfl⟩))
  (fun os started H enc _ => signVerifies_lifted os started H enc)

theorem signVerifies_holds : Rows.SignVerifiesSaid := signVerifies_over

#print axioms signVerifies_holds
end Go.Proofs.YthddoelflmoedaaGreat
