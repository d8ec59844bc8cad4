/-
  Layer 7: 'SignTurned': of a right signature, of which a byte is turned, or of another message, or another key, whether it is right. No condition.
-/
import Derived.Test.YthddoelflmoedaaGreatJ39
set_option linter.unusedVariables false
set_option linter.unusedSimpArgs false
namespace Go.Proofs.YthddoelflmoedaaGreat
open Go.ChangeShapes Go.WideShapes Go.ChangeAt Go.RowKit
set_option maxRecDepth 100000

set_option maxHeartbeats 16000000 in
theorem signTurned_walk {s m t : List Nat} {v : Value} {w : World} (hs : s.length = 32) (ds : Digs 256 s) (hv : RdS .u8 m v w) (dm : Digs 256 m) (hm : m.length ≤ maxLen) (ht : t.length = 3) (dt : Digs 256 t) : Gives 4 #[.agg (ints .u8 s), v, .agg (ints .u8 t)] w (.bool true) := by
 obtain ⟨p, c, rfl, hc, -⟩ := id hv
 have Hv := Lib.hid hv
 have HG : Hid (∀ w1, Below w.heap.size w w1 → Gives 6 #[.slice p m.length c] w1 (.bool (decide (300 < m.length)))) := Lib.hid (fun w1 hb => great_any (hv.below hb) hm)
 have HW := Lib.hid (fun w => awake_any w)
 by_cases h3 : 300 < m.length
 ·rw [decide_eq_true h3] at HG
  clear hv ds dm dt
  have hE0 := Env.nil w
  go_enter Tryz.func4, Tryz.ntmps4
  repeat ((fail_if_success refine sqx ?_); go_step)
  refine wl_step (st_boxA hE0 rfl rfl rfl ?_)
  intro g0 w1 hb1 hE1
  clear hE0
  simp only [qZ]
  refine wl_step (st_boxA hE1 rfl rfl rfl ?_)
  intro g1 w2 hb2 hE2
  clear hE1
  simp only [qZ]
  refine mqC ?_
  repeat ((fail_if_success refine sqx ?_); go_step)
  refine mqA ?_
  refine wl_step (st_gives hE2 rfl (run_call rfl Tryz.call6) (HG.out _ hE2.below) ?_)
  intro w3 hb3 hE3
  clear hE2
  simp only [qZ]
  repeat ((fail_if_success refine sqy ?_); go_step)
  refine cqT ?_
  skip
  repeat ((fail_if_success refine sqx ?_); go_step)
  refine wl_step (st_gives hE3 rfl (run_call rfl Tryz.call7) (HW.out _) ?_)
  intro w4 hb4 hE4
  clear hE3
  simp only [qZ]
  refine mqB ?_
  repeat ((fail_if_success refine sqx ?_); go_step)
  go_returns
  exact ⟨rfl, hE4.below⟩
 ·rw [decide_eq_false h3] at HG
  have e1 : ([m] : List (List Nat)).flatten = m := by simp
  have HP := Lib.hid (fun w => Public_any hs ds w)
  have HS : Hid (∀ (w1 : World) (v : Value), RdSs .u8 [m] v w1 → Gives 10 #[.agg (ints .u8 s), v] w1 (.agg (ints .u8 (sigL s m)))) := Lib.hid (fun w1 v h => by
   have h := Sign_any hs ds h (fun r hr => by rw [List.mem_singleton.1 hr]; exact dm) (by rw [e1]; omega) (show 1 < 1099511627776 by decide)
   rwa [e1] at h)
  have l1 := pubL_len s
  have d1 := pubL_Digs s
  have l2 := sigL_len s m
  have d2 := sigL_Digs s m
  obtain ⟨SG, hSG⟩ : ∃ SG, sigL s m = SG := ⟨_, rfl⟩
  obtain ⟨K, hK⟩ : ∃ K, pubL s = K := ⟨_, rfl⟩
  rw [hSG] at HS l2 d2
  rw [hK] at HP l1 d1
  have h0 := dt.getD (show 0 < 256 by decide) 0
  have h1 := dt.getD (show 0 < 256 by decide) 1
  have h2 := dt.getD (show 0 < 256 by decide) 2
  obtain ⟨a0, ha0⟩ : ∃ a, t.getD 0 0 = a := ⟨_, rfl⟩
  obtain ⟨a1, ha1⟩ : ∃ a, t.getD 1 0 = a := ⟨_, rfl⟩
  obtain ⟨a2, ha2⟩ : ∃ a, t.getD 2 0 = a := ⟨_, rfl⟩
  rw [ha0] at h0
  rw [ha1] at h1
  rw [ha2] at h2
  have A0 := Lib.hid ha0
  have A1 := Lib.hid ha1
  have A2 := Lib.hid ha2
  have hx64 : a1 % 64 < 64 := Nat.mod_lt _ (by decide)
  have hx32 : a1 % 32 < 32 := Nat.mod_lt _ (by decide)
  obtain ⟨i64, hi64⟩ : ∃ i, a1 % 64 = i := ⟨_, rfl⟩
  obtain ⟨i32, hi32⟩ : ∃ i, a1 % 32 = i := ⟨_, rfl⟩
  rw [hi64] at hx64
  rw [hi32] at hx32
  have I64 := Lib.hid hi64
  have I32 := Lib.hid hi32
  have x1 := d2.getD (show 0 < 256 by decide) i64
  have x2 := d1.getD (show 0 < 256 by decide) i32
  have y1 : SG.getD i64 0 ^^^ a2 < 256 := Nat.xor_lt_two_pow (n := 8) x1 h2
  have y2 : K.getD i32 0 ^^^ a2 < 256 := Nat.xor_lt_two_pow (n := 8) x2 h2
  have both : ∀ (K' G' m' : List Nat), K'.length = 32 → Digs 256 K' → G'.length = 64 → Digs 256 G' → Digs 256 m' → m'.length < 274877906944 → Hid (∃ b : Bool, 
   (∀ (w : World) (v : Value), RdSs .u8 [m'] v w → Gives 12 #[.agg (ints .u8 K'), .agg (ints .u8 G'), v] w (.bool b)) ∧
   (∀ (w : World) (v : Value), RdS .u8 m' v w → Gives 13 #[.agg (ints .u8 K'), .agg (ints .u8 G'), v] w (.bool b))) := fun K' G' m' q1 q2 q3 q4 q5 q6 => by
   obtain ⟨b, _, _, _, _, _, z1, z2⟩ := both_any q1 q2 q3 q4 q5 q6
   exact Lib.hid ⟨b, z1, z2⟩
  have B0 := both K (SG.set i64 (SG.getD i64 0 ^^^ a2)) m l1 d1 (by rw [List.length_set]; exact l2) (d2.set _ y1) dm (by omega)
  have B1 := both (K.set i32 (K.getD i32 0 ^^^ a2)) SG m (by rw [List.length_set]; exact l1) (d1.set _ y2) l2 d2 dm (by omega)
  have B2 := both K SG (m ++ [a2]) l1 d1 l2 d2 (dm.append (Digs.cons h2 Digs.nil)) (by rw [List.length_append]; simp only [List.length_cons, List.length_nil]; omega)
  have B3 := both K SG m l1 d1 l2 d2 dm (by omega)
  have bx1 : SG.getD i64 0 < 2 ^ IntKind.u8.bits := x1
  have bx2 : K.getD i32 0 < 2 ^ IntKind.u8.bits := x2
  have ba2 : a2 < 2 ^ IntKind.u8.bits := h2
  have l2' : (SG.set i64 (SG.getD i64 0 ^^^ a2)).length = 64 := by rw [List.length_set]; exact l2
  have l1' : (K.set i32 (K.getD i32 0 ^^^ a2)).length = 32 := by rw [List.length_set]; exact l1
  obtain ⟨iu, hi, hz', hsz, hby⟩ := info_u8
  have Hi := Lib.hid hi
  have Hz := Lib.hid hz'
  have Hsz := Lib.hid hsz
  have Hby := Lib.hid hby
  have b1 : ([] : List Value).length + m.length ≤ maxLen := by simp only [List.length_nil, maxLen]; omega
  have b2 : (([] : List Value).length + m.length) * 1 ≤ 140737488355328 := by simp only [List.length_nil]; omega
  have b3 : (nats .u8 m).length + [a2].length ≤ maxLen := by rw [nats_len]; simp only [maxLen, List.length_cons, List.length_nil]; omega
  have b4 : ((nats .u8 m).length + [a2].length) * 1 ≤ 140737488355328 := by rw [nats_len]; simp only [List.length_cons, List.length_nil]; omega
  obtain ⟨r0, hr0⟩ : ∃ r, a0 % 4 = r := ⟨_, rfl⟩
  have hr4 : r0 < 4 := by rw [← hr0]; exact Nat.mod_lt _ (by decide)
  have R0 := Lib.hid hr0
  clear hv ds dm dt e1 hSG hK ha0 ha1 ha2 hi64 hi32 both d1 d2 hi hz' hsz hby hr0 x1 x2 y1 y2
  have hE0 := Env.nil w
  go_enter Tryz.func4, Tryz.ntmps4
  repeat ((fail_if_success refine sqx ?_); go_step)
  refine wl_step (st_boxA hE0 rfl rfl rfl ?_)
  intro g0 w1 hb1 hE1
  clear hE0
  simp only [qZ]
  refine wl_step (st_boxA hE1 rfl rfl rfl ?_)
  intro g1 w2 hb2 hE2
  clear hE1
  simp only [qZ]
  refine mqC ?_
  repeat ((fail_if_success refine sqx ?_); go_step)
  refine mqA ?_
  refine wl_step (st_gives hE2 rfl (run_call rfl Tryz.call6) (HG.out _ hE2.below) ?_)
  intro w3 hb3 hE3
  clear hE2
  simp only [qZ]
  repeat ((fail_if_success refine sqy ?_); go_step)
  refine cqF ?_
  skip
  repeat ((fail_if_success refine sqx ?_); go_step)
  apply wp_region_D (n := 10) (fun gr gk gs => [⟨gs, 31, ints .u8 SG⟩, ⟨gk, 27, ints .u8 K⟩, ⟨gr, 24, #[Value.slice p m.length c]⟩, ⟨g1, 35, ints .u8 t⟩, ⟨g0, 23, ints .u8 s⟩]) 8 (by kernel_rfl) rfl hE3
  focus
   intro hcont w4 hb4 hE4
   obtain ⟨gx1, gx2, gx3, vx1, vx2, vx3, -⟩ : ∃ (a b c : Nat) (d e f : Value), True := ⟨0, 0, 0, undef, undef, undef, trivial⟩
   refine tqB 0 rfl (vqL 1 32 hE4 Tryz.underlying23) ?_
   refine tqB 2 rfl (vqL 1 32 hE4 Tryz.underlying23) ?_
   refine tqB 3 rfl (v_moveT (.inl rfl) rfl) ?_
   refine wpB_step4 (i := 1) (j := 4) (k := 6) (l := 7) (by kernel_rfl) rfl rfl rfl rfl ?br1a ?br1b ?br1c ?br1d
   case br1a =>
    refine st_gives hE4 rfl (run_call rfl Tryz.call8) (HP.out _) ?_
    intro w5 hb5 hE5
    clear hE4
    refine ⟨fun _ => hb5, ?_⟩
    simp only [qZ]
    refine wpB_step3 (i := 4) (j := 6) (k := 7) (by kernel_rfl) rfl rfl rfl ?br2a ?br2b ?br2c
    case br2a =>
     refine st_buildVs [Value.slice p m.length c] (one_slice) hE5 rfl rfl (by first | rfl | (simp only [List.map_cons, List.map_nil, List.zipIdx_cons, List.zipIdx_nil]; rfl)) rfl (by decide) (by decide) Tryz.underlying64 (by kernel_rfl) Tryz.zeroValue24 ?_
     intro g2 w6 hb6 hE6
     clear hE5
     refine ⟨fun _ => hb6, ?_⟩
     simp only [qZ]
     refine wpB_step3 (i := 5) (j := 6) (k := 7) (by kernel_rfl) rfl rfl rfl ?br3a ?br3b ?br3c
     case br3a =>
      refine st_gives hE6 rfl (run_call rfl Tryz.call10) (HS.out _ _ (RdSs.one (hE6.get (i := 0) rfl) (Hv.out.below hE6.below))) ?_
      intro w7 hb7 hE7
      clear hE6
      refine ⟨fun _ => hb7, ?_⟩
      simp only [qZ]
      refine wpB_step2 (i := 6) (j := 7) (by kernel_rfl) rfl rfl ?br4a ?br4b
      case br4a =>
       refine sqA (ints .u8 (List.replicate 32 0)) hE7 ?_
       intro g3 w8 hb8 hE8
       clear hE7
       refine ⟨fun _ => hb8, ?_⟩
       simp only [qZ]
       refine sqB 7 rfl (sqA (ints .u8 (List.replicate 64 0)) hE8 ?_)
       intro g4 w9 hb9 hE9
       clear hE8
       refine ⟨fun _ => hb9, ?_⟩
       simp only [qZ]
       refine sqB 8 rfl (sqS 1 32 hE9 ?_)
       intro w10 hE10
       clear hE9
       simp only [qQ] at hE10
       refine nqB ?_
       simp only [qZ]
       refine sqB 9 rfl (sqS 0 64 hE10 ?_)
       intro w11 hE11
       clear hE10
       simp only [qQ] at hE11
       refine nqB ?_
       simp only [qZ]
       refine wpB_done (by kernel_rfl) ?_ _
       exact hcont g2 g3 g4 vx1 vx2 vx3 _ (hE11)
      case br4b =>
       refine sqA (ints .u8 (List.replicate 64 0)) hE7 ?_
       intro g3 w8 hb8 hE8
       clear hE7
       refine ⟨fun _ => hb8, ?_⟩
       simp only [qZ]
       refine sqB 6 rfl (sqA (ints .u8 (List.replicate 32 0)) hE8 ?_)
       intro g4 w9 hb9 hE9
       clear hE8
       refine ⟨fun _ => hb9, ?_⟩
       simp only [qZ]
       refine sqB 8 rfl (sqS 0 32 hE9 ?_)
       intro w10 hE10
       clear hE9
       simp only [qQ] at hE10
       refine nqB ?_
       simp only [qZ]
       refine sqB 9 rfl (sqS 1 64 hE10 ?_)
       intro w11 hE11
       clear hE10
       simp only [qQ] at hE11
       refine nqB ?_
       simp only [qZ]
       refine wpB_done (by kernel_rfl) ?_ _
       exact hcont g2 g4 g3 vx1 vx2 vx3 _ (hE11.perm (List.Perm.swap _ _ _))
     case br3b =>
      refine sqA (ints .u8 (List.replicate 32 0)) hE6 ?_
      intro g3 w7 hb7 hE7
      clear hE6
      refine ⟨fun _ => hb7, ?_⟩
      simp only [qZ]
      refine wpB_step2 (i := 5) (j := 7) (by kernel_rfl) rfl rfl ?br5a ?br5b
      case br5a =>
       refine st_gives hE7 rfl (run_call rfl Tryz.call10) (HS.out _ _ (RdSs.one (hE7.get (i := 1) rfl) (Hv.out.below hE7.below))) ?_
       intro w8 hb8 hE8
       clear hE7
       refine ⟨fun _ => hb8, ?_⟩
       simp only [qZ]
       refine sqB 7 rfl (sqA (ints .u8 (List.replicate 64 0)) hE8 ?_)
       intro g4 w9 hb9 hE9
       clear hE8
       refine ⟨fun _ => hb9, ?_⟩
       simp only [qZ]
       refine sqB 8 rfl (sqS 1 32 hE9 ?_)
       intro w10 hE10
       clear hE9
       simp only [qQ] at hE10
       refine nqB ?_
       simp only [qZ]
       refine sqB 9 rfl (sqS 0 64 hE10 ?_)
       intro w11 hE11
       clear hE10
       simp only [qQ] at hE11
       refine nqB ?_
       simp only [qZ]
       refine wpB_done (by kernel_rfl) ?_ _
       exact hcont g2 g3 g4 vx1 vx2 vx3 _ (hE11)
      case br5b =>
       refine sqA (ints .u8 (List.replicate 64 0)) hE7 ?_
       intro g4 w8 hb8 hE8
       clear hE7
       refine ⟨fun _ => hb8, ?_⟩
       simp only [qZ]
       refine sqB 5 rfl (st_gives hE8 rfl (run_call rfl Tryz.call10) (HS.out _ _ (RdSs.one (hE8.get (i := 2) rfl) (Hv.out.below hE8.below))) ?_)
       intro w9 hb9 hE9
       clear hE8
       refine ⟨fun _ => hb9, ?_⟩
       simp only [qZ]
       refine sqB 8 rfl (sqS 1 32 hE9 ?_)
       intro w10 hE10
       clear hE9
       simp only [qQ] at hE10
       refine nqB ?_
       simp only [qZ]
       refine sqB 9 rfl (sqS 0 64 hE10 ?_)
       intro w11 hE11
       clear hE10
       simp only [qQ] at hE11
       refine nqB ?_
       simp only [qZ]
       refine wpB_done (by kernel_rfl) ?_ _
       exact hcont g2 g3 g4 vx1 vx2 vx3 _ (hE11)
     case br3c =>
      refine sqA (ints .u8 (List.replicate 64 0)) hE6 ?_
      intro g3 w7 hb7 hE7
      clear hE6
      refine ⟨fun _ => hb7, ?_⟩
      simp only [qZ]
      refine wpB_step2 (i := 5) (j := 6) (by kernel_rfl) rfl rfl ?br6a ?br6b
      case br6a =>
       refine st_gives hE7 rfl (run_call rfl Tryz.call10) (HS.out _ _ (RdSs.one (hE7.get (i := 1) rfl) (Hv.out.below hE7.below))) ?_
       intro w8 hb8 hE8
       clear hE7
       refine ⟨fun _ => hb8, ?_⟩
       simp only [qZ]
       refine sqB 6 rfl (sqA (ints .u8 (List.replicate 32 0)) hE8 ?_)
       intro g4 w9 hb9 hE9
       clear hE8
       refine ⟨fun _ => hb9, ?_⟩
       simp only [qZ]
       refine sqB 8 rfl (sqS 0 32 hE9 ?_)
       intro w10 hE10
       clear hE9
       simp only [qQ] at hE10
       refine nqB ?_
       simp only [qZ]
       refine sqB 9 rfl (sqS 1 64 hE10 ?_)
       intro w11 hE11
       clear hE10
       simp only [qQ] at hE11
       refine nqB ?_
       simp only [qZ]
       refine wpB_done (by kernel_rfl) ?_ _
       exact hcont g2 g4 g3 vx1 vx2 vx3 _ (hE11.perm (List.Perm.swap _ _ _))
      case br6b =>
       refine sqA (ints .u8 (List.replicate 32 0)) hE7 ?_
       intro g4 w8 hb8 hE8
       clear hE7
       refine ⟨fun _ => hb8, ?_⟩
       simp only [qZ]
       refine sqB 5 rfl (st_gives hE8 rfl (run_call rfl Tryz.call10) (HS.out _ _ (RdSs.one (hE8.get (i := 2) rfl) (Hv.out.below hE8.below))) ?_)
       intro w9 hb9 hE9
       clear hE8
       refine ⟨fun _ => hb9, ?_⟩
       simp only [qZ]
       refine sqB 8 rfl (sqS 0 32 hE9 ?_)
       intro w10 hE10
       clear hE9
       simp only [qQ] at hE10
       refine nqB ?_
       simp only [qZ]
       refine sqB 9 rfl (sqS 1 64 hE10 ?_)
       intro w11 hE11
       clear hE10
       simp only [qQ] at hE11
       refine nqB ?_
       simp only [qZ]
       refine wpB_done (by kernel_rfl) ?_ _
       exact hcont g2 g4 g3 vx1 vx2 vx3 _ (hE11.perm (List.Perm.swap _ _ _))
    case br2b =>
     refine sqA (ints .u8 (List.replicate 32 0)) hE5 ?_
     intro g2 w6 hb6 hE6
     clear hE5
     refine ⟨fun _ => hb6, ?_⟩
     simp only [qZ]
     refine wpB_step2 (i := 4) (j := 7) (by kernel_rfl) rfl rfl ?br7a ?br7b
     case br7a =>
      refine st_buildVs [Value.slice p m.length c] (one_slice) hE6 rfl rfl (by first | rfl | (simp only [List.map_cons, List.map_nil, List.zipIdx_cons, List.zipIdx_nil]; rfl)) rfl (by decide) (by decide) Tryz.underlying64 (by kernel_rfl) Tryz.zeroValue24 ?_
      intro g3 w7 hb7 hE7
      clear hE6
      refine ⟨fun _ => hb7, ?_⟩
      simp only [qZ]
      refine wpB_step2 (i := 5) (j := 7) (by kernel_rfl) rfl rfl ?br8a ?br8b
      case br8a =>
       refine st_gives hE7 rfl (run_call rfl Tryz.call10) (HS.out _ _ (RdSs.one (hE7.get (i := 0) rfl) (Hv.out.below hE7.below))) ?_
       intro w8 hb8 hE8
       clear hE7
       refine ⟨fun _ => hb8, ?_⟩
       simp only [qZ]
       refine sqB 7 rfl (sqA (ints .u8 (List.replicate 64 0)) hE8 ?_)
       intro g4 w9 hb9 hE9
       clear hE8
       refine ⟨fun _ => hb9, ?_⟩
       simp only [qZ]
       refine sqB 8 rfl (sqS 2 32 hE9 ?_)
       intro w10 hE10
       clear hE9
       simp only [qQ] at hE10
       refine nqB ?_
       simp only [qZ]
       refine sqB 9 rfl (sqS 0 64 hE10 ?_)
       intro w11 hE11
       clear hE10
       simp only [qQ] at hE11
       refine nqB ?_
       simp only [qZ]
       refine wpB_done (by kernel_rfl) ?_ _
       exact hcont g3 g2 g4 vx1 vx2 vx3 _ (hE11.perm (List.Perm.cons _ (List.Perm.swap _ _ _)))
      case br8b =>
       refine sqA (ints .u8 (List.replicate 64 0)) hE7 ?_
       intro g4 w8 hb8 hE8
       clear hE7
       refine ⟨fun _ => hb8, ?_⟩
       simp only [qZ]
       refine sqB 5 rfl (st_gives hE8 rfl (run_call rfl Tryz.call10) (HS.out _ _ (RdSs.one (hE8.get (i := 1) rfl) (Hv.out.below hE8.below))) ?_)
       intro w9 hb9 hE9
       clear hE8
       refine ⟨fun _ => hb9, ?_⟩
       simp only [qZ]
       refine sqB 8 rfl (sqS 2 32 hE9 ?_)
       intro w10 hE10
       clear hE9
       simp only [qQ] at hE10
       refine nqB ?_
       simp only [qZ]
       refine sqB 9 rfl (sqS 0 64 hE10 ?_)
       intro w11 hE11
       clear hE10
       simp only [qQ] at hE11
       refine nqB ?_
       simp only [qZ]
       refine wpB_done (by kernel_rfl) ?_ _
       exact hcont g3 g2 g4 vx1 vx2 vx3 _ (hE11.perm (List.Perm.cons _ (List.Perm.swap _ _ _)))
     case br7b =>
      refine sqA (ints .u8 (List.replicate 64 0)) hE6 ?_
      intro g3 w7 hb7 hE7
      clear hE6
      refine ⟨fun _ => hb7, ?_⟩
      simp only [qZ]
      refine sqB 4 rfl (st_buildVs [Value.slice p m.length c] (one_slice) hE7 rfl rfl (by first | rfl | (simp only [List.map_cons, List.map_nil, List.zipIdx_cons, List.zipIdx_nil]; rfl)) rfl (by decide) (by decide) Tryz.underlying64 (by kernel_rfl) Tryz.zeroValue24 ?_)
      intro g4 w8 hb8 hE8
      clear hE7
      refine ⟨fun _ => hb8, ?_⟩
      simp only [qZ]
      refine sqB 5 rfl (st_gives hE8 rfl (run_call rfl Tryz.call10) (HS.out _ _ (RdSs.one (hE8.get (i := 0) rfl) (Hv.out.below hE8.below))) ?_)
      intro w9 hb9 hE9
      clear hE8
      refine ⟨fun _ => hb9, ?_⟩
      simp only [qZ]
      refine sqB 8 rfl (sqS 2 32 hE9 ?_)
      intro w10 hE10
      clear hE9
      simp only [qQ] at hE10
      refine nqB ?_
      simp only [qZ]
      refine sqB 9 rfl (sqS 1 64 hE10 ?_)
      intro w11 hE11
      clear hE10
      simp only [qQ] at hE11
      refine nqB ?_
      simp only [qZ]
      refine wpB_done (by kernel_rfl) ?_ _
      exact hcont g4 g2 g3 vx1 vx2 vx3 _ (hE11.perm ((List.Perm.swap _ _ _).trans (List.Perm.cons _ (List.Perm.swap _ _ _))))
    case br2c =>
     refine sqA (ints .u8 (List.replicate 64 0)) hE5 ?_
     intro g2 w6 hb6 hE6
     clear hE5
     refine ⟨fun _ => hb6, ?_⟩
     simp only [qZ]
     refine wpB_step2 (i := 4) (j := 6) (by kernel_rfl) rfl rfl ?br9a ?br9b
     case br9a =>
      refine st_buildVs [Value.slice p m.length c] (one_slice) hE6 rfl rfl (by first | rfl | (simp only [List.map_cons, List.map_nil, List.zipIdx_cons, List.zipIdx_nil]; rfl)) rfl (by decide) (by decide) Tryz.underlying64 (by kernel_rfl) Tryz.zeroValue24 ?_
      intro g3 w7 hb7 hE7
      clear hE6
      refine ⟨fun _ => hb7, ?_⟩
      simp only [qZ]
      refine wpB_step2 (i := 5) (j := 6) (by kernel_rfl) rfl rfl ?br10a ?br10b
      case br10a =>
       refine st_gives hE7 rfl (run_call rfl Tryz.call10) (HS.out _ _ (RdSs.one (hE7.get (i := 0) rfl) (Hv.out.below hE7.below))) ?_
       intro w8 hb8 hE8
       clear hE7
       refine ⟨fun _ => hb8, ?_⟩
       simp only [qZ]
       refine sqB 6 rfl (sqA (ints .u8 (List.replicate 32 0)) hE8 ?_)
       intro g4 w9 hb9 hE9
       clear hE8
       refine ⟨fun _ => hb9, ?_⟩
       simp only [qZ]
       refine sqB 8 rfl (sqS 0 32 hE9 ?_)
       intro w10 hE10
       clear hE9
       simp only [qQ] at hE10
       refine nqB ?_
       simp only [qZ]
       refine sqB 9 rfl (sqS 2 64 hE10 ?_)
       intro w11 hE11
       clear hE10
       simp only [qQ] at hE11
       refine nqB ?_
       simp only [qZ]
       refine wpB_done (by kernel_rfl) ?_ _
       exact hcont g3 g4 g2 vx1 vx2 vx3 _ (hE11.perm ((List.Perm.cons _ (List.Perm.swap _ _ _)).trans (List.Perm.swap _ _ _)))
      case br10b =>
       refine sqA (ints .u8 (List.replicate 32 0)) hE7 ?_
       intro g4 w8 hb8 hE8
       clear hE7
       refine ⟨fun _ => hb8, ?_⟩
       simp only [qZ]
       refine sqB 5 rfl (st_gives hE8 rfl (run_call rfl Tryz.call10) (HS.out _ _ (RdSs.one (hE8.get (i := 1) rfl) (Hv.out.below hE8.below))) ?_)
       intro w9 hb9 hE9
       clear hE8
       refine ⟨fun _ => hb9, ?_⟩
       simp only [qZ]
       refine sqB 8 rfl (sqS 0 32 hE9 ?_)
       intro w10 hE10
       clear hE9
       simp only [qQ] at hE10
       refine nqB ?_
       simp only [qZ]
       refine sqB 9 rfl (sqS 2 64 hE10 ?_)
       intro w11 hE11
       clear hE10
       simp only [qQ] at hE11
       refine nqB ?_
       simp only [qZ]
       refine wpB_done (by kernel_rfl) ?_ _
       exact hcont g3 g4 g2 vx1 vx2 vx3 _ (hE11.perm ((List.Perm.cons _ (List.Perm.swap _ _ _)).trans (List.Perm.swap _ _ _)))
     case br9b =>
      refine sqA (ints .u8 (List.replicate 32 0)) hE6 ?_
      intro g3 w7 hb7 hE7
      clear hE6
      refine ⟨fun _ => hb7, ?_⟩
      simp only [qZ]
      refine sqB 4 rfl (st_buildVs [Value.slice p m.length c] (one_slice) hE7 rfl rfl (by first | rfl | (simp only [List.map_cons, List.map_nil, List.zipIdx_cons, List.zipIdx_nil]; rfl)) rfl (by decide) (by decide) Tryz.underlying64 (by kernel_rfl) Tryz.zeroValue24 ?_)
      intro g4 w8 hb8 hE8
      clear hE7
      refine ⟨fun _ => hb8, ?_⟩
      simp only [qZ]
      refine sqB 5 rfl (st_gives hE8 rfl (run_call rfl Tryz.call10) (HS.out _ _ (RdSs.one (hE8.get (i := 0) rfl) (Hv.out.below hE8.below))) ?_)
      intro w9 hb9 hE9
      clear hE8
      refine ⟨fun _ => hb9, ?_⟩
      simp only [qZ]
      refine sqB 8 rfl (sqS 1 32 hE9 ?_)
      intro w10 hE10
      clear hE9
      simp only [qQ] at hE10
      refine nqB ?_
      simp only [qZ]
      refine sqB 9 rfl (sqS 2 64 hE10 ?_)
      intro w11 hE11
      clear hE10
      simp only [qQ] at hE11
      refine nqB ?_
      simp only [qZ]
      refine wpB_done (by kernel_rfl) ?_ _
      exact hcont g4 g3 g2 vx1 vx2 vx3 _ (hE11.perm ((List.Perm.cons _ (List.Perm.swap _ _ _)).trans ((List.Perm.swap _ _ _).trans (List.Perm.cons _ (List.Perm.swap _ _ _)))))
   case br1b =>
    refine st_buildVs [Value.slice p m.length c] (one_slice) hE4 rfl rfl (by first | rfl | (simp only [List.map_cons, List.map_nil, List.zipIdx_cons, List.zipIdx_nil]; rfl)) rfl (by decide) (by decide) Tryz.underlying64 (by kernel_rfl) Tryz.zeroValue24 ?_
    intro g2 w5 hb5 hE5
    clear hE4
    refine ⟨fun _ => hb5, ?_⟩
    simp only [qZ]
    refine wpB_step3 (i := 1) (j := 6) (k := 7) (by kernel_rfl) rfl rfl rfl ?br11a ?br11b ?br11c
    case br11a =>
     refine st_gives hE5 rfl (run_call rfl Tryz.call8) (HP.out _) ?_
     intro w6 hb6 hE6
     clear hE5
     refine ⟨fun _ => hb6, ?_⟩
     simp only [qZ]
     refine wpB_step3 (i := 5) (j := 6) (k := 7) (by kernel_rfl) rfl rfl rfl ?br12a ?br12b ?br12c
     case br12a =>
      refine st_gives hE6 rfl (run_call rfl Tryz.call10) (HS.out _ _ (RdSs.one (hE6.get (i := 0) rfl) (Hv.out.below hE6.below))) ?_
      intro w7 hb7 hE7
      clear hE6
      refine ⟨fun _ => hb7, ?_⟩
      simp only [qZ]
      refine wpB_step2 (i := 6) (j := 7) (by kernel_rfl) rfl rfl ?br13a ?br13b
      case br13a =>
       refine sqA (ints .u8 (List.replicate 32 0)) hE7 ?_
       intro g3 w8 hb8 hE8
       clear hE7
       refine ⟨fun _ => hb8, ?_⟩
       simp only [qZ]
       refine sqB 7 rfl (sqA (ints .u8 (List.replicate 64 0)) hE8 ?_)
       intro g4 w9 hb9 hE9
       clear hE8
       refine ⟨fun _ => hb9, ?_⟩
       simp only [qZ]
       refine sqB 8 rfl (sqS 1 32 hE9 ?_)
       intro w10 hE10
       clear hE9
       simp only [qQ] at hE10
       refine nqB ?_
       simp only [qZ]
       refine sqB 9 rfl (sqS 0 64 hE10 ?_)
       intro w11 hE11
       clear hE10
       simp only [qQ] at hE11
       refine nqB ?_
       simp only [qZ]
       refine wpB_done (by kernel_rfl) ?_ _
       exact hcont g2 g3 g4 vx1 vx2 vx3 _ (hE11)
      case br13b =>
       refine sqA (ints .u8 (List.replicate 64 0)) hE7 ?_
       intro g3 w8 hb8 hE8
       clear hE7
       refine ⟨fun _ => hb8, ?_⟩
       simp only [qZ]
       refine sqB 6 rfl (sqA (ints .u8 (List.replicate 32 0)) hE8 ?_)
       intro g4 w9 hb9 hE9
       clear hE8
       refine ⟨fun _ => hb9, ?_⟩
       simp only [qZ]
       refine sqB 8 rfl (sqS 0 32 hE9 ?_)
       intro w10 hE10
       clear hE9
       simp only [qQ] at hE10
       refine nqB ?_
       simp only [qZ]
       refine sqB 9 rfl (sqS 1 64 hE10 ?_)
       intro w11 hE11
       clear hE10
       simp only [qQ] at hE11
       refine nqB ?_
       simp only [qZ]
       refine wpB_done (by kernel_rfl) ?_ _
       exact hcont g2 g4 g3 vx1 vx2 vx3 _ (hE11.perm (List.Perm.swap _ _ _))
     case br12b =>
      refine sqA (ints .u8 (List.replicate 32 0)) hE6 ?_
      intro g3 w7 hb7 hE7
      clear hE6
      refine ⟨fun _ => hb7, ?_⟩
      simp only [qZ]
      refine wpB_step2 (i := 5) (j := 7) (by kernel_rfl) rfl rfl ?br14a ?br14b
      case br14a =>
       refine st_gives hE7 rfl (run_call rfl Tryz.call10) (HS.out _ _ (RdSs.one (hE7.get (i := 1) rfl) (Hv.out.below hE7.below))) ?_
       intro w8 hb8 hE8
       clear hE7
       refine ⟨fun _ => hb8, ?_⟩
       simp only [qZ]
       refine sqB 7 rfl (sqA (ints .u8 (List.replicate 64 0)) hE8 ?_)
       intro g4 w9 hb9 hE9
       clear hE8
       refine ⟨fun _ => hb9, ?_⟩
       simp only [qZ]
       refine sqB 8 rfl (sqS 1 32 hE9 ?_)
       intro w10 hE10
       clear hE9
       simp only [qQ] at hE10
       refine nqB ?_
       simp only [qZ]
       refine sqB 9 rfl (sqS 0 64 hE10 ?_)
       intro w11 hE11
       clear hE10
       simp only [qQ] at hE11
       refine nqB ?_
       simp only [qZ]
       refine wpB_done (by kernel_rfl) ?_ _
       exact hcont g2 g3 g4 vx1 vx2 vx3 _ (hE11)
      case br14b =>
       refine sqA (ints .u8 (List.replicate 64 0)) hE7 ?_
       intro g4 w8 hb8 hE8
       clear hE7
       refine ⟨fun _ => hb8, ?_⟩
       simp only [qZ]
       refine sqB 5 rfl (st_gives hE8 rfl (run_call rfl Tryz.call10) (HS.out _ _ (RdSs.one (hE8.get (i := 2) rfl) (Hv.out.below hE8.below))) ?_)
       intro w9 hb9 hE9
       clear hE8
       refine ⟨fun _ => hb9, ?_⟩
       simp only [qZ]
       refine sqB 8 rfl (sqS 1 32 hE9 ?_)
       intro w10 hE10
       clear hE9
       simp only [qQ] at hE10
       refine nqB ?_
       simp only [qZ]
       refine sqB 9 rfl (sqS 0 64 hE10 ?_)
       intro w11 hE11
       clear hE10
       simp only [qQ] at hE11
       refine nqB ?_
       simp only [qZ]
       refine wpB_done (by kernel_rfl) ?_ _
       exact hcont g2 g3 g4 vx1 vx2 vx3 _ (hE11)
     case br12c =>
      refine sqA (ints .u8 (List.replicate 64 0)) hE6 ?_
      intro g3 w7 hb7 hE7
      clear hE6
      refine ⟨fun _ => hb7, ?_⟩
      simp only [qZ]
      refine wpB_step2 (i := 5) (j := 6) (by kernel_rfl) rfl rfl ?br15a ?br15b
      case br15a =>
       refine st_gives hE7 rfl (run_call rfl Tryz.call10) (HS.out _ _ (RdSs.one (hE7.get (i := 1) rfl) (Hv.out.below hE7.below))) ?_
       intro w8 hb8 hE8
       clear hE7
       refine ⟨fun _ => hb8, ?_⟩
       simp only [qZ]
       refine sqB 6 rfl (sqA (ints .u8 (List.replicate 32 0)) hE8 ?_)
       intro g4 w9 hb9 hE9
       clear hE8
       refine ⟨fun _ => hb9, ?_⟩
       simp only [qZ]
       refine sqB 8 rfl (sqS 0 32 hE9 ?_)
       intro w10 hE10
       clear hE9
       simp only [qQ] at hE10
       refine nqB ?_
       simp only [qZ]
       refine sqB 9 rfl (sqS 1 64 hE10 ?_)
       intro w11 hE11
       clear hE10
       simp only [qQ] at hE11
       refine nqB ?_
       simp only [qZ]
       refine wpB_done (by kernel_rfl) ?_ _
       exact hcont g2 g4 g3 vx1 vx2 vx3 _ (hE11.perm (List.Perm.swap _ _ _))
      case br15b =>
       refine sqA (ints .u8 (List.replicate 32 0)) hE7 ?_
       intro g4 w8 hb8 hE8
       clear hE7
       refine ⟨fun _ => hb8, ?_⟩
       simp only [qZ]
       refine sqB 5 rfl (st_gives hE8 rfl (run_call rfl Tryz.call10) (HS.out _ _ (RdSs.one (hE8.get (i := 2) rfl) (Hv.out.below hE8.below))) ?_)
       intro w9 hb9 hE9
       clear hE8
       refine ⟨fun _ => hb9, ?_⟩
       simp only [qZ]
       refine sqB 8 rfl (sqS 0 32 hE9 ?_)
       intro w10 hE10
       clear hE9
       simp only [qQ] at hE10
       refine nqB ?_
       simp only [qZ]
       refine sqB 9 rfl (sqS 1 64 hE10 ?_)
       intro w11 hE11
       clear hE10
       simp only [qQ] at hE11
       refine nqB ?_
       simp only [qZ]
       refine wpB_done (by kernel_rfl) ?_ _
       exact hcont g2 g4 g3 vx1 vx2 vx3 _ (hE11.perm (List.Perm.swap _ _ _))
    case br11b =>
     refine sqA (ints .u8 (List.replicate 32 0)) hE5 ?_
     intro g3 w6 hb6 hE6
     clear hE5
     refine ⟨fun _ => hb6, ?_⟩
     simp only [qZ]
     refine wpB_step2 (i := 1) (j := 7) (by kernel_rfl) rfl rfl ?br16a ?br16b
     case br16a =>
      refine st_gives hE6 rfl (run_call rfl Tryz.call8) (HP.out _) ?_
      intro w7 hb7 hE7
      clear hE6
      refine ⟨fun _ => hb7, ?_⟩
      simp only [qZ]
      refine wpB_step2 (i := 5) (j := 7) (by kernel_rfl) rfl rfl ?br17a ?br17b
      case br17a =>
       refine st_gives hE7 rfl (run_call rfl Tryz.call10) (HS.out _ _ (RdSs.one (hE7.get (i := 1) rfl) (Hv.out.below hE7.below))) ?_
       intro w8 hb8 hE8
       clear hE7
       refine ⟨fun _ => hb8, ?_⟩
       simp only [qZ]
       refine sqB 7 rfl (sqA (ints .u8 (List.replicate 64 0)) hE8 ?_)
       intro g4 w9 hb9 hE9
       clear hE8
       refine ⟨fun _ => hb9, ?_⟩
       simp only [qZ]
       refine sqB 8 rfl (sqS 1 32 hE9 ?_)
       intro w10 hE10
       clear hE9
       simp only [qQ] at hE10
       refine nqB ?_
       simp only [qZ]
       refine sqB 9 rfl (sqS 0 64 hE10 ?_)
       intro w11 hE11
       clear hE10
       simp only [qQ] at hE11
       refine nqB ?_
       simp only [qZ]
       refine wpB_done (by kernel_rfl) ?_ _
       exact hcont g2 g3 g4 vx1 vx2 vx3 _ (hE11)
      case br17b =>
       refine sqA (ints .u8 (List.replicate 64 0)) hE7 ?_
       intro g4 w8 hb8 hE8
       clear hE7
       refine ⟨fun _ => hb8, ?_⟩
       simp only [qZ]
       refine sqB 5 rfl (st_gives hE8 rfl (run_call rfl Tryz.call10) (HS.out _ _ (RdSs.one (hE8.get (i := 2) rfl) (Hv.out.below hE8.below))) ?_)
       intro w9 hb9 hE9
       clear hE8
       refine ⟨fun _ => hb9, ?_⟩
       simp only [qZ]
       refine sqB 8 rfl (sqS 1 32 hE9 ?_)
       intro w10 hE10
       clear hE9
       simp only [qQ] at hE10
       refine nqB ?_
       simp only [qZ]
       refine sqB 9 rfl (sqS 0 64 hE10 ?_)
       intro w11 hE11
       clear hE10
       simp only [qQ] at hE11
       refine nqB ?_
       simp only [qZ]
       refine wpB_done (by kernel_rfl) ?_ _
       exact hcont g2 g3 g4 vx1 vx2 vx3 _ (hE11)
     case br16b =>
      refine sqA (ints .u8 (List.replicate 64 0)) hE6 ?_
      intro g4 w7 hb7 hE7
      clear hE6
      refine ⟨fun _ => hb7, ?_⟩
      simp only [qZ]
      refine sqB 1 rfl (st_gives hE7 rfl (run_call rfl Tryz.call8) (HP.out _) ?_)
      intro w8 hb8 hE8
      clear hE7
      refine ⟨fun _ => hb8, ?_⟩
      simp only [qZ]
      refine sqB 5 rfl (st_gives hE8 rfl (run_call rfl Tryz.call10) (HS.out _ _ (RdSs.one (hE8.get (i := 2) rfl) (Hv.out.below hE8.below))) ?_)
      intro w9 hb9 hE9
      clear hE8
      refine ⟨fun _ => hb9, ?_⟩
      simp only [qZ]
      refine sqB 8 rfl (sqS 1 32 hE9 ?_)
      intro w10 hE10
      clear hE9
      simp only [qQ] at hE10
      refine nqB ?_
      simp only [qZ]
      refine sqB 9 rfl (sqS 0 64 hE10 ?_)
      intro w11 hE11
      clear hE10
      simp only [qQ] at hE11
      refine nqB ?_
      simp only [qZ]
      refine wpB_done (by kernel_rfl) ?_ _
      exact hcont g2 g3 g4 vx1 vx2 vx3 _ (hE11)
    case br11c =>
     refine sqA (ints .u8 (List.replicate 64 0)) hE5 ?_
     intro g3 w6 hb6 hE6
     clear hE5
     refine ⟨fun _ => hb6, ?_⟩
     simp only [qZ]
     refine wpB_step2 (i := 1) (j := 6) (by kernel_rfl) rfl rfl ?br18a ?br18b
     case br18a =>
      refine st_gives hE6 rfl (run_call rfl Tryz.call8) (HP.out _) ?_
      intro w7 hb7 hE7
      clear hE6
      refine ⟨fun _ => hb7, ?_⟩
      simp only [qZ]
      refine wpB_step2 (i := 5) (j := 6) (by kernel_rfl) rfl rfl ?br19a ?br19b
      case br19a =>
       refine st_gives hE7 rfl (run_call rfl Tryz.call10) (HS.out _ _ (RdSs.one (hE7.get (i := 1) rfl) (Hv.out.below hE7.below))) ?_
       intro w8 hb8 hE8
       clear hE7
       refine ⟨fun _ => hb8, ?_⟩
       simp only [qZ]
       refine sqB 6 rfl (sqA (ints .u8 (List.replicate 32 0)) hE8 ?_)
       intro g4 w9 hb9 hE9
       clear hE8
       refine ⟨fun _ => hb9, ?_⟩
       simp only [qZ]
       refine sqB 8 rfl (sqS 0 32 hE9 ?_)
       intro w10 hE10
       clear hE9
       simp only [qQ] at hE10
       refine nqB ?_
       simp only [qZ]
       refine sqB 9 rfl (sqS 1 64 hE10 ?_)
       intro w11 hE11
       clear hE10
       simp only [qQ] at hE11
       refine nqB ?_
       simp only [qZ]
       refine wpB_done (by kernel_rfl) ?_ _
       exact hcont g2 g4 g3 vx1 vx2 vx3 _ (hE11.perm (List.Perm.swap _ _ _))
      case br19b =>
       refine sqA (ints .u8 (List.replicate 32 0)) hE7 ?_
       intro g4 w8 hb8 hE8
       clear hE7
       refine ⟨fun _ => hb8, ?_⟩
       simp only [qZ]
       refine sqB 5 rfl (st_gives hE8 rfl (run_call rfl Tryz.call10) (HS.out _ _ (RdSs.one (hE8.get (i := 2) rfl) (Hv.out.below hE8.below))) ?_)
       intro w9 hb9 hE9
       clear hE8
       refine ⟨fun _ => hb9, ?_⟩
       simp only [qZ]
       refine sqB 8 rfl (sqS 0 32 hE9 ?_)
       intro w10 hE10
       clear hE9
       simp only [qQ] at hE10
       refine nqB ?_
       simp only [qZ]
       refine sqB 9 rfl (sqS 1 64 hE10 ?_)
       intro w11 hE11
       clear hE10
       simp only [qQ] at hE11
       refine nqB ?_
       simp only [qZ]
       refine wpB_done (by kernel_rfl) ?_ _
       exact hcont g2 g4 g3 vx1 vx2 vx3 _ (hE11.perm (List.Perm.swap _ _ _))
     case br18b =>
      refine sqA (ints .u8 (List.replicate 32 0)) hE6 ?_
      intro g4 w7 hb7 hE7
      clear hE6
      refine ⟨fun _ => hb7, ?_⟩
      simp only [qZ]
      refine sqB 1 rfl (st_gives hE7 rfl (run_call rfl Tryz.call8) (HP.out _) ?_)
      intro w8 hb8 hE8
      clear hE7
      refine ⟨fun _ => hb8, ?_⟩
      simp only [qZ]
      refine sqB 5 rfl (st_gives hE8 rfl (run_call rfl Tryz.call10) (HS.out _ _ (RdSs.one (hE8.get (i := 2) rfl) (Hv.out.below hE8.below))) ?_)
      intro w9 hb9 hE9
      clear hE8
      refine ⟨fun _ => hb9, ?_⟩
      simp only [qZ]
      refine sqB 8 rfl (sqS 0 32 hE9 ?_)
      intro w10 hE10
      clear hE9
      simp only [qQ] at hE10
      refine nqB ?_
      simp only [qZ]
      refine sqB 9 rfl (sqS 1 64 hE10 ?_)
      intro w11 hE11
      clear hE10
      simp only [qQ] at hE11
      refine nqB ?_
      simp only [qZ]
      refine wpB_done (by kernel_rfl) ?_ _
      exact hcont g2 g4 g3 vx1 vx2 vx3 _ (hE11.perm (List.Perm.swap _ _ _))
   case br1c =>
    refine sqA (ints .u8 (List.replicate 32 0)) hE4 ?_
    intro g2 w5 hb5 hE5
    clear hE4
    refine ⟨fun _ => hb5, ?_⟩
    simp only [qZ]
    refine wpB_step3 (i := 1) (j := 4) (k := 7) (by kernel_rfl) rfl rfl rfl ?br20a ?br20b ?br20c
    case br20a =>
     refine st_gives hE5 rfl (run_call rfl Tryz.call8) (HP.out _) ?_
     intro w6 hb6 hE6
     clear hE5
     refine ⟨fun _ => hb6, ?_⟩
     simp only [qZ]
     refine wpB_step2 (i := 4) (j := 7) (by kernel_rfl) rfl rfl ?br21a ?br21b
     case br21a =>
      refine st_buildVs [Value.slice p m.length c] (one_slice) hE6 rfl rfl (by first | rfl | (simp only [List.map_cons, List.map_nil, List.zipIdx_cons, List.zipIdx_nil]; rfl)) rfl (by decide) (by decide) Tryz.underlying64 (by kernel_rfl) Tryz.zeroValue24 ?_
      intro g3 w7 hb7 hE7
      clear hE6
      refine ⟨fun _ => hb7, ?_⟩
      simp only [qZ]
      refine wpB_step2 (i := 5) (j := 7) (by kernel_rfl) rfl rfl ?br22a ?br22b
      case br22a =>
       refine st_gives hE7 rfl (run_call rfl Tryz.call10) (HS.out _ _ (RdSs.one (hE7.get (i := 0) rfl) (Hv.out.below hE7.below))) ?_
       intro w8 hb8 hE8
       clear hE7
       refine ⟨fun _ => hb8, ?_⟩
       simp only [qZ]
       refine sqB 7 rfl (sqA (ints .u8 (List.replicate 64 0)) hE8 ?_)
       intro g4 w9 hb9 hE9
       clear hE8
       refine ⟨fun _ => hb9, ?_⟩
       simp only [qZ]
       refine sqB 8 rfl (sqS 2 32 hE9 ?_)
       intro w10 hE10
       clear hE9
       simp only [qQ] at hE10
       refine nqB ?_
       simp only [qZ]
       refine sqB 9 rfl (sqS 0 64 hE10 ?_)
       intro w11 hE11
       clear hE10
       simp only [qQ] at hE11
       refine nqB ?_
       simp only [qZ]
       refine wpB_done (by kernel_rfl) ?_ _
       exact hcont g3 g2 g4 vx1 vx2 vx3 _ (hE11.perm (List.Perm.cons _ (List.Perm.swap _ _ _)))
      case br22b =>
       refine sqA (ints .u8 (List.replicate 64 0)) hE7 ?_
       intro g4 w8 hb8 hE8
       clear hE7
       refine ⟨fun _ => hb8, ?_⟩
       simp only [qZ]
       refine sqB 5 rfl (st_gives hE8 rfl (run_call rfl Tryz.call10) (HS.out _ _ (RdSs.one (hE8.get (i := 1) rfl) (Hv.out.below hE8.below))) ?_)
       intro w9 hb9 hE9
       clear hE8
       refine ⟨fun _ => hb9, ?_⟩
       simp only [qZ]
       refine sqB 8 rfl (sqS 2 32 hE9 ?_)
       intro w10 hE10
       clear hE9
       simp only [qQ] at hE10
       refine nqB ?_
       simp only [qZ]
       refine sqB 9 rfl (sqS 0 64 hE10 ?_)
       intro w11 hE11
       clear hE10
       simp only [qQ] at hE11
       refine nqB ?_
       simp only [qZ]
       refine wpB_done (by kernel_rfl) ?_ _
       exact hcont g3 g2 g4 vx1 vx2 vx3 _ (hE11.perm (List.Perm.cons _ (List.Perm.swap _ _ _)))
     case br21b =>
      refine sqA (ints .u8 (List.replicate 64 0)) hE6 ?_
      intro g3 w7 hb7 hE7
      clear hE6
      refine ⟨fun _ => hb7, ?_⟩
      simp only [qZ]
      refine sqB 4 rfl (st_buildVs [Value.slice p m.length c] (one_slice) hE7 rfl rfl (by first | rfl | (simp only [List.map_cons, List.map_nil, List.zipIdx_cons, List.zipIdx_nil]; rfl)) rfl (by decide) (by decide) Tryz.underlying64 (by kernel_rfl) Tryz.zeroValue24 ?_)
      intro g4 w8 hb8 hE8
      clear hE7
      refine ⟨fun _ => hb8, ?_⟩
      simp only [qZ]
      refine sqB 5 rfl (st_gives hE8 rfl (run_call rfl Tryz.call10) (HS.out _ _ (RdSs.one (hE8.get (i := 0) rfl) (Hv.out.below hE8.below))) ?_)
      intro w9 hb9 hE9
      clear hE8
      refine ⟨fun _ => hb9, ?_⟩
      simp only [qZ]
      refine sqB 8 rfl (sqS 2 32 hE9 ?_)
      intro w10 hE10
      clear hE9
      simp only [qQ] at hE10
      refine nqB ?_
      simp only [qZ]
      refine sqB 9 rfl (sqS 1 64 hE10 ?_)
      intro w11 hE11
      clear hE10
      simp only [qQ] at hE11
      refine nqB ?_
      simp only [qZ]
      refine wpB_done (by kernel_rfl) ?_ _
      exact hcont g4 g2 g3 vx1 vx2 vx3 _ (hE11.perm ((List.Perm.swap _ _ _).trans (List.Perm.cons _ (List.Perm.swap _ _ _))))
    case br20b =>
     refine st_buildVs [Value.slice p m.length c] (one_slice) hE5 rfl rfl (by first | rfl | (simp only [List.map_cons, List.map_nil, List.zipIdx_cons, List.zipIdx_nil]; rfl)) rfl (by decide) (by decide) Tryz.underlying64 (by kernel_rfl) Tryz.zeroValue24 ?_
     intro g3 w6 hb6 hE6
     clear hE5
     refine ⟨fun _ => hb6, ?_⟩
     simp only [qZ]
     refine wpB_step2 (i := 1) (j := 7) (by kernel_rfl) rfl rfl ?br23a ?br23b
     case br23a =>
      refine st_gives hE6 rfl (run_call rfl Tryz.call8) (HP.out _) ?_
      intro w7 hb7 hE7
      clear hE6
      refine ⟨fun _ => hb7, ?_⟩
      simp only [qZ]
      refine wpB_step2 (i := 5) (j := 7) (by kernel_rfl) rfl rfl ?br24a ?br24b
      case br24a =>
       refine st_gives hE7 rfl (run_call rfl Tryz.call10) (HS.out _ _ (RdSs.one (hE7.get (i := 0) rfl) (Hv.out.below hE7.below))) ?_
       intro w8 hb8 hE8
       clear hE7
       refine ⟨fun _ => hb8, ?_⟩
       simp only [qZ]
       refine sqB 7 rfl (sqA (ints .u8 (List.replicate 64 0)) hE8 ?_)
       intro g4 w9 hb9 hE9
       clear hE8
       refine ⟨fun _ => hb9, ?_⟩
       simp only [qZ]
       refine sqB 8 rfl (sqS 2 32 hE9 ?_)
       intro w10 hE10
       clear hE9
       simp only [qQ] at hE10
       refine nqB ?_
       simp only [qZ]
       refine sqB 9 rfl (sqS 0 64 hE10 ?_)
       intro w11 hE11
       clear hE10
       simp only [qQ] at hE11
       refine nqB ?_
       simp only [qZ]
       refine wpB_done (by kernel_rfl) ?_ _
       exact hcont g3 g2 g4 vx1 vx2 vx3 _ (hE11.perm (List.Perm.cons _ (List.Perm.swap _ _ _)))
      case br24b =>
       refine sqA (ints .u8 (List.replicate 64 0)) hE7 ?_
       intro g4 w8 hb8 hE8
       clear hE7
       refine ⟨fun _ => hb8, ?_⟩
       simp only [qZ]
       refine sqB 5 rfl (st_gives hE8 rfl (run_call rfl Tryz.call10) (HS.out _ _ (RdSs.one (hE8.get (i := 1) rfl) (Hv.out.below hE8.below))) ?_)
       intro w9 hb9 hE9
       clear hE8
       refine ⟨fun _ => hb9, ?_⟩
       simp only [qZ]
       refine sqB 8 rfl (sqS 2 32 hE9 ?_)
       intro w10 hE10
       clear hE9
       simp only [qQ] at hE10
       refine nqB ?_
       simp only [qZ]
       refine sqB 9 rfl (sqS 0 64 hE10 ?_)
       intro w11 hE11
       clear hE10
       simp only [qQ] at hE11
       refine nqB ?_
       simp only [qZ]
       refine wpB_done (by kernel_rfl) ?_ _
       exact hcont g3 g2 g4 vx1 vx2 vx3 _ (hE11.perm (List.Perm.cons _ (List.Perm.swap _ _ _)))
     case br23b =>
      refine sqA (ints .u8 (List.replicate 64 0)) hE6 ?_
      intro g4 w7 hb7 hE7
      clear hE6
      refine ⟨fun _ => hb7, ?_⟩
      simp only [qZ]
      refine sqB 1 rfl (st_gives hE7 rfl (run_call rfl Tryz.call8) (HP.out _) ?_)
      intro w8 hb8 hE8
      clear hE7
      refine ⟨fun _ => hb8, ?_⟩
      simp only [qZ]
      refine sqB 5 rfl (st_gives hE8 rfl (run_call rfl Tryz.call10) (HS.out _ _ (RdSs.one (hE8.get (i := 1) rfl) (Hv.out.below hE8.below))) ?_)
      intro w9 hb9 hE9
      clear hE8
      refine ⟨fun _ => hb9, ?_⟩
      simp only [qZ]
      refine sqB 8 rfl (sqS 2 32 hE9 ?_)
      intro w10 hE10
      clear hE9
      simp only [qQ] at hE10
      refine nqB ?_
      simp only [qZ]
      refine sqB 9 rfl (sqS 0 64 hE10 ?_)
      intro w11 hE11
      clear hE10
      simp only [qQ] at hE11
      refine nqB ?_
      simp only [qZ]
      refine wpB_done (by kernel_rfl) ?_ _
      exact hcont g3 g2 g4 vx1 vx2 vx3 _ (hE11.perm (List.Perm.cons _ (List.Perm.swap _ _ _)))
    case br20c =>
     refine sqA (ints .u8 (List.replicate 64 0)) hE5 ?_
     intro g3 w6 hb6 hE6
     clear hE5
     refine ⟨fun _ => hb6, ?_⟩
     simp only [qZ]
     refine wpB_step2 (i := 1) (j := 4) (by kernel_rfl) rfl rfl ?br25a ?br25b
     case br25a =>
      refine st_gives hE6 rfl (run_call rfl Tryz.call8) (HP.out _) ?_
      intro w7 hb7 hE7
      clear hE6
      refine ⟨fun _ => hb7, ?_⟩
      simp only [qZ]
      refine sqB 4 rfl (st_buildVs [Value.slice p m.length c] (one_slice) hE7 rfl rfl (by first | rfl | (simp only [List.map_cons, List.map_nil, List.zipIdx_cons, List.zipIdx_nil]; rfl)) rfl (by decide) (by decide) Tryz.underlying64 (by kernel_rfl) Tryz.zeroValue24 ?_)
      intro g4 w8 hb8 hE8
      clear hE7
      refine ⟨fun _ => hb8, ?_⟩
      simp only [qZ]
      refine sqB 5 rfl (st_gives hE8 rfl (run_call rfl Tryz.call10) (HS.out _ _ (RdSs.one (hE8.get (i := 0) rfl) (Hv.out.below hE8.below))) ?_)
      intro w9 hb9 hE9
      clear hE8
      refine ⟨fun _ => hb9, ?_⟩
      simp only [qZ]
      refine sqB 8 rfl (sqS 2 32 hE9 ?_)
      intro w10 hE10
      clear hE9
      simp only [qQ] at hE10
      refine nqB ?_
      simp only [qZ]
      refine sqB 9 rfl (sqS 1 64 hE10 ?_)
      intro w11 hE11
      clear hE10
      simp only [qQ] at hE11
      refine nqB ?_
      simp only [qZ]
      refine wpB_done (by kernel_rfl) ?_ _
      exact hcont g4 g2 g3 vx1 vx2 vx3 _ (hE11.perm ((List.Perm.swap _ _ _).trans (List.Perm.cons _ (List.Perm.swap _ _ _))))
     case br25b =>
      refine st_buildVs [Value.slice p m.length c] (one_slice) hE6 rfl rfl (by first | rfl | (simp only [List.map_cons, List.map_nil, List.zipIdx_cons, List.zipIdx_nil]; rfl)) rfl (by decide) (by decide) Tryz.underlying64 (by kernel_rfl) Tryz.zeroValue24 ?_
      intro g4 w7 hb7 hE7
      clear hE6
      refine ⟨fun _ => hb7, ?_⟩
      simp only [qZ]
      refine sqB 1 rfl (st_gives hE7 rfl (run_call rfl Tryz.call8) (HP.out _) ?_)
      intro w8 hb8 hE8
      clear hE7
      refine ⟨fun _ => hb8, ?_⟩
      simp only [qZ]
      refine sqB 5 rfl (st_gives hE8 rfl (run_call rfl Tryz.call10) (HS.out _ _ (RdSs.one (hE8.get (i := 0) rfl) (Hv.out.below hE8.below))) ?_)
      intro w9 hb9 hE9
      clear hE8
      refine ⟨fun _ => hb9, ?_⟩
      simp only [qZ]
      refine sqB 8 rfl (sqS 2 32 hE9 ?_)
      intro w10 hE10
      clear hE9
      simp only [qQ] at hE10
      refine nqB ?_
      simp only [qZ]
      refine sqB 9 rfl (sqS 1 64 hE10 ?_)
      intro w11 hE11
      clear hE10
      simp only [qQ] at hE11
      refine nqB ?_
      simp only [qZ]
      refine wpB_done (by kernel_rfl) ?_ _
      exact hcont g4 g2 g3 vx1 vx2 vx3 _ (hE11.perm ((List.Perm.swap _ _ _).trans (List.Perm.cons _ (List.Perm.swap _ _ _))))
   case br1d =>
    refine sqA (ints .u8 (List.replicate 64 0)) hE4 ?_
    intro g2 w5 hb5 hE5
    clear hE4
    refine ⟨fun _ => hb5, ?_⟩
    simp only [qZ]
    refine wpB_step3 (i := 1) (j := 4) (k := 6) (by kernel_rfl) rfl rfl rfl ?br26a ?br26b ?br26c
    case br26a =>
     refine st_gives hE5 rfl (run_call rfl Tryz.call8) (HP.out _) ?_
     intro w6 hb6 hE6
     clear hE5
     refine ⟨fun _ => hb6, ?_⟩
     simp only [qZ]
     refine wpB_step2 (i := 4) (j := 6) (by kernel_rfl) rfl rfl ?br27a ?br27b
     case br27a =>
      refine st_buildVs [Value.slice p m.length c] (one_slice) hE6 rfl rfl (by first | rfl | (simp only [List.map_cons, List.map_nil, List.zipIdx_cons, List.zipIdx_nil]; rfl)) rfl (by decide) (by decide) Tryz.underlying64 (by kernel_rfl) Tryz.zeroValue24 ?_
      intro g3 w7 hb7 hE7
      clear hE6
      refine ⟨fun _ => hb7, ?_⟩
      simp only [qZ]
      refine wpB_step2 (i := 5) (j := 6) (by kernel_rfl) rfl rfl ?br28a ?br28b
      case br28a =>
       refine st_gives hE7 rfl (run_call rfl Tryz.call10) (HS.out _ _ (RdSs.one (hE7.get (i := 0) rfl) (Hv.out.below hE7.below))) ?_
       intro w8 hb8 hE8
       clear hE7
       refine ⟨fun _ => hb8, ?_⟩
       simp only [qZ]
       refine sqB 6 rfl (sqA (ints .u8 (List.replicate 32 0)) hE8 ?_)
       intro g4 w9 hb9 hE9
       clear hE8
       refine ⟨fun _ => hb9, ?_⟩
       simp only [qZ]
       refine sqB 8 rfl (sqS 0 32 hE9 ?_)
       intro w10 hE10
       clear hE9
       simp only [qQ] at hE10
       refine nqB ?_
       simp only [qZ]
       refine sqB 9 rfl (sqS 2 64 hE10 ?_)
       intro w11 hE11
       clear hE10
       simp only [qQ] at hE11
       refine nqB ?_
       simp only [qZ]
       refine wpB_done (by kernel_rfl) ?_ _
       exact hcont g3 g4 g2 vx1 vx2 vx3 _ (hE11.perm ((List.Perm.cons _ (List.Perm.swap _ _ _)).trans (List.Perm.swap _ _ _)))
      case br28b =>
       refine sqA (ints .u8 (List.replicate 32 0)) hE7 ?_
       intro g4 w8 hb8 hE8
       clear hE7
       refine ⟨fun _ => hb8, ?_⟩
       simp only [qZ]
       refine sqB 5 rfl (st_gives hE8 rfl (run_call rfl Tryz.call10) (HS.out _ _ (RdSs.one (hE8.get (i := 1) rfl) (Hv.out.below hE8.below))) ?_)
       intro w9 hb9 hE9
       clear hE8
       refine ⟨fun _ => hb9, ?_⟩
       simp only [qZ]
       refine sqB 8 rfl (sqS 0 32 hE9 ?_)
       intro w10 hE10
       clear hE9
       simp only [qQ] at hE10
       refine nqB ?_
       simp only [qZ]
       refine sqB 9 rfl (sqS 2 64 hE10 ?_)
       intro w11 hE11
       clear hE10
       simp only [qQ] at hE11
       refine nqB ?_
       simp only [qZ]
       refine wpB_done (by kernel_rfl) ?_ _
       exact hcont g3 g4 g2 vx1 vx2 vx3 _ (hE11.perm ((List.Perm.cons _ (List.Perm.swap _ _ _)).trans (List.Perm.swap _ _ _)))
     case br27b =>
      refine sqA (ints .u8 (List.replicate 32 0)) hE6 ?_
      intro g3 w7 hb7 hE7
      clear hE6
      refine ⟨fun _ => hb7, ?_⟩
      simp only [qZ]
      refine sqB 4 rfl (st_buildVs [Value.slice p m.length c] (one_slice) hE7 rfl rfl (by first | rfl | (simp only [List.map_cons, List.map_nil, List.zipIdx_cons, List.zipIdx_nil]; rfl)) rfl (by decide) (by decide) Tryz.underlying64 (by kernel_rfl) Tryz.zeroValue24 ?_)
      intro g4 w8 hb8 hE8
      clear hE7
      refine ⟨fun _ => hb8, ?_⟩
      simp only [qZ]
      refine sqB 5 rfl (st_gives hE8 rfl (run_call rfl Tryz.call10) (HS.out _ _ (RdSs.one (hE8.get (i := 0) rfl) (Hv.out.below hE8.below))) ?_)
      intro w9 hb9 hE9
      clear hE8
      refine ⟨fun _ => hb9, ?_⟩
      simp only [qZ]
      refine sqB 8 rfl (sqS 1 32 hE9 ?_)
      intro w10 hE10
      clear hE9
      simp only [qQ] at hE10
      refine nqB ?_
      simp only [qZ]
      refine sqB 9 rfl (sqS 2 64 hE10 ?_)
      intro w11 hE11
      clear hE10
      simp only [qQ] at hE11
      refine nqB ?_
      simp only [qZ]
      refine wpB_done (by kernel_rfl) ?_ _
      exact hcont g4 g3 g2 vx1 vx2 vx3 _ (hE11.perm ((List.Perm.cons _ (List.Perm.swap _ _ _)).trans ((List.Perm.swap _ _ _).trans (List.Perm.cons _ (List.Perm.swap _ _ _)))))
    case br26b =>
     refine st_buildVs [Value.slice p m.length c] (one_slice) hE5 rfl rfl (by first | rfl | (simp only [List.map_cons, List.map_nil, List.zipIdx_cons, List.zipIdx_nil]; rfl)) rfl (by decide) (by decide) Tryz.underlying64 (by kernel_rfl) Tryz.zeroValue24 ?_
     intro g3 w6 hb6 hE6
     clear hE5
     refine ⟨fun _ => hb6, ?_⟩
     simp only [qZ]
     refine wpB_step2 (i := 1) (j := 6) (by kernel_rfl) rfl rfl ?br29a ?br29b
     case br29a =>
      refine st_gives hE6 rfl (run_call rfl Tryz.call8) (HP.out _) ?_
      intro w7 hb7 hE7
      clear hE6
      refine ⟨fun _ => hb7, ?_⟩
      simp only [qZ]
      refine wpB_step2 (i := 5) (j := 6) (by kernel_rfl) rfl rfl ?br30a ?br30b
      case br30a =>
       refine st_gives hE7 rfl (run_call rfl Tryz.call10) (HS.out _ _ (RdSs.one (hE7.get (i := 0) rfl) (Hv.out.below hE7.below))) ?_
       intro w8 hb8 hE8
       clear hE7
       refine ⟨fun _ => hb8, ?_⟩
       simp only [qZ]
       refine sqB 6 rfl (sqA (ints .u8 (List.replicate 32 0)) hE8 ?_)
       intro g4 w9 hb9 hE9
       clear hE8
       refine ⟨fun _ => hb9, ?_⟩
       simp only [qZ]
       refine sqB 8 rfl (sqS 0 32 hE9 ?_)
       intro w10 hE10
       clear hE9
       simp only [qQ] at hE10
       refine nqB ?_
       simp only [qZ]
       refine sqB 9 rfl (sqS 2 64 hE10 ?_)
       intro w11 hE11
       clear hE10
       simp only [qQ] at hE11
       refine nqB ?_
       simp only [qZ]
       refine wpB_done (by kernel_rfl) ?_ _
       exact hcont g3 g4 g2 vx1 vx2 vx3 _ (hE11.perm ((List.Perm.cons _ (List.Perm.swap _ _ _)).trans (List.Perm.swap _ _ _)))
      case br30b =>
       refine sqA (ints .u8 (List.replicate 32 0)) hE7 ?_
       intro g4 w8 hb8 hE8
       clear hE7
       refine ⟨fun _ => hb8, ?_⟩
       simp only [qZ]
       refine sqB 5 rfl (st_gives hE8 rfl (run_call rfl Tryz.call10) (HS.out _ _ (RdSs.one (hE8.get (i := 1) rfl) (Hv.out.below hE8.below))) ?_)
       intro w9 hb9 hE9
       clear hE8
       refine ⟨fun _ => hb9, ?_⟩
       simp only [qZ]
       refine sqB 8 rfl (sqS 0 32 hE9 ?_)
       intro w10 hE10
       clear hE9
       simp only [qQ] at hE10
       refine nqB ?_
       simp only [qZ]
       refine sqB 9 rfl (sqS 2 64 hE10 ?_)
       intro w11 hE11
       clear hE10
       simp only [qQ] at hE11
       refine nqB ?_
       simp only [qZ]
       refine wpB_done (by kernel_rfl) ?_ _
       exact hcont g3 g4 g2 vx1 vx2 vx3 _ (hE11.perm ((List.Perm.cons _ (List.Perm.swap _ _ _)).trans (List.Perm.swap _ _ _)))
     case br29b =>
      refine sqA (ints .u8 (List.replicate 32 0)) hE6 ?_
      intro g4 w7 hb7 hE7
      clear hE6
      refine ⟨fun _ => hb7, ?_⟩
      simp only [qZ]
      refine sqB 1 rfl (st_gives hE7 rfl (run_call rfl Tryz.call8) (HP.out _) ?_)
      intro w8 hb8 hE8
      clear hE7
      refine ⟨fun _ => hb8, ?_⟩
      simp only [qZ]
      refine sqB 5 rfl (st_gives hE8 rfl (run_call rfl Tryz.call10) (HS.out _ _ (RdSs.one (hE8.get (i := 1) rfl) (Hv.out.below hE8.below))) ?_)
      intro w9 hb9 hE9
      clear hE8
      refine ⟨fun _ => hb9, ?_⟩
      simp only [qZ]
      refine sqB 8 rfl (sqS 0 32 hE9 ?_)
      intro w10 hE10
      clear hE9
      simp only [qQ] at hE10
      refine nqB ?_
      simp only [qZ]
      refine sqB 9 rfl (sqS 2 64 hE10 ?_)
      intro w11 hE11
      clear hE10
      simp only [qQ] at hE11
      refine nqB ?_
      simp only [qZ]
      refine wpB_done (by kernel_rfl) ?_ _
      exact hcont g3 g4 g2 vx1 vx2 vx3 _ (hE11.perm ((List.Perm.cons _ (List.Perm.swap _ _ _)).trans (List.Perm.swap _ _ _)))
    case br26c =>
     refine sqA (ints .u8 (List.replicate 32 0)) hE5 ?_
     intro g3 w6 hb6 hE6
     clear hE5
     refine ⟨fun _ => hb6, ?_⟩
     simp only [qZ]
     refine wpB_step2 (i := 1) (j := 4) (by kernel_rfl) rfl rfl ?br31a ?br31b
     case br31a =>
      refine st_gives hE6 rfl (run_call rfl Tryz.call8) (HP.out _) ?_
      intro w7 hb7 hE7
      clear hE6
      refine ⟨fun _ => hb7, ?_⟩
      simp only [qZ]
      refine sqB 4 rfl (st_buildVs [Value.slice p m.length c] (one_slice) hE7 rfl rfl (by first | rfl | (simp only [List.map_cons, List.map_nil, List.zipIdx_cons, List.zipIdx_nil]; rfl)) rfl (by decide) (by decide) Tryz.underlying64 (by kernel_rfl) Tryz.zeroValue24 ?_)
      intro g4 w8 hb8 hE8
      clear hE7
      refine ⟨fun _ => hb8, ?_⟩
      simp only [qZ]
      refine sqB 5 rfl (st_gives hE8 rfl (run_call rfl Tryz.call10) (HS.out _ _ (RdSs.one (hE8.get (i := 0) rfl) (Hv.out.below hE8.below))) ?_)
      intro w9 hb9 hE9
      clear hE8
      refine ⟨fun _ => hb9, ?_⟩
      simp only [qZ]
      refine sqB 8 rfl (sqS 1 32 hE9 ?_)
      intro w10 hE10
      clear hE9
      simp only [qQ] at hE10
      refine nqB ?_
      simp only [qZ]
      refine sqB 9 rfl (sqS 2 64 hE10 ?_)
      intro w11 hE11
      clear hE10
      simp only [qQ] at hE11
      refine nqB ?_
      simp only [qZ]
      refine wpB_done (by kernel_rfl) ?_ _
      exact hcont g4 g3 g2 vx1 vx2 vx3 _ (hE11.perm ((List.Perm.cons _ (List.Perm.swap _ _ _)).trans ((List.Perm.swap _ _ _).trans (List.Perm.cons _ (List.Perm.swap _ _ _)))))
     case br31b =>
      refine st_buildVs [Value.slice p m.length c] (one_slice) hE6 rfl rfl (by first | rfl | (simp only [List.map_cons, List.map_nil, List.zipIdx_cons, List.zipIdx_nil]; rfl)) rfl (by decide) (by decide) Tryz.underlying64 (by kernel_rfl) Tryz.zeroValue24 ?_
      intro g4 w7 hb7 hE7
      clear hE6
      refine ⟨fun _ => hb7, ?_⟩
      simp only [qZ]
      refine sqB 1 rfl (st_gives hE7 rfl (run_call rfl Tryz.call8) (HP.out _) ?_)
      intro w8 hb8 hE8
      clear hE7
      refine ⟨fun _ => hb8, ?_⟩
      simp only [qZ]
      refine sqB 5 rfl (st_gives hE8 rfl (run_call rfl Tryz.call10) (HS.out _ _ (RdSs.one (hE8.get (i := 0) rfl) (Hv.out.below hE8.below))) ?_)
      intro w9 hb9 hE9
      clear hE8
      refine ⟨fun _ => hb9, ?_⟩
      simp only [qZ]
      refine sqB 8 rfl (sqS 1 32 hE9 ?_)
      intro w10 hE10
      clear hE9
      simp only [qQ] at hE10
      refine nqB ?_
      simp only [qZ]
      refine sqB 9 rfl (sqS 2 64 hE10 ?_)
      intro w11 hE11
      clear hE10
      simp only [qQ] at hE11
      refine nqB ?_
      simp only [qZ]
      refine wpB_done (by kernel_rfl) ?_ _
      exact hcont g4 g3 g2 vx1 vx2 vx3 _ (hE11.perm ((List.Perm.cons _ (List.Perm.swap _ _ _)).trans ((List.Perm.swap _ _ _).trans (List.Perm.cons _ (List.Perm.swap _ _ _)))))
  intro gr gk gs _ _ _ w5 hE5
  repeat ((fail_if_success refine sqx ?_); go_step)
  refine wl_step (st_build0' hE5 rfl rfl Tryz.underlying24 (by kernel_rfl) ?_)
  intro g2 w6 hb6 hE6
  clear hE5
  simp only [qZ]
  obtain ⟨bs3, ho3, hEE⟩ := (Sl.of_block hE6 (by decide)).ow
  clear hE6
  have hE6 := hEE.perm List.perm_append_comm
  clear hEE
  refine mqA ?_
  refine wl_step (st_append (ho3.sl (hE6.perm (List.perm_append_comm (l₁ := [_, _, _, _, _])))) rfl rfl Tryz.underlying24 Hi.out Hz.out Hsz.out rfl Hby.out rfl rfl (Hv.out.below hE6.below) b1 b2 ?_)
  intro v7 w7 hS7
  have hE7 := hS7.env
  clear hE6
  simp only [qZ]
  obtain ⟨bs4, ho4, hEE⟩ := hS7.ow
  obtain ⟨pa, ca, hva, hca⟩ := Ow.lenN (l := m) ho4
  subst hva
  clear hE7 hS7
  have hE7 := hEE.perm List.perm_append_comm
  clear hEE
  refine mqB ?_
  have HA := Lib.hid (Ow.seesW (w0 := w) (ns := m) ho4)
  repeat ((fail_if_success refine sqx ?_); go_step)
  refine wqv (vqI (j := 0) Tryz.underlying35) ?_
  refine wqv (vqC 3 hE7 Tryz.underlying5) ?_
  rw [A0.out]
  refine wqv (v_rem (n := 4) rfl rfl rfl (by omega)) ?_
  rw [R0.out]
  repeat ((fail_if_success refine sqx ?_); go_step)
  refine wqv (v_eql (n := 0) rfl rfl rfl) ?_
  refine mqB ?_
  rcases (show r0 = 0 ∨ r0 = 1 ∨ r0 = 2 ∨ r0 = 3 by omega) with rfl | rfl | rfl | rfl
  ·obtain ⟨b, HV0, HR0⟩ := B0.out
   have HV := Lib.hid HV0
   have HR := Lib.hid HR0
   clear HV0 HR0 B0 B1 B2 B3
   have hiL : i64 < SG.length := by omega
   repeat ((fail_if_success refine sqy ?_); go_step)
   refine cqT ?_
   skip
   repeat ((fail_if_success refine sqx ?_); go_step)
   refine wp_region_B (n := 13) 12 (by kernel_rfl) rfl hE7 ?_
   intro w8 hb8 hE8
   clear hE7
   refine tqB 0 rfl (vqI (j := 1) Tryz.underlying35) ?_
   refine tqB 1 rfl (vqC 3 hE8 Tryz.underlying5) ?_
   rw [A1.out]
   refine tqB 2 rfl (v_rem (n := 64) rfl rfl rfl (by omega)) ?_
   rw [I64.out]
   refine tqB 3 rfl (vqI (j := 1) Tryz.underlying35) ?_
   refine tqB 4 rfl (vqC 3 hE8 Tryz.underlying5) ?_
   rw [A1.out]
   refine tqB 5 rfl (v_rem (n := 64) rfl rfl rfl (by omega)) ?_
   rw [I64.out]
   refine tqB 6 rfl (vqI Tryz.underlying31) ?_
   refine tqB 7 rfl (vqC 0 hE8 Tryz.underlying5) ?_
   refine tqB 8 rfl (vqI (j := 2) Tryz.underlying35) ?_
   refine tqB 9 rfl (vqC 3 hE8 Tryz.underlying5) ?_
   rw [A2.out]
   refine tqB 10 rfl (v_bxor rfl rfl rfl bx1 ba2 (w_xor rfl bx1 ba2)) ?_
   refine tqB 11 rfl (vqI Tryz.underlying31) ?_
   refine sqB 12 rfl (st_putN (i := 0) hE8 rfl rfl rfl rfl rfl (by kernel_rfl) (by first | assumption | omega | (simp only [List.length_set, List.length_replicate]; first | assumption | omega)) ?_)
   intro w9 hE9
   clear hE8
   simp only [qQ] at hE9
   refine nqB ?_
   simp only [qZ]
   refine wpB_done (by kernel_rfl) ?_ _
   repeat ((fail_if_success refine sqx ?_); go_step)
   refine wp_region_B (n := 14) 13 (by kernel_rfl) rfl hE9 ?_
   intro w10 hb10 hE10
   clear hE9
   refine tqB 0 rfl (vqL 1 32 hE10 Tryz.underlying27) ?_
   refine tqB 1 rfl (vqL 0 64 hE10 Tryz.underlying31) ?_
   refine tqB 2 rfl (v_moveT (.inl rfl) rfl) ?_
   refine tqB 5 rfl (vqL 1 32 hE10 Tryz.underlying27) ?_
   refine tqB 6 rfl (vqL 0 64 hE10 Tryz.underlying31) ?_
   refine tqB 7 rfl (v_moveT (.inl rfl) rfl) ?_
   refine sqB 3 rfl (st_buildVs [Value.slice pa m.length ca] (one_slice) hE10 rfl rfl (by first | rfl | (simp only [List.map_cons, List.map_nil, List.zipIdx_cons, List.zipIdx_nil]; rfl)) rfl (by decide) (by decide) Tryz.underlying64 (by kernel_rfl) Tryz.zeroValue24 ?_)
   intro g3 w11 hb11 hE11
   clear hE10
   refine ⟨fun _ => hb11, ?_⟩
   simp only [qZ]
   refine sqB 4 rfl (st_gives hE11 rfl (run_call rfl Tryz.call12) (HV.out _ _ (RdSs.one (hE11.get (i := 0) rfl) (HA.out _ (hE11.sub (List.sublist_append_right [_, _, _, _, _, _] _))))) ?_)
   intro w12 hb12 hE12
   clear hE11
   refine ⟨fun _ => hb12, ?_⟩
   simp only [qZ]
   refine sqB 8 rfl (st_gives hE12 rfl (run_call rfl Tryz.call13) (HR.out _ _ (HA.out _ (hE12.sub (List.sublist_append_right [_, _, _, _, _, _] _)))) ?_)
   intro w13 hb13 hE13
   clear hE12
   refine ⟨fun _ => hb13, ?_⟩
   simp only [qZ]
   refine tqB 9 rfl (v_eqBs rfl rfl rfl Tryz.underlying4) ?_
   refine tqB 10 rfl (v_moveT (.inl rfl) rfl) ?_
   refine sqB 11 rfl (st_gives hE13 rfl (run_call rfl Tryz.call7) (HW.out _) ?_)
   intro w14 hb14 hE14
   clear hE13
   refine ⟨fun _ => hb14, ?_⟩
   simp only [qZ]
   refine tqB 12 rfl (v_and rfl rfl (fun _ => rfl)) ?_
   refine sqB 13 rfl (st_val rfl (v_moveT (.inr rfl) rfl) ?_)
   refine ⟨fun _ => Below.refl _ _, ?_⟩
   simp only [qZ]
   refine wpB_done (by kernel_rfl) ?_ _
   repeat ((fail_if_success refine sqx ?_); go_step)
   go_returns
   exact ⟨rfl, hE14.below⟩
  ·obtain ⟨b, HV0, HR0⟩ := B1.out
   have HV := Lib.hid HV0
   have HR := Lib.hid HR0
   clear HV0 HR0 B0 B1 B2 B3
   have hiL : i32 < K.length := by omega
   repeat ((fail_if_success refine sqy ?_); go_step)
   refine cqF ?_
   skip
   repeat ((fail_if_success refine sqx ?_); go_step)
   refine wqv (v_eql (n := 1) rfl rfl rfl) ?_
   refine mqB ?_
   repeat ((fail_if_success refine sqy ?_); go_step)
   refine cqT ?_
   skip
   repeat ((fail_if_success refine sqx ?_); go_step)
   refine wp_region_B (n := 13) 12 (by kernel_rfl) rfl hE7 ?_
   intro w8 hb8 hE8
   clear hE7
   refine tqB 0 rfl (vqI (j := 1) Tryz.underlying35) ?_
   refine tqB 1 rfl (vqC 3 hE8 Tryz.underlying5) ?_
   rw [A1.out]
   refine tqB 2 rfl (v_rem (n := 32) rfl rfl rfl (by omega)) ?_
   rw [I32.out]
   refine tqB 3 rfl (vqI (j := 1) Tryz.underlying35) ?_
   refine tqB 4 rfl (vqC 3 hE8 Tryz.underlying5) ?_
   rw [A1.out]
   refine tqB 5 rfl (v_rem (n := 32) rfl rfl rfl (by omega)) ?_
   rw [I32.out]
   refine tqB 6 rfl (vqI Tryz.underlying27) ?_
   refine tqB 7 rfl (vqC 1 hE8 Tryz.underlying5) ?_
   refine tqB 8 rfl (vqI (j := 2) Tryz.underlying35) ?_
   refine tqB 9 rfl (vqC 3 hE8 Tryz.underlying5) ?_
   rw [A2.out]
   refine tqB 10 rfl (v_bxor rfl rfl rfl bx2 ba2 (w_xor rfl bx2 ba2)) ?_
   refine tqB 11 rfl (vqI Tryz.underlying27) ?_
   refine sqB 12 rfl (st_putN (i := 1) hE8 rfl rfl rfl rfl rfl (by kernel_rfl) (by first | assumption | omega | (simp only [List.length_set, List.length_replicate]; first | assumption | omega)) ?_)
   intro w9 hE9
   clear hE8
   simp only [qQ] at hE9
   refine nqB ?_
   simp only [qZ]
   refine wpB_done (by kernel_rfl) ?_ _
   repeat ((fail_if_success refine sqx ?_); go_step)
   refine wp_region_B (n := 14) 13 (by kernel_rfl) rfl hE9 ?_
   intro w10 hb10 hE10
   clear hE9
   refine tqB 0 rfl (vqL 1 32 hE10 Tryz.underlying27) ?_
   refine tqB 1 rfl (vqL 0 64 hE10 Tryz.underlying31) ?_
   refine tqB 2 rfl (v_moveT (.inl rfl) rfl) ?_
   refine tqB 5 rfl (vqL 1 32 hE10 Tryz.underlying27) ?_
   refine tqB 6 rfl (vqL 0 64 hE10 Tryz.underlying31) ?_
   refine tqB 7 rfl (v_moveT (.inl rfl) rfl) ?_
   refine sqB 3 rfl (st_buildVs [Value.slice pa m.length ca] (one_slice) hE10 rfl rfl (by first | rfl | (simp only [List.map_cons, List.map_nil, List.zipIdx_cons, List.zipIdx_nil]; rfl)) rfl (by decide) (by decide) Tryz.underlying64 (by kernel_rfl) Tryz.zeroValue24 ?_)
   intro g3 w11 hb11 hE11
   clear hE10
   refine ⟨fun _ => hb11, ?_⟩
   simp only [qZ]
   refine sqB 4 rfl (st_gives hE11 rfl (run_call rfl Tryz.call12) (HV.out _ _ (RdSs.one (hE11.get (i := 0) rfl) (HA.out _ (hE11.sub (List.sublist_append_right [_, _, _, _, _, _] _))))) ?_)
   intro w12 hb12 hE12
   clear hE11
   refine ⟨fun _ => hb12, ?_⟩
   simp only [qZ]
   refine sqB 8 rfl (st_gives hE12 rfl (run_call rfl Tryz.call13) (HR.out _ _ (HA.out _ (hE12.sub (List.sublist_append_right [_, _, _, _, _, _] _)))) ?_)
   intro w13 hb13 hE13
   clear hE12
   refine ⟨fun _ => hb13, ?_⟩
   simp only [qZ]
   refine tqB 9 rfl (v_eqBs rfl rfl rfl Tryz.underlying4) ?_
   refine tqB 10 rfl (v_moveT (.inl rfl) rfl) ?_
   refine sqB 11 rfl (st_gives hE13 rfl (run_call rfl Tryz.call7) (HW.out _) ?_)
   intro w14 hb14 hE14
   clear hE13
   refine ⟨fun _ => hb14, ?_⟩
   simp only [qZ]
   refine tqB 12 rfl (v_and rfl rfl (fun _ => rfl)) ?_
   refine sqB 13 rfl (st_val rfl (v_moveT (.inr rfl) rfl) ?_)
   refine ⟨fun _ => Below.refl _ _, ?_⟩
   simp only [qZ]
   refine wpB_done (by kernel_rfl) ?_ _
   repeat ((fail_if_success refine sqx ?_); go_step)
   go_returns
   exact ⟨rfl, hE14.below⟩
  ·obtain ⟨b, HV0, HR0⟩ := B2.out
   have HV := Lib.hid HV0
   have HR := Lib.hid HR0
   clear HV0 HR0 B0 B1 B2 B3
   repeat ((fail_if_success refine sqy ?_); go_step)
   refine cqF ?_
   skip
   repeat ((fail_if_success refine sqx ?_); go_step)
   refine wqv (v_eql (n := 1) rfl rfl rfl) ?_
   refine mqB ?_
   repeat ((fail_if_success refine sqy ?_); go_step)
   refine cqF ?_
   skip
   repeat ((fail_if_success refine sqx ?_); go_step)
   refine wqv (v_eql (n := 2) rfl rfl rfl) ?_
   refine mqB ?_
   repeat ((fail_if_success refine sqy ?_); go_step)
   refine cqT ?_
   skip
   repeat ((fail_if_success refine sqx ?_); go_step)
   refine mqA ?_
   refine wqv (vqI (j := 2) Tryz.underlying35) ?_
   refine wqv (vqC 3 hE7 Tryz.underlying5) ?_
   rw [A2.out]
   refine wl_step (st_buildNums (k := .u8) [a2] hE7 rfl rfl (by first | (kernel_rfl; done) | (simp only [List.map_cons, List.map_nil, List.zipIdx_cons, List.zipIdx_nil]; rfl)) rfl (by decide) (by decide) Tryz.underlying24 (by kernel_rfl) Tryz.zeroValue5 ?_)
   intro g3 w8 hb8 hE8
   clear hE7
   simp only [qZ]
   refine wl_step (st_append (xs := nats .u8 m) (ho4.sl (hE8.perm (List.perm_append_comm (l₁ := [_, _, _, _, _, _])))) rfl rfl Tryz.underlying24 Hi.out Hz.out Hsz.out rfl Hby.out rfl rfl (RdS.whole (hE8.get (i := 0) rfl) rfl) b3 b4 ?_)
   intro v9 w9 hS9
   have hE9 := hS9.env
   clear hE8
   simp only [qZ]
   obtain ⟨bs5, ho5, hEE⟩ := hS9.ow
   rw [nats_append] at ho5
   obtain ⟨pb, cb, hvb, hcb⟩ := ho5.lenN
   subst hvb
   clear hE9 hS9
   have hE9 := hEE.perm List.perm_append_comm
   clear hEE
   refine mqB ?_
   have HA' := Lib.hid (Ow.seesW (w0 := w) ho5)
   repeat ((fail_if_success refine sqx ?_); go_step)
   refine wp_region_B (n := 14) 13 (by kernel_rfl) rfl hE9 ?_
   intro w10 hb10 hE10
   clear hE9
   refine tqB 0 rfl (vqL 2 32 hE10 Tryz.underlying27) ?_
   refine tqB 1 rfl (vqL 1 64 hE10 Tryz.underlying31) ?_
   refine tqB 2 rfl (v_moveT (.inl rfl) rfl) ?_
   refine tqB 5 rfl (vqL 2 32 hE10 Tryz.underlying27) ?_
   refine tqB 6 rfl (vqL 1 64 hE10 Tryz.underlying31) ?_
   refine tqB 7 rfl (v_moveT (.inl rfl) rfl) ?_
   refine sqB 3 rfl (st_buildVs [Value.slice pb (m ++ [a2]).length cb] (one_slice) hE10 rfl rfl (by first | rfl | (simp only [List.map_cons, List.map_nil, List.zipIdx_cons, List.zipIdx_nil]; rfl)) rfl (by decide) (by decide) Tryz.underlying64 (by kernel_rfl) Tryz.zeroValue24 ?_)
   intro g4 w11 hb11 hE11
   clear hE10
   refine ⟨fun _ => hb11, ?_⟩
   simp only [qZ]
   refine sqB 4 rfl (st_gives hE11 rfl (run_call rfl Tryz.call12) (HV.out _ _ (RdSs.one (hE11.get (i := 0) rfl) (HA'.out _ (hE11.sub (List.sublist_append_right [_, _, _, _, _, _, _] _))))) ?_)
   intro w12 hb12 hE12
   clear hE11
   refine ⟨fun _ => hb12, ?_⟩
   simp only [qZ]
   refine sqB 8 rfl (st_gives hE12 rfl (run_call rfl Tryz.call13) (HR.out _ _ (HA'.out _ (hE12.sub (List.sublist_append_right [_, _, _, _, _, _, _] _)))) ?_)
   intro w13 hb13 hE13
   clear hE12
   refine ⟨fun _ => hb13, ?_⟩
   simp only [qZ]
   refine tqB 9 rfl (v_eqBs rfl rfl rfl Tryz.underlying4) ?_
   refine tqB 10 rfl (v_moveT (.inl rfl) rfl) ?_
   refine sqB 11 rfl (st_gives hE13 rfl (run_call rfl Tryz.call7) (HW.out _) ?_)
   intro w14 hb14 hE14
   clear hE13
   refine ⟨fun _ => hb14, ?_⟩
   simp only [qZ]
   refine tqB 12 rfl (v_and rfl rfl (fun _ => rfl)) ?_
   refine sqB 13 rfl (st_val rfl (v_moveT (.inr rfl) rfl) ?_)
   refine ⟨fun _ => Below.refl _ _, ?_⟩
   simp only [qZ]
   refine wpB_done (by kernel_rfl) ?_ _
   repeat ((fail_if_success refine sqx ?_); go_step)
   go_returns
   exact ⟨rfl, hE14.below⟩
  ·obtain ⟨b, HV0, HR0⟩ := B3.out
   have HV := Lib.hid HV0
   have HR := Lib.hid HR0
   clear HV0 HR0 B0 B1 B2 B3
   repeat ((fail_if_success refine sqy ?_); go_step)
   refine cqF ?_
   skip
   repeat ((fail_if_success refine sqx ?_); go_step)
   refine wqv (v_eql (n := 1) rfl rfl rfl) ?_
   refine mqB ?_
   repeat ((fail_if_success refine sqy ?_); go_step)
   refine cqF ?_
   skip
   repeat ((fail_if_success refine sqx ?_); go_step)
   refine wqv (v_eql (n := 2) rfl rfl rfl) ?_
   refine mqB ?_
   repeat ((fail_if_success refine sqy ?_); go_step)
   refine cqF ?_
   skip
   repeat ((fail_if_success refine sqx ?_); go_step)
   refine wp_region_B (n := 14) 13 (by kernel_rfl) rfl hE7 ?_
   intro w8 hb8 hE8
   clear hE7
   refine tqB 0 rfl (vqL 1 32 hE8 Tryz.underlying27) ?_
   refine tqB 1 rfl (vqL 0 64 hE8 Tryz.underlying31) ?_
   refine tqB 2 rfl (v_moveT (.inl rfl) rfl) ?_
   refine tqB 5 rfl (vqL 1 32 hE8 Tryz.underlying27) ?_
   refine tqB 6 rfl (vqL 0 64 hE8 Tryz.underlying31) ?_
   refine tqB 7 rfl (v_moveT (.inl rfl) rfl) ?_
   refine sqB 3 rfl (st_buildVs [Value.slice pa m.length ca] (one_slice) hE8 rfl rfl (by first | rfl | (simp only [List.map_cons, List.map_nil, List.zipIdx_cons, List.zipIdx_nil]; rfl)) rfl (by decide) (by decide) Tryz.underlying64 (by kernel_rfl) Tryz.zeroValue24 ?_)
   intro g3 w9 hb9 hE9
   clear hE8
   refine ⟨fun _ => hb9, ?_⟩
   simp only [qZ]
   refine sqB 4 rfl (st_gives hE9 rfl (run_call rfl Tryz.call12) (HV.out _ _ (RdSs.one (hE9.get (i := 0) rfl) (HA.out _ (hE9.sub (List.sublist_append_right [_, _, _, _, _, _] _))))) ?_)
   intro w10 hb10 hE10
   clear hE9
   refine ⟨fun _ => hb10, ?_⟩
   simp only [qZ]
   refine sqB 8 rfl (st_gives hE10 rfl (run_call rfl Tryz.call13) (HR.out _ _ (HA.out _ (hE10.sub (List.sublist_append_right [_, _, _, _, _, _] _)))) ?_)
   intro w11 hb11 hE11
   clear hE10
   refine ⟨fun _ => hb11, ?_⟩
   simp only [qZ]
   refine tqB 9 rfl (v_eqBs rfl rfl rfl Tryz.underlying4) ?_
   refine tqB 10 rfl (v_moveT (.inl rfl) rfl) ?_
   refine sqB 11 rfl (st_gives hE11 rfl (run_call rfl Tryz.call7) (HW.out _) ?_)
   intro w12 hb12 hE12
   clear hE11
   refine ⟨fun _ => hb12, ?_⟩
   simp only [qZ]
   refine tqB 12 rfl (v_and rfl rfl (fun _ => rfl)) ?_
   refine sqB 13 rfl (st_val rfl (v_moveT (.inr rfl) rfl) ?_)
   refine ⟨fun _ => Below.refl _ _, ?_⟩
   simp only [qZ]
   refine wpB_done (by kernel_rfl) ?_ _
   repeat ((fail_if_success refine sqx ?_); go_step)
   go_returns
   exact ⟨rfl, hE12.below⟩
set_option maxRecDepth 100000 in
theorem signTurned_lifted (os : Os) (started : os.Started) (H : Type) (enc : TypeId × Value → H) :
  ReturnsInHanded {} Tryz.checked os 4 .any (Rows.signTurnedSpec.pre6 enc Tryz.prog Tryz.f4 Rows.signTurnedRow.domain false) (Rows.signTurnedSpec.post enc Tryz.prog Tryz.f4 false true false false) := by
 refine returnsInHanded_of_change (C := Tryz.checked) own started (by kernel_rfl) Tryz.func4
  (ChangeSpec.witness6 (enc := enc) (C := Tryz.checked) false ⟨#[], #[.agg (ints .u8 (List.replicate 32 0)), .slice none 0 0, .agg (ints .u8 (List.replicate 3 0))], []⟩ 8 (by kernel_rfl) (by kernel_rfl) (by kernel_rfl) (by kernel_rfl)) ?_
 intro W base args ds gs before hval0 hW hcnd _
 have hval : ∀ (j : Nat) t v, Tryz.f4.params[j]? = some t → args[j]? = some v → Value.okWide Tryz.prog W .any base t v := hval0
 have hW' := hW
 obtain ⟨p, q, hA0, hV, rfl, hfz, hnd⟩ := hW
 have hA : DataW.TrodAll enc Tryz.prog W 0 (fun _ => true) true Tryz.f4.params.toList args.toList ds p := hA0
 rw [Tryz.params4] at hA hval
 obtain ⟨v0, vs0, d0, ds0, p0, q0, hargs, rfl, rfl, h0, r0⟩ := trodAll_cons hA
 obtain ⟨v1, vs1, d1, ds1, p1, q1, rfl, rfl, rfl, h1, r1⟩ := trodAll_cons r0
 obtain ⟨v2, vs2, d2, ds2, p2, q2, rfl, rfl, rfl, h2, r2⟩ := trodAll_cons r1
 obtain ⟨rfl, rfl, rfl⟩ := trodAll_nil r2
 obtain rfl : args = #[v0, v1, v2] := by cases args; simp_all
 obtain ⟨rfl, rfl⟩ := trodVars_none hV
 have k0 := h0
 have lt0 : ∀ x ∈ p0, x.block < W.heap.size := by obtain ⟨m, hm⟩ := k0; exact DataW.trod_lt m _ _ _ hm
 have k1 := h1
 have lt1 : ∀ x ∈ p1, x.block < W.heap.size := by obtain ⟨m, hm⟩ := k1; exact DataW.trod_lt m _ _ _ hm
 have k2 := h2
 have lt2 : ∀ x ∈ p2, x.block < W.heap.size := by obtain ⟨m, hm⟩ := k2; exact DataW.trod_lt m _ _ _ hm
 obtain ⟨l0, rfl, hl0, dl0⟩ := open_u8s Tryz.underlying23 Tryz.underlying5 (by kernel_rfl) (by kernel_rfl) (hval 0 23 v0 rfl rfl) h0
 obtain ⟨l1, hu1, hd1, hm1⟩ := open_bytes Tryz.underlying24 Tryz.underlying5 (by kernel_rfl) (hval 1 24 v1 rfl rfl) h1
 obtain ⟨l2, rfl, hl2, dl2⟩ := open_u8s Tryz.underlying35 Tryz.underlying5 (by kernel_rfl) (by kernel_rfl) (hval 2 35 v2 rfl rfl) h2
 clear hA0 hval0
 refine (signTurned_walk hl0 dl0 hu1 hd1 hm1 hl2 dl2).mono fun e W' ⟨he, bel⟩ => ?_
 subst he
 exact ⟨_, rfl, _, _, _, [], _, [], hW', trodAll_mk1 (shut_bool Tryz.underlying4 _), (trodAll_cons_mk (Below.trod laidOut (by kernel_rfl) (of_decide_eq_true (by kernel_rfl)) k0 bel lt0) (trodAll_cons_mk (Below.trod laidOut (by kernel_rfl) (of_decide_eq_true (by kernel_rfl)) k1 bel lt1) (trodAll_cons_mk (Below.trod laidOut (by kernel_rfl) (of_decide_eq_true (by kernel_rfl)) k2 bel lt2) trodAll_mk0))), rfl, bel.frame _, fun h => by cases h⟩

theorem signTurned_over : Rows.signTurnedRow.holds Tryz.pinned (OpenSpec.ofChange Rows.signTurnedSpec) :=
 OpenClaim.holds_of_wide 4 Tryz.f4 rfl rfl rfl rfl rfl rfl rfl ⟨rfl, rfl, rfl, rfl, rfl⟩ rfl rfl rfl rfl rfl (by kernel_rfl) Tryz.func4 (by kernel_rfl)
  (of_decide_eq_true (by kernel_rfl)) (by unfold Func.isWrapper; first | (rw [if_pos (by decide +kernel)]; kernel_rfl) | (rw [if_neg (by decide +kernel)]; exact ⟨rfl, rfl⟩))
  (fun os started H enc _ => signTurned_lifted os started H enc)

theorem signTurned_holds : Rows.SignTurnedSaid := signTurned_over

#print axioms signTurned_holds
end Go.Proofs.YthddoelflmoedaaGreat
