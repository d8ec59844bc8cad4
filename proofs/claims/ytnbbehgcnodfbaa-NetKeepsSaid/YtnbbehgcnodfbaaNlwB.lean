/-
 Layer 28: 'NetKeeps': whatever is done, each packet is there as often as it was sent and copied, less as often as it was taken. No condition.
-/
import Derived.Test.YtnbbehgcnodfbaaNetJ
namespace Go.Proofs.Ytnbbehgcnodfbaa
open Go.ChangeShapes Go.WideShapes Go.ChangeAt Go.RowKit
set_option maxRecDepth 100000
set_option linter.unusedVariables false
set_option linter.unusedSimpArgs false
theorem zA {α : Type} (l : List α) (i : Nat) (a : α) : l.toArray.setIfInBounds i a = (l.set i a).toArray := List.setIfInBounds_toArray ..
theorem zB {α : Type} (x a : α) (l : List α) : (x :: l).set 0 a = a :: l := rfl
theorem zC {α : Type} (x a : α) (l : List α) (n : Nat) : (x :: l).set (n + 1) a = x :: l.set n a := rfl

section
variable {P : Program} {ops : Array Oper} {Q : Exit → Act → World → Prop} {a : Act} {w : World} {o : Oper} {rest : List Oper} {v : Value}
theorem wl_valS (hw : Region.wanted o (yielded ops a.tmps) = true) (h : Val P o a v w) (k : wpList P ops Q rest (a.put o.dst v) w) : wpList P ops Q (o :: rest) a w := wl_step (st_val hw h k)
theorem wl_skipS (hw : Region.wanted o (yielded ops a.tmps) = false) (k : wpList P ops Q rest (a.put o.dst undef) w) : wpList P ops Q (o :: rest) a w := wl_step (st_skip hw k)
end
theorem same_key {m p : PV} : (decide (m.fr = p.fr) && (decide (m.to = p.to) && decide (m.by' = p.by'))) = (m.key == p.key) := by
 unfold PV.key
 rw [Bool.eq_iff_iff]
 simp
theorem times_take {k : Int × Int × List Nat} {M : List PV} {j : Nat} {m : PV} (h : M[j]? = some m) : times k (M.take (j + 1)) = times k (M.take j) + (if m.key == k then 1 else 0) := by
 have hj := (List.getElem?_eq_some_iff.1 h).1
 have e : M[j] = m := (List.getElem?_eq_some_iff.1 h).2
 rw [List.take_succ_eq_append_getElem hj, times_append, times_cons, e]
 simp [times]
theorem times_erase {k : Int × Int × List Nat} {M : List PV} {j : Nat} {m : PV} (h : M[j]? = some m) : times k M = times k (M.eraseIdx j) + (if m.key == k then 1 else 0) := by
 have hj := (List.getElem?_eq_some_iff.1 h).1
 have e : M[j] = m := (List.getElem?_eq_some_iff.1 h).2
 have h1 : M = M.take j ++ (m :: M.drop (j + 1)) := by rw [← e, ← List.drop_eq_getElem_cons hj, List.take_append_drop]
 rw [List.eraseIdx_eq_take_drop_succ, times_append]
 conv => lhs; rw [h1]
 rw [times_append, times_cons]
 omega
theorem keys_len {N M : List PV} (h : N.map PV.key = M.map PV.key) : N.length = M.length := by
 have := congrArg List.length h
 simpa using this
theorem pk1 (n b : Blk) (x y z u : List Blk) : (n :: (x ++ (y ++ (z ++ (b :: u))))).Perm (n :: (z ++ (b :: (x ++ (y ++ u))))) := by
 classical
 exact List.perm_iff_count.2 fun c => by simp only [List.count_append, List.count_cons]; omega
theorem pk2 (o n : Blk) (x u : List Blk) : (o :: (n :: (x ++ u))).Perm (n :: (x ++ (o :: u))) := by
 classical
 exact List.perm_iff_count.2 fun c => by simp only [List.count_append, List.count_cons]; omega
theorem pk3 (o n b : Blk) (x y u : List Blk) : (n :: (x ++ (y ++ (o :: (b :: u))))).Perm (o :: (n :: (x ++ (b :: (y ++ u))))) := by
 classical
 exact List.perm_iff_count.2 fun c => by simp only [List.count_append, List.count_cons]; omega
theorem pk4 (n b : Blk) (x u : List Blk) : (n :: (x ++ (b :: u))).Perm (b :: (n :: (x ++ u))) := by
 classical
 exact List.perm_iff_count.2 fun c => by simp only [List.count_append, List.count_cons]; omega
theorem pk5 (n b : Blk) (x y z u : List Blk) : (n :: (x ++ (y ++ (z ++ (b :: u))))).Perm (b :: (n :: (x ++ (y ++ (z ++ u))))) := by
 classical
 exact List.perm_iff_count.2 fun c => by simp only [List.count_append, List.count_cons]; omega
theorem pk6 (n : Blk) (x y z u : List Blk) : (n :: (x ++ (y ++ (z ++ u)))).Perm (x ++ (n :: (y ++ (z ++ u)))) := by
 classical
 exact List.perm_iff_count.2 fun c => by simp only [List.count_append, List.count_cons]; omega
theorem pk7 (n b o : Blk) (x u : List Blk) : (o :: (n :: (x ++ (b :: u)))).Perm (n :: (x ++ (b :: (o :: u)))) := by
 classical
 exact List.perm_iff_count.2 fun c => by simp only [List.count_append, List.count_cons]; omega
theorem pk8 (n b : Blk) (x y u : List Blk) : (n :: (x ++ (y ++ (b :: u)))).Perm (n :: (x ++ (b :: (y ++ u)))) := by
 classical
 exact List.perm_iff_count.2 fun c => by simp only [List.count_append, List.count_cons]; omega
/-- What a loaded packet looks like. -/
abbrev pkv (m : PV) : Value := .agg #[.int .i64 m.fr, .int .i64 m.to, m.sl]
abbrev pkb (g : Nat) (m : PV) : Blk := ⟨g, 25, #[.int .i64 m.fr, .int .i64 m.to, m.sl]⟩
abbrev ntb (g : Nat) (v : Value) (most : Nat) : Blk := ⟨g, 48, #[v, .int .i64 (most : Int)]⟩
/-- What is known of a net's packets, whatever the world. -/
structure KF (w : World) (gB most : Nat) (p : PV) (M : List PV) (v : Value) (bs R : List Blk) : Prop where
 len : M.length ≤ most
 see : ∀ m ∈ M, Sees w (pkb gB p :: R) m
 digs : ∀ m ∈ M, Digs 256 m.by' ∧ m.by'.length ≤ 60
 oz : Oz 3 25 M.length (pcells M) v bs
abbrev KE (w : World) (gN gB most : Nat) (p : PV) (v : Value) (bs R : List Blk) (wr : World) : Prop := Env w (ntb gN v most :: (bs ++ (pkb gB p :: R))) wr
theorem KF.more {w : World} {gB most : Nat} {p : PV} {M : List PV} {v : Value} {bs R R' : List Blk} (h : KF w gB most p M v bs R) (hs : R.Sublist R') : KF w gB most p M v bs R' := ⟨h.len, fun m hm => (h.see m hm).mono (List.Sublist.cons_cons _ hs), h.digs, h.oz⟩
theorem keys_digs {N M : List PV} (h : N.map PV.key = M.map PV.key) (hd : ∀ m ∈ M, Digs 256 m.by' ∧ m.by'.length ≤ 60) : ∀ m ∈ N, Digs 256 m.by' ∧ m.by'.length ≤ 60 := fun m hm => by
 have h1 : m.key ∈ M.map PV.key := by rw [← h]; exact List.mem_map_of_mem hm
 obtain ⟨m', h2, h3⟩ := List.mem_map.1 h1
 have : m'.by' = m.by' := congrArg (fun z => z.2.2) h3
 rw [← this]
 exact hd m' h2
/-- All packets, copied. -/
theorem KF.list {w wr : World} {gN gB most : Nat} {p : PV} {M : List PV} {v : Value} {bs R : List Blk} (h : KF w gB most p M v bs R) (hE : KE w gN gB most p v bs R wr) (hm : most ≤ 64) : Calls Try.prog 8 #[.pointer (some ⟨gN, 0, none⟩)] wr fun e w' => ∃ (pW : Option Addr) (cW : Nat) (N : List PV) (R' : List Blk), e = .returned (.slice pW M.length cW) ∧ N.map PV.key = M.map PV.key ∧ R.Sublist R' ∧ KE w gN gB most p v bs R' w' ∧
  (∀ w1, Env w R' w1 → RdZ 3 M.length (pcells N) (.slice pW M.length cW) w1) ∧ (∀ m ∈ N, Sees w R' m) := by
 refine (List_any h.oz h.see hE (by have := h.len; omega) (fun m hm => by have := (h.digs m hm).2; omega)).mono ?_
 rintro e w' ⟨v', bo, N, rfl, hk, hown, hO, hE'⟩
 have hl := keys_len hk
 have hNl : N.length = M.length := by rw [← hl, List.length_map]
 obtain ⟨pW, cW, rfl, -⟩ := hO.len
 rw [hNl] at hO ⊢
 exact ⟨pW, cW, fsts N, bo ++ (blks N ++ R), rfl, hk, (List.sublist_append_right _ _).trans (List.sublist_append_right _ _), hE'.perm (pk1 _ _ _ _ _ _), fun w1 hE1 => hO.rd hE1, fun m hm => (OwnP.sees hown m hm).mono ((List.sublist_append_left _ _).trans (List.sublist_append_right _ _))⟩
theorem KF.take {w wr : World} {gN gB most i : Nat} {p m : PV} {M : List PV} {v : Value} {bs R : List Blk} (h : KF w gB most p M v bs R) (hE : KE w gN gB most p v bs R wr) (hm : most ≤ 64) (hi : M[i]? = some m) : Calls Try.prog 9 #[.pointer (some ⟨gN, 0, none⟩), .int .i64 (i : Int)] wr fun e w' => ∃ (v' : Value) (bs' : List Blk), e = .returned (.tuple #[pkv m, .nilIface]) ∧ KF w gB most p (M.eraseIdx i) v' bs' R ∧ KE w gN gB most p v' bs' R w' := by
 refine (Take_any h.oz h.see hE hi (by have := h.len; omega)).mono ?_
 rintro e w' ⟨v', bo, rfl, hO, hE'⟩
 refine ⟨v', bo, rfl, ⟨?_, fun m hm => h.see m (List.mem_of_mem_eraseIdx hm), fun m hm => h.digs m (List.mem_of_mem_eraseIdx hm), hO⟩, hE'⟩
 have := List.length_eraseIdx_le M i
 have := h.len
 omega
theorem KF.copy {w wr : World} {gN gB most i : Nat} {p m : PV} {M : List PV} {v : Value} {bs R : List Blk} (h : KF w gB most p M v bs R) (hE : KE w gN gB most p v bs R wr) (hm : most ≤ 64) (hi : M[i]? = some m) : Calls Try.prog 11 #[.pointer (some ⟨gN, 0, none⟩), .int .i64 (i : Int)] wr fun e w' => ∃ (v' : Value) (bs' : List Blk) (M' : List PV) (R' : List Blk), e = .returned (if 1 ≤ most - M.length then .nilIface else errV 12) ∧ M'.map PV.key = (M ++ [m].take (most - M.length)).map PV.key ∧ R.Sublist R' ∧ KF w gB most p M' v' bs' R' ∧ KE w gN gB most p v' bs' R' w' := by
 have hmd := h.digs m (List.mem_of_getElem? hi)
 have hl := h.len
 refine (Copy_any h.oz h.see hi hl hm (by omega) hE).mono ?_
 rintro e w' ⟨rfl, v', bo, N, hk, hown, hO, hE'⟩
 have hk' : (M ++ fsts N).map PV.key = (M ++ [m].take (most - M.length)).map PV.key := by rw [List.map_append, hk, ← List.map_append]
 have hlen := keys_len hk'
 refine ⟨v', bo, M ++ fsts N, blks N ++ R, rfl, hk', List.sublist_append_right _ _, ⟨?_, fun q hq => ?_, keys_digs hk' (fun q hq => ?_), hO⟩, ?_⟩
 ·
  rw [hlen, List.length_append, List.length_take]; omega
 ·
  rcases List.mem_append.1 hq with hq | hq
  ·
   exact (h.see q hq).mono (List.Sublist.cons_cons _ (List.sublist_append_right _ _))
  ·
   exact (OwnP.sees hown q hq).mono (List.Sublist.cons _ (List.sublist_append_left _ _))
 ·
  rcases List.mem_append.1 hq with hq | hq
  ·
   exact h.digs q hq
  ·
   rw [List.mem_singleton.1 (List.mem_of_mem_take hq)]; exact hmd
 ·
  exact hE'.perm (pk8 _ _ _ _ _)
theorem KF.send {w wr : World} {gN gB most : Nat} {p : PV} {M L : List PV} {v x : Value} {bs R : List Blk} (h : KF w gB most p M v bs R) (hE : KE w gN gB most p v bs R wr) (hm : most ≤ 64) (hx : RdZ 3 L.length (pcells L) x w) (hL : ∀ m ∈ L, RdPk w m) (hb : ∀ m ∈ L, m.by'.length ≤ 60) (hl12 : L.length ≤ 12) : Calls Try.prog 13 #[.pointer (some ⟨gN, 0, none⟩), x] wr fun e w' => ∃ (v' : Value) (bs' : List Blk) (M' : List PV) (R' : List Blk) (r : Value), e = .returned r ∧ M'.map PV.key = (M ++ L.take (most - M.length)).map PV.key ∧ R.Sublist R' ∧ KF w gB most p M' v' bs' R' ∧ KE w gN gB most p v' bs' R' w' := by
 have hl := h.len
 refine (Send_any h.oz h.see hE hl hm (fun w' h' => hx.below h'.below) (fun m hm w' h' => (hL m hm).1.below h'.below) (fun m hm => by have := hb m hm; omega) (by omega)).mono ?_
 rintro e w' ⟨v', bo, N, rfl, hk, hown, hO, hE'⟩
 have hk' : (M ++ fsts N).map PV.key = (M ++ L.take (most - M.length)).map PV.key := by rw [List.map_append, hk, ← List.map_append]
 have hlen := keys_len hk'
 refine ⟨v', bo, M ++ fsts N, blks N ++ R, _, rfl, hk', List.sublist_append_right _ _, ⟨?_, fun q hq => ?_, keys_digs hk' (fun q hq => ?_), hO⟩, ?_⟩
 ·
  rw [hlen, List.length_append, List.length_take]; omega
 ·
  rcases List.mem_append.1 hq with hq | hq
  ·
   exact (h.see q hq).mono (List.Sublist.cons_cons _ (List.sublist_append_right _ _))
  ·
   exact (OwnP.sees hown q hq).mono (List.Sublist.cons _ (List.sublist_append_left _ _))
 ·
  rcases List.mem_append.1 hq with hq | hq
  ·
   exact h.digs q hq
  ·
   exact ⟨(hL q (List.mem_of_mem_take hq)).2.1, hb q (List.mem_of_mem_take hq)⟩
 ·
  exact hE'.perm (pk8 _ _ _ _ _)
theorem swap_perm {M : List PV} {i k : Nat} {mi mk : PV} (hi : M[i]? = some mi) (hk : M[k]? = some mk) : ((M.set i mk).set k mi).Perm M := by
 have h1 := (List.getElem?_eq_some_iff.1 hi)
 have h2 := (List.getElem?_eq_some_iff.1 hk)
 obtain ⟨hi1, hi2⟩ := h1
 obtain ⟨hk1, hk2⟩ := h2
 have := List.set_set_perm hi1 hk1
 rw [hi2, hk2] at this
 exact this
theorem KF.swap {w wr : World} {gN gB most i k : Nat} {p mi mk : PV} {M : List PV} {v : Value} {bs R : List Blk} (h : KF w gB most p M v bs R) (hE : KE w gN gB most p v bs R wr) (hm : most ≤ 64) (hi : M[i]? = some mi) (hk : M[k]? = some mk) : Calls Try.prog 12 #[.pointer (some ⟨gN, 0, none⟩), .int .i64 (i : Int), .int .i64 (k : Int)] wr fun e w' => ∃ (bs' : List Blk) (M' : List PV), e = .returned .nilIface ∧ M'.Perm M ∧ KF w gB most p M' v bs' R ∧ KE w gN gB most p v bs' R w' := by
 have hl := h.len
 refine (Swap_any h.oz h.see hi hk (by omega) hE).mono ?_
 rintro e w' ⟨rfl, bo, hO, hE'⟩
 have hp := swap_perm hi hk
 exact ⟨bo, _, rfl, hp, ⟨by rw [hp.length_eq]; exact hl, fun m hm => h.see m (hp.mem_iff.1 hm), fun m hm => h.digs m (hp.mem_iff.1 hm), hO⟩, hE'⟩
theorem one3 {w w' : World} {R : List Blk} {m : PV} (h : Sees w R m) (hE : Env w R w') : (#[Value.int .i64 m.fr, .int .i64 m.to, m.sl]).all (·.oneCell') = true := by
 have := h.one hE
 simp [this]
 exact ⟨rfl, rfl⟩
section
variable {P : Program} {a : Act} {w : World} {o : Oper} {v : Value}
theorem wpB_up {ops : Array Oper} {Q : Exit → Act → World → Prop} {m m' : Nat} (h : m ≤ m') : ∀ {n : Nat} {L : Array Bool} {a : Act} {w : World}, wpB P ops Q m' n L a w → wpB P ops Q m n L a w
 | 0, _, _, _, hw => hw
 | n + 1, _, _, _, hw => ⟨hw.1, fun i hi => wpOp_mono (fun a' w' ⟨h1, h2⟩ => ⟨fun hlt => h1 (Nat.lt_of_lt_of_le hlt h), wpB_up h h2⟩) (hw.2 i hi)⟩
theorem v_lssS {t t' : TypeId} {x y : Operand} {k : IntKind} {m : Nat} (ho : o.op = .binOp .lss t x y t') (hx : a.eval x = .int k (m : Int)) (hy : a.eval y = .int k (m : Int)) : Val P o a (.bool false) w := by
 have h := v_lss (P := P) (w := w) ho hx hy
 simpa using h
theorem v_neqS {t t' : TypeId} {x y : Operand} {k : IntKind} {m : Nat} (ho : o.op = .binOp .neq t x y t') (hx : a.eval x = .int k (m : Int)) (hy : a.eval y = .int k (m : Int)) : Val P o a (.bool false) w := by
 have h := v_neq (P := P) (w := w) ho hx hy
 simpa using h
theorem v_subS {t t' : TypeId} {x y : Operand} {m : Nat} (ho : o.op = .binOp .sub t x y t') (hx : a.eval x = .int .i64 ((m + 1 : Nat) : Int)) (hy : a.eval y = .int .i64 1) (hm : m < 1000000) : Val P o a (.int .i64 (m : Int)) w :=
 v_sub (m := m + 1) (n := 1) ho hx hy (by rw [IntKind.wrap_i64]; omega)
end
theorem KE.two {w wr : World} {gN gB most : Nat} {p : PV} {v : Value} {bs R : List Blk} (h : KE w gN gB most p v bs R wr) : Env w (pkb gB p :: R) wr := h.sub (List.Sublist.cons _ (List.sublist_append_right _ _))
theorem times_le (k : Int × Int × List Nat) (M : List PV) : times k M ≤ M.length := List.length_filter_le _ _
theorem KE.rest {w wr : World} {gN gB most : Nat} {p : PV} {v : Value} {bs R : List Blk} (h : KE w gN gB most p v bs R wr) : Env w R wr := h.sub (List.Sublist.cons _ ((List.sublist_cons_self _ _).trans (List.sublist_append_right _ _)))
set_option maxHeartbeats 100000000 in
theorem netKeeps_walk0 {mo : Nat} {O : List OV} {pk : PV} {v : Value} {w : World} (hmo : mo < 256) (hv : RdZ 4 O.length (ocells O) v w) (hO : ∀ o ∈ O, RdOv w o) (hm : O.length ≤ maxLen) (hp : RdPk w pk) :
  Gives 3 #[.int .u8 (mo : Int), v, .agg #[.int .i64 pk.fr, .int .i64 pk.to, pk.sl]] w (.bool true) := by
 obtain ⟨p, c, rfl, hc⟩ := hv.len
 obtain ⟨pp, cp, hps, hcp, -⟩ := id hp.1
 have hm63 : O.length < 9223372036854775808 := by unfold maxLen at hm; omega
 have hp63 : pk.by'.length < 9223372036854775808 := by have := hp.2.2; unfold maxLen at this; omega
 have HW := Lib.hid (fun w => awake_any w)
 have HP := Lib.hid hp
 have HV := Lib.hid hv
 have HO := Lib.hid hO
 obtain ⟨q, hq⟩ : ∃ q, mo % 64 = q := ⟨_, rfl⟩
 have hq64 : q < 64 := by rw [← hq]; exact Nat.mod_lt _ (by decide)
 have HQ := Lib.hid hq
 clear hq hp
 by_cases hall : okAll O
 ·
  have HGr : Hid (∀ w1, Below w.heap.size w w1 → Gives 5 #[.slice p O.length c] w1 (.bool false)) := Lib.hid (fun w1 hb => great_any (hv.below hb) (fun o ho => (hO o ho).below hb) hm (by simp [hall]))
  have HAll := Lib.hid hall
  clear hv hO hall
  by_cases h60 : 60 < pk.by'.length
  ·
   have d1 := Lib.hid (decide_eq_true h60)
   have hE0 := Env.nil w
   go_enter Try.func3, Try.ntmps3
   repeat ((fail_if_success (with_reducible show wpList _ _ _ (List.cons _ _) _ _)); (fail_if_success (with_reducible show Code.wp _ (Code.region _ _ true) _ _ _)); go_step)
   refine wl_step (st_boxA hE0 rfl rfl rfl ?_)
   intro g0 w1 hb1 hE1
   clear hE0
   simp only [Act.put, zA, zB, zC]
   (with_reducible refine' wl_valS ?_ ?_ ?_); rotate_left; exact rfl; exact (v_moveC (.inr rfl))
   simp only [Act.put, zA, zB, zC]
   repeat ((fail_if_success (with_reducible show wpList _ _ _ (List.cons _ _) _ _)); (fail_if_success (with_reducible show Code.wp _ (Code.region _ _ true) _ _ _)); go_step)
   (with_reducible refine' wl_valS ?_ ?_ ?_); rotate_left; exact rfl; exact (v_moveT (.inl rfl) rfl)
   simp only [Act.put, zA, zB, zC]
   refine wl_step (st_gives hE1 rfl (run_call rfl Try.call5) (HGr.out _ hE1.below) ?_)
   intro w2 hb2 hE2
   clear hE1
   simp only [Act.put, zA, zB, zC]
   (with_reducible refine' wl_valS ?_ ?_ ?_); rotate_left; exact rfl; exact (v_moveT (.inl rfl) rfl)
   simp only [Act.put, zA, zB, zC]
   (with_reducible refine' wl_valS ?_ ?_ ?_); rotate_left; exact rfl; exact (v_fieldB (s := 0) rfl rfl Try.underlying25 rfl (by kernel_rfl) rfl)
   simp only [Act.put, zA, zB, zC]
   (with_reducible refine' wl_valS ?_ ?_ ?_); rotate_left; exact rfl; exact (v_cellB (v := .slice pp pk.by'.length cp) (i := 0) hE2 rfl rfl rfl Try.underlying23 rfl (congrArg some hps))
   simp only [Act.put, zA, zB, zC]
   (with_reducible refine' wl_valS ?_ ?_ ?_); rotate_left; exact rfl; exact (v_len rfl rfl Try.underlying23 hp63)
   simp only [Act.put, zA, zB, zC]
   (with_reducible refine' wl_valS ?_ ?_ ?_); rotate_left; exact rfl; exact (v_gtr (n := 60) rfl rfl rfl)
   simp only [Act.put, zA, zB, zC]
   rw [d1.out]
   (with_reducible refine' wl_valS ?_ ?_ ?_); rotate_left; exact rfl; exact (v_orF rfl rfl rfl)
   simp only [Act.put, zA, zB, zC]
   repeat ((fail_if_success (with_reducible show wpList _ _ _ (List.cons _ _) _ _)); (fail_if_success (with_reducible show Code.wp _ (Code.region _ _ true) _ _ _)); (fail_if_success (with_reducible show Code.wp _ (Code.cond _ _ _) _ _ _)); go_step)
   refine wp_cond_true (by first | rfl | exact congrArg Value.bool (decide_eq_true (by omega))) ?_
   skip
   repeat ((fail_if_success (with_reducible show wpList _ _ _ (List.cons _ _) _ _)); (fail_if_success (with_reducible show Code.wp _ (Code.region _ _ true) _ _ _)); go_step)
   refine wl_step (st_gives hE2 rfl (run_call rfl Try.call6) (HW.out _) ?_)
   intro w3 hb3 hE3
   clear hE2
   simp only [Act.put, zA, zB, zC]
   (with_reducible refine' wl_valS ?_ ?_ ?_); rotate_left; exact rfl; exact (v_moveT (.inr rfl) rfl)
   simp only [Act.put, zA, zB, zC]
   repeat ((fail_if_success (with_reducible show wpList _ _ _ (List.cons _ _) _ _)); (fail_if_success (with_reducible show Code.wp _ (Code.region _ _ true) _ _ _)); go_step)
   go_returns
   exact ⟨rfl, hE3.below⟩
  ·
   have d1 := Lib.hid (decide_eq_false h60)
   have hN1 : 1 ≤ 1 + q := by omega
   have hN2 : 1 + q ≤ 64 := by omega
   have hE0 := Env.nil w
   go_enter Try.func3, Try.ntmps3
   repeat ((fail_if_success (with_reducible show wpList _ _ _ (List.cons _ _) _ _)); (fail_if_success (with_reducible show Code.wp _ (Code.region _ _ true) _ _ _)); go_step)
   refine wl_step (st_boxA hE0 rfl rfl rfl ?_)
   intro g0 w1 hb1 hE1
   clear hE0
   simp only [Act.put, zA, zB, zC]
   (with_reducible refine' wl_valS ?_ ?_ ?_); rotate_left; exact rfl; exact (v_moveC (.inr rfl))
   simp only [Act.put, zA, zB, zC]
   repeat ((fail_if_success (with_reducible show wpList _ _ _ (List.cons _ _) _ _)); (fail_if_success (with_reducible show Code.wp _ (Code.region _ _ true) _ _ _)); go_step)
   (with_reducible refine' wl_valS ?_ ?_ ?_); rotate_left; exact rfl; exact (v_moveT (.inl rfl) rfl)
   simp only [Act.put, zA, zB, zC]
   refine wl_step (st_gives hE1 rfl (run_call rfl Try.call5) (HGr.out _ hE1.below) ?_)
   intro w2 hb2 hE2
   clear hE1
   simp only [Act.put, zA, zB, zC]
   (with_reducible refine' wl_valS ?_ ?_ ?_); rotate_left; exact rfl; exact (v_moveT (.inl rfl) rfl)
   simp only [Act.put, zA, zB, zC]
   (with_reducible refine' wl_valS ?_ ?_ ?_); rotate_left; exact rfl; exact (v_fieldB (s := 0) rfl rfl Try.underlying25 rfl (by kernel_rfl) rfl)
   simp only [Act.put, zA, zB, zC]
   (with_reducible refine' wl_valS ?_ ?_ ?_); rotate_left; exact rfl; exact (v_cellB (v := .slice pp pk.by'.length cp) (i := 0) hE2 rfl rfl rfl Try.underlying23 rfl (congrArg some hps))
   simp only [Act.put, zA, zB, zC]
   (with_reducible refine' wl_valS ?_ ?_ ?_); rotate_left; exact rfl; exact (v_len rfl rfl Try.underlying23 hp63)
   simp only [Act.put, zA, zB, zC]
   (with_reducible refine' wl_valS ?_ ?_ ?_); rotate_left; exact rfl; exact (v_gtr (n := 60) rfl rfl rfl)
   simp only [Act.put, zA, zB, zC]
   rw [d1.out]
   (with_reducible refine' wl_valS ?_ ?_ ?_); rotate_left; exact rfl; exact (v_orF rfl rfl rfl)
   simp only [Act.put, zA, zB, zC]
   repeat ((fail_if_success (with_reducible show wpList _ _ _ (List.cons _ _) _ _)); (fail_if_success (with_reducible show Code.wp _ (Code.region _ _ true) _ _ _)); (fail_if_success (with_reducible show Code.wp _ (Code.cond _ _ _) _ _ _)); go_step)
   refine wp_cond_false (by first | rfl | exact congrArg Value.bool (decide_eq_false (by omega))) ?_
   skip
   repeat ((fail_if_success (with_reducible show wpList _ _ _ (List.cons _ _) _ _)); (fail_if_success (with_reducible show Code.wp _ (Code.region _ _ true) _ _ _)); go_step)
   (with_reducible refine' wl_valS ?_ ?_ ?_); rotate_left; exact rfl; exact (v_moveT (.inl rfl) rfl)
   simp only [Act.put, zA, zB, zC]
   (with_reducible refine' wl_valS ?_ ?_ ?_); rotate_left; exact rfl; exact (v_rem (n := 64) rfl rfl rfl (by omega))
   simp only [Act.put, zA, zB, zC]
   rw [HQ.out]
   (with_reducible refine' wl_valS ?_ ?_ ?_); rotate_left; exact rfl; exact (v_convInt rfl rfl Try.underlying5 Try.underlying3 (w_i64 (by omega)))
   simp only [Act.put, zA, zB, zC]
   (with_reducible refine' wl_valS ?_ ?_ ?_); rotate_left; exact rfl; exact (v_add (m := 1) rfl rfl rfl (w_i64 (by omega)))
   simp only [Act.put, zA, zB, zC]
   refine wl_step (st_calls rfl (run_call rfl Try.call7) (New_any (n := 1 + q) hN1 hN2 _) ?_)
   rintro _ w3 ⟨g1, rfl, hb3, hn, hgN⟩
   have hE3 := hE2.more hb3 hn hgN
   refine ⟨_, rfl, ?_⟩
   clear hE2
   simp only [Act.put, zA, zB, zC]
   (with_reducible refine' wl_valS ?_ ?_ ?_); rotate_left; exact rfl; exact (v_moveT (.inl rfl) rfl)
   simp only [Act.put, zA, zB, zC]
   (with_reducible refine' wl_valS ?_ ?_ ?_); rotate_left; exact rfl; exact (v_extract rfl rfl rfl)
   simp only [Act.put, zA, zB, zC]
   (with_reducible refine' wl_valS ?_ ?_ ?_); rotate_left; exact rfl; exact (v_extract rfl rfl rfl)
   simp only [Act.put, zA, zB, zC]
   (with_reducible refine' wl_valS ?_ ?_ ?_); rotate_left; exact rfl; exact (v_moveT (.inr rfl) rfl)
   simp only [Act.put, zA, zB, zC]
   (with_reducible refine' wl_valS ?_ ?_ ?_); rotate_left; exact rfl; exact (v_moveT (.inr rfl) rfl)
   simp only [Act.put, zA, zB, zC]
   repeat ((fail_if_success (with_reducible show wpList _ _ _ (List.cons _ _) _ _)); (fail_if_success (with_reducible show Code.wp _ (Code.region _ _ true) _ _ _)); go_step)
   (with_reducible refine' wl_valS ?_ ?_ ?_); rotate_left; exact rfl; exact (v_moveT (.inl rfl) rfl)
   simp only [Act.put, zA, zB, zC]
   (with_reducible refine' wl_valS ?_ ?_ ?_); rotate_left; exact rfl; exact (v_run fun w9 => by go_simp; with_reducible rfl)
   simp only [Act.put, zA, zB, zC]
   (with_reducible refine' wl_valS ?_ ?_ ?_); rotate_left; exact rfl; exact (v_moveT (.inl rfl) rfl)
   simp only [Act.put, zA, zB, zC]
   (with_reducible refine' wl_valS ?_ ?_ ?_); rotate_left; exact rfl; exact (v_moveT (.inl rfl) rfl)
   simp only [Act.put, zA, zB, zC]
   (with_reducible refine' wl_valS ?_ ?_ ?_); rotate_left; exact rfl; exact (v_run fun w9 => by go_simp; with_reducible rfl)
   simp only [Act.put, zA, zB, zC]
   (with_reducible refine' wl_valS ?_ ?_ ?_); rotate_left; exact rfl; exact (v_orF rfl rfl rfl)
   simp only [Act.put, zA, zB, zC]
   repeat ((fail_if_success (with_reducible show wpList _ _ _ (List.cons _ _) _ _)); (fail_if_success (with_reducible show Code.wp _ (Code.region _ _ true) _ _ _)); (fail_if_success (with_reducible show Code.wp _ (Code.cond _ _ _) _ _ _)); go_step)
   refine wp_cond_false (by first | rfl | exact congrArg Value.bool (decide_eq_false (by omega))) ?_
   skip
   repeat ((fail_if_success (with_reducible show wpList _ _ _ (List.cons _ _) _ _)); (fail_if_success (with_reducible show Code.wp _ (Code.region _ _ true) _ _ _)); go_step)
   (with_reducible refine' wl_valS ?_ ?_ ?_); rotate_left; exact rfl; exact (v_moveC (.inr rfl))
   simp only [Act.put, zA, zB, zC]
   repeat ((fail_if_success (with_reducible show wpList _ _ _ (List.cons _ _) _ _)); (fail_if_success (with_reducible show Code.wp _ (Code.region _ _ true) _ _ _)); go_step)
   (with_reducible refine' wl_valS ?_ ?_ ?_); rotate_left; exact rfl; exact (v_moveC (.inr rfl))
   simp only [Act.put, zA, zB, zC]
   have hst : KE w g1 g0 (1 + q) pk (.slice none 0 0) [] [] w3 := hE3
   clear hE3
   go_wp2
   go_loopw [9, 10] (fun t i wr => ∃ (j : Nat) (M : List PV) (vN : Value) (bs R : List Blk), j ≤ O.length ∧ i = .int .i64 j ∧ t = .int .i64 ((times pk.key M : Nat) : Int) ∧ KF w g0 (1 + q) pk M vN bs R ∧ KE w g1 g0 (1 + q) pk vN bs R wr) (fun _ i _ => O.length - (intOf i).toNat)
   case atStart => exact ⟨0, [], .slice none 0 0, [], [], Nat.zero_le _, rfl, rfl, ⟨by simp, (fun m hm => by cases hm), (fun m hm => by cases hm), Oz.nil _ _⟩, hst⟩
   case round =>
    clear hst
    obtain ⟨j, M, vN, bs, R, hj, rfl, rfl, hF, hE0⟩ := hrel
    obtain ⟨pN, cN, rfl, -⟩ := hF.oz.len
    have hMl : M.length < 1000000 := by have := hF.len; omega
    by_cases hjl : j < O.length
    ·
     have d2 := Lib.hid (decide_eq_true hjl)
     have hg : O[j]? = some O[j] := List.getElem?_eq_getElem hjl
     obtain ⟨o, hoe⟩ : ∃ o, O[j] = o := ⟨_, rfl⟩
     rw [hoe] at hg
     have hmo : o ∈ O := List.mem_of_getElem? hg
     obtain ⟨b, off, rfl, -⟩ := HV.out.elem hjl
     have hran : ∀ w', Below w.heap.size w w' → ∀ w1, Below w'.heap.size w' w1 → w1.rangeAt b (off + j * 4) [.int .u8 (o.kd : Int), .int .i64 o.i, .int .i64 o.k, o.sl] := fun w' hb w1 hb1 => by
      obtain ⟨b', off', he, hr⟩ := (HV.out.below hb).elem hjl
      injection he with he
      injection he with h1 h2 _
      subst h1 h2
      have := hr w1 hb1
      rwa [ocells_at hg] at this
     have Hran := Lib.hid hran
     have Hro := Lib.hid (HO.out o hmo)
     have Hok := Lib.hid (HAll.out.2 o hmo)
     have Hg := Lib.hid hg
     obtain ⟨T, hT⟩ : ∃ T, times pk.key M = T := ⟨_, rfl⟩
     have HT := Lib.hid hT
     have HF := Lib.hid hF
     rw [hT]
     clear hran hoe hg hF hT
     repeat ((fail_if_success (with_reducible show wpList _ _ _ (List.cons _ _) _ _)); (fail_if_success (with_reducible show Code.wp _ (Code.region _ _ true) _ _ _)); go_step)
     (with_reducible refine' wl_valS ?_ ?_ ?_); rotate_left; exact rfl; exact (v_moveT (.inl rfl) rfl)
     simp only [Act.put, zA, zB, zC]
     (with_reducible refine' wl_valS ?_ ?_ ?_); rotate_left; exact rfl; exact (v_moveT (.inl rfl) rfl)
     simp only [Act.put, zA, zB, zC]
     (with_reducible refine' wl_valS ?_ ?_ ?_); rotate_left; exact rfl; exact (v_len rfl rfl Try.underlying22 hm63)
     simp only [Act.put, zA, zB, zC]
     (with_reducible refine' wl_valS ?_ ?_ ?_); rotate_left; exact rfl; exact (v_lss rfl rfl rfl)
     simp only [Act.put, zA, zB, zC]
     rw [d2.out]
     repeat ((fail_if_success (with_reducible show wpList _ _ _ (List.cons _ _) _ _)); (fail_if_success (with_reducible show Code.wp _ (Code.region _ _ true) _ _ _)); (fail_if_success (with_reducible show Code.wp _ (Code.cond _ _ _) _ _ _)); go_step)
     refine wp_cond_true (by first | rfl | exact congrArg Value.bool (decide_eq_true (by omega))) ?_
     skip
     repeat ((fail_if_success (with_reducible show wpList _ _ _ (List.cons _ _) _ _)); (fail_if_success (with_reducible show Code.wp _ (Code.region _ _ true) _ _ _)); go_step)
     (with_reducible refine' wl_valS ?_ ?_ ?_); rotate_left; exact rfl; exact (v_moveT (.inl rfl) rfl)
     simp only [Act.put, zA, zB, zC]
     refine wl_step (st_calls rfl (run_call rfl Try.call8) (HF.out.list hE0 hN2) ?_)
     rintro _ w1 ⟨pW, cW, NW, R1, rfl, hkW, hsW, hE1, hrW, hseW⟩
     skip
     refine ⟨_, rfl, ?_⟩
     clear hE0
     simp only [Act.put, zA, zB, zC]
     (with_reducible refine' wl_valS ?_ ?_ ?_); rotate_left; exact rfl; exact (v_moveT (.inr rfl) rfl)
     simp only [Act.put, zA, zB, zC]
     have HF1 := Lib.hid (HF.out.more hsW)
     have HkW := Lib.hid hkW
     have HrW := Lib.hid hrW
     have HseW := Lib.hid hseW
     clear HF hkW hsW hrW hseW
     have hone4 : (#[Value.int .u8 (o.kd : Int), .int .i64 o.i, .int .i64 o.k, o.sl]).all (·.oneCell') = true := by
      obtain ⟨pL, cL, hsl, -⟩ := Hro.out.2.1.len
      rw [hsl]
      simp
      exact ⟨rfl, rfl, rfl, rfl⟩
     repeat ((fail_if_success (with_reducible show wpList _ _ _ (List.cons _ _) _ _)); (fail_if_success (with_reducible show Code.wp _ (Code.region _ _ true) _ _ _)); go_step)
     (with_reducible refine' wl_valS ?_ ?_ ?_); rotate_left; exact rfl; exact (v_moveT (.inl rfl) rfl)
     simp only [Act.put, zA, zB, zC]
     (with_reducible refine' wl_valS ?_ ?_ ?_); rotate_left; exact rfl; exact (v_moveT (.inl rfl) rfl)
     simp only [Act.put, zA, zB, zC]
     (with_reducible refine' wl_valS ?_ ?_ ?_); rotate_left; exact rfl; exact (v_indexSs (s := 4) rfl rfl rfl Try.underlying22 (by kernel_rfl) hjl)
     simp only [Act.put, zA, zB, zC]
     (with_reducible refine' wl_valS ?_ ?_ ?_); rotate_left; exact rfl; exact (v_loadMid (cs := #[.int .u8 (o.kd : Int), .int .i64 o.i, .int .i64 o.k, o.sl]) rfl rfl (Hran.out _ hE1.below) Try.underlying36 rfl (by kernel_rfl))
     simp only [Act.put, zA, zB, zC]
     refine wl_step (st_alloc (zs := #[Value.int .u8 0, Value.int .i64 0, Value.int .i64 0, Value.slice none 0 0]) hE1 rfl rfl (fun w => by kernel_rfl) ?_)
     intro g2 w2 hb2 hE2
     clear hE1
     simp only [Act.put, zA, zB, zC]
     refine wl_step (st_store (i := 0) hE2 rfl rfl rfl rfl rfl (sz_of (n := 4) (by kernel_rfl) rfl) rfl hone4 ?_)
     intro w3 hE3
     clear hE2
     simp only [List.set_cons_zero] at hE3
     simp only [Act.put, zA, zB, zC]
     have hE1 := (hE3).perm (pk7 _ _ _ _ _)
     clear hE3
     have HF1' := Lib.hid (HF1.out.more (List.sublist_cons_self (⟨g2, 36, #[.int .u8 (o.kd : Int), .int .i64 o.i, .int .i64 o.k, o.sl]⟩ : Blk) R1))
     obtain ⟨R2', hR2⟩ : ∃ R, (⟨g2, 36, #[.int .u8 (o.kd : Int), .int .i64 o.i, .int .i64 o.k, o.sl]⟩ :: R1 : List Blk) = R := ⟨_, rfl⟩
     have HO2 : Hid (∀ w' v' bs' R', R2'.Sublist R' → KE w g1 g0 (1 + q) pk v' bs' R' w' → Env w (⟨g2, 36, #[.int .u8 (o.kd : Int), .int .i64 o.i, .int .i64 o.k, o.sl]⟩ :: R1) w') := Lib.hid (fun w' v' bs' R' hs h => by
      rw [← hR2] at hs
      exact (KE.rest h).sub hs)
     have HRW : Hid (∀ w' v' bs' R', R2'.Sublist R' → KE w g1 g0 (1 + q) pk v' bs' R' w' → Env w R1 w') := Lib.hid (fun w' v' bs' R' hs h => (HO2.out w' v' bs' R' hs h).sub (List.sublist_cons_self _ _))
     rw [hR2] at hE1 HF1'
     have hsR : R2'.Sublist R2' := List.Sublist.refl _
     clear hR2
     repeat ((fail_if_success (with_reducible show wpList _ _ _ (List.cons _ _) _ _)); (fail_if_success (with_reducible show Code.wp _ (Code.region _ _ true) _ _ _)); go_step)
     (with_reducible refine' wl_valS ?_ ?_ ?_); rotate_left; exact rfl; exact (v_field0 (s := 0) rfl rfl Try.underlying36 rfl (by kernel_rfl) rfl)
     simp only [Act.put, zA, zB, zC]
     (with_reducible refine' wl_valS ?_ ?_ ?_); rotate_left; exact rfl; exact (v_cellB (v := .int .u8 (o.kd : Int)) (i := 0) (HO2.out _ _ _ _ hsR hE1) rfl rfl rfl Try.underlying5 rfl rfl)
     simp only [Act.put, zA, zB, zC]
     by_cases hk0 : o.kd = 0
     ·
      have d6 := Lib.hid (decide_eq_true hk0)
      repeat ((fail_if_success (with_reducible show wpList _ _ _ (List.cons _ _) _ _)); (fail_if_success (with_reducible show Code.wp _ (Code.region _ _ true) _ _ _)); go_step)
      (with_reducible refine' wl_valS ?_ ?_ ?_); rotate_left; exact rfl; exact (v_eql (n := 0) rfl rfl rfl)
      simp only [Act.put, zA, zB, zC]
      rw [d6.out]
      (with_reducible refine' wl_valS ?_ ?_ ?_); rotate_left; exact rfl; exact (v_moveT (.inr rfl) rfl)
      simp only [Act.put, zA, zB, zC]
      repeat ((fail_if_success (with_reducible show wpList _ _ _ (List.cons _ _) _ _)); (fail_if_success (with_reducible show Code.wp _ (Code.region _ _ true) _ _ _)); (fail_if_success (with_reducible show Code.wp _ (Code.cond _ _ _) _ _ _)); go_step)
      refine wp_cond_true (by first | rfl | exact congrArg Value.bool (decide_eq_true (by omega))) ?_
      skip
      by_cases hin : 0 ≤ o.i ∧ o.i < (M.length : Int)
      ·
       obtain ⟨idx, hidx⟩ : ∃ n : Nat, o.i = (n : Int) := ⟨o.i.toNat, by omega⟩
       have hidl : idx < M.length := by omega
       have hgi : M[idx]? = some M[idx] := List.getElem?_eq_getElem hidl
       obtain ⟨m1, hm1⟩ : ∃ m, M[idx] = m := ⟨_, rfl⟩
       rw [hm1] at hgi
       have hmm1 : m1 ∈ M := List.mem_of_getElem? hgi
       have HSame : Hid (∀ w' v' bs' R', R2'.Sublist R' → KE w g1 g0 (1 + q) pk v' bs' R' w' → Gives 10 #[pkv m1, pkv pk] w' (.bool (m1.key == pk.key))) := Lib.hid (fun w' v' bs' R' hs h => by
         have h1 := Same_any (f1 := m1.fr) (t1 := m1.to) (f2 := pk.fr) (t2 := pk.to) (HF1'.out.see m1 hmm1 _ (h.two.sub (List.Sublist.cons_cons _ hs))) (HP.out.1.below h.below) (HF1'.out.digs m1 hmm1).1 HP.out.2.1
         rwa [same_key] at h1)
       have htm := times_erase (k := pk.key) hgi
       rw [HT.out] at htm
       have Htm := Lib.hid htm
       have hone1 := one3 (HF1'.out.see m1 hmm1) (KE.two hE1)
       have Hgi := Lib.hid hgi
       have Hidx := Lib.hid hidx
       clear hm1 hgi htm hidx
       repeat ((fail_if_success (with_reducible show wpList _ _ _ (List.cons _ _) _ _)); (fail_if_success (with_reducible show Code.wp _ (Code.region _ _ true) _ _ _)); go_step)
       (with_reducible refine' wl_valS ?_ ?_ ?_); rotate_left; exact rfl; exact (v_moveT (.inl rfl) rfl)
       simp only [Act.put, zA, zB, zC]
       (with_reducible refine' wl_valS ?_ ?_ ?_); rotate_left; exact rfl; exact (v_fieldB (s := 0) rfl rfl Try.underlying36 rfl (by kernel_rfl) rfl)
       simp only [Act.put, zA, zB, zC]
       (with_reducible refine' wl_valS ?_ ?_ ?_); rotate_left; exact rfl; exact (v_cellB (v := .int .i64 (idx : Int)) (i := 0) (HO2.out _ _ _ _ hsR hE1) rfl rfl rfl Try.underlying3 rfl (congrArg (fun z => some (Value.int .i64 z)) Hidx.out))
       simp only [Act.put, zA, zB, zC]
       refine wl_step (st_calls rfl (run_call rfl Try.call9) (HF1'.out.take hE1 hN2 Hgi.out) ?_)
       rintro _ w41 ⟨v2', b2', rfl, hF2, hE41⟩
       skip
       refine ⟨_, rfl, ?_⟩
       clear hE1
       simp only [Act.put, zA, zB, zC]
       (with_reducible refine' wl_valS ?_ ?_ ?_); rotate_left; exact rfl; exact (v_moveT (.inl rfl) rfl)
       simp only [Act.put, zA, zB, zC]
       (with_reducible refine' wl_valS ?_ ?_ ?_); rotate_left; exact rfl; exact (v_extract rfl rfl rfl)
       simp only [Act.put, zA, zB, zC]
       (with_reducible refine' wl_valS ?_ ?_ ?_); rotate_left; exact rfl; exact (v_extract rfl rfl rfl)
       simp only [Act.put, zA, zB, zC]
       refine wl_step (st_alloc (zs := #[Value.int .i64 0, Value.int .i64 0, Value.slice none 0 0]) hE41 rfl rfl (fun w => by kernel_rfl) ?_)
       intro g20 w42 hb42 hE42
       clear hE41
       simp only [Act.put, zA, zB, zC]
       refine wl_step (st_store (i := 0) hE42 rfl rfl rfl rfl rfl (sz_of (n := 3) (by kernel_rfl) rfl) rfl hone1 ?_)
       intro w43 hE43
       clear hE42
       simp only [List.set_cons_zero] at hE43
       simp only [Act.put, zA, zB, zC]
       (with_reducible refine' wl_valS ?_ ?_ ?_); rotate_left; exact rfl; exact (v_moveT (.inr rfl) rfl)
       simp only [Act.put, zA, zB, zC]
       have HF2' := Lib.hid hF2
       clear hF2
       repeat ((fail_if_success (with_reducible show wpList _ _ _ (List.cons _ _) _ _)); (fail_if_success (with_reducible show Code.wp _ (Code.region _ _ true) _ _ _)); go_step)
       (with_reducible refine' wl_valS ?_ ?_ ?_); rotate_left; exact rfl; exact (v_moveT (.inl rfl) rfl)
       simp only [Act.put, zA, zB, zC]
       (with_reducible refine' wl_valS ?_ ?_ ?_); rotate_left; exact rfl; exact (v_run fun w9 => by go_simp; with_reducible rfl)
       simp only [Act.put, zA, zB, zC]
       (with_reducible refine' wl_valS ?_ ?_ ?_); rotate_left; exact rfl; exact (v_moveT (.inl rfl) rfl)
       simp only [Act.put, zA, zB, zC]
       (with_reducible refine' wl_valS ?_ ?_ ?_); rotate_left; exact rfl; exact (v_load (i := 0) hE43 rfl rfl rfl Try.underlying25 rfl (sz_of (n := 3) (by kernel_rfl) rfl))
       simp only [Act.put, zA, zB, zC]
       (with_reducible refine' wl_valS ?_ ?_ ?_); rotate_left; exact rfl; exact (v_load (i := 0) ((hE43.sub (List.sublist_cons_self _ _)).perm (pk4 ..)) rfl rfl rfl Try.underlying25 rfl (sz_of (n := 3) (by kernel_rfl) rfl))
       simp only [Act.put, zA, zB, zC]
       refine wl_step (st_gives hE43 rfl (run_call rfl Try.call10) (HSame.out _ _ _ _ hsR (hE43.sub (List.sublist_cons_self _ _))) ?_)
       intro w44 hb44 hE44
       clear hE43
       simp only [Act.put, zA, zB, zC]
       (with_reducible refine' wl_valS ?_ ?_ ?_); rotate_left; exact rfl; exact (v_andT rfl rfl rfl)
       simp only [Act.put, zA, zB, zC]
       replace hE44 := (hE44).sub (List.sublist_cons_self _ _)
       rcases hb : (m1.key == pk.key) with _ | _
       ·
        repeat ((fail_if_success (with_reducible show wpList _ _ _ (List.cons _ _) _ _)); (fail_if_success (with_reducible show Code.wp _ (Code.region _ _ true) _ _ _)); (fail_if_success (with_reducible show Code.wp _ (Code.cond _ _ _) _ _ _)); go_step)
        refine wp_cond_false (by first | rfl | exact congrArg Value.bool (decide_eq_false (by omega))) ?_
        skip
        obtain ⟨M2, v2, b2, R2, T2, hEE, hFF, hTT, hTe⟩ : ∃ M2 v2 b2 R2 T2, KE w g1 g0 (1 + q) pk v2 b2 R2 w44 ∧ KF w g0 (1 + q) pk M2 v2 b2 R2 ∧ times pk.key M2 = T2 ∧ T2 = T := ⟨_, _, _, _, _, hE44, HF2'.out, rfl, by rw [Htm.out, hb]; rfl⟩
        subst hTe
        have HF2 := Lib.hid hFF
        have HT2 := Lib.hid hTT
        clear hE44 hFF hTT
        repeat ((fail_if_success (with_reducible show wpList _ _ _ (List.cons _ _) _ _)); (fail_if_success (with_reducible show Code.wp _ (Code.region _ _ true) _ _ _)); go_step)
        (with_reducible refine' wl_valS ?_ ?_ ?_); rotate_left; exact rfl; exact (v_moveC (.inr rfl))
        simp only [Act.put, zA, zB, zC]
        repeat ((fail_if_success (with_reducible show wpList _ _ _ (List.cons _ _) _ _)); (fail_if_success (with_reducible show Code.wp _ (Code.region _ _ true) _ _ _)); go_step)
        (with_reducible refine' wl_valS ?_ ?_ ?_); rotate_left; exact rfl; exact (v_moveT (.inl rfl) rfl)
        simp only [Act.put, zA, zB, zC]
        refine wl_step (st_calls rfl (run_call rfl Try.call8) (HF2.out.list hEE hN2) ?_)
        rintro _ w61 ⟨pX, cX, NX, RX, rfl, hkX, hsX, hE61, hrX, hseX⟩
        skip
        refine ⟨_, rfl, ?_⟩
        clear hEE
        simp only [Act.put, zA, zB, zC]
        (with_reducible refine' wl_valS ?_ ?_ ?_); rotate_left; exact rfl; exact (v_moveT (.inr rfl) rfl)
        simp only [Act.put, zA, zB, zC]
        have HF3 := Lib.hid (HF2.out.more hsX)
        have HkX := Lib.hid hkX
        have HrX := Lib.hid hrX
        have HseX := Lib.hid hseX
        have hlX : NX.length = M2.length := keys_len hkX
        have hM64 : M2.length ≤ 64 := by have := HF3.out.len; omega
        have hM63 : M2.length < 9223372036854775808 := by omega
        have HdX := Lib.hid (keys_digs hkX HF3.out.digs)
        have hst := hE61
        clear hE61 hkX hsX hrX hseX
        repeat ((fail_if_success (with_reducible show wpList _ _ _ (List.cons _ _) _ _)); (fail_if_success (with_reducible show Code.wp _ (Code.region _ _ true) _ _ _)); go_step)
        (with_reducible refine' wl_valS ?_ ?_ ?_); rotate_left; exact rfl; exact (v_moveC (.inr rfl))
        simp only [Act.put, zA, zB, zC]
        go_wp2
        go_loopw [16, 18] (fun t i wr => ∃ k : Nat, k ≤ M2.length ∧ i = .int .i64 k ∧ t = .int .i64 ((times pk.key (NX.take k) : Nat) : Int) ∧ KE w g1 g0 (1 + q) pk v2 b2 RX wr) (fun _ i _ => M2.length - (intOf i).toNat)
        case atStart => exact ⟨0, Nat.zero_le _, rfl, by rw [List.take_zero]; rfl, hst⟩
        case round =>
         clear hst
         obtain ⟨k, hk, rfl, rfl, hE0⟩ := hrel
         obtain ⟨u, hu⟩ : ∃ u, times pk.key (NX.take k) = u := ⟨_, rfl⟩
         have hu64 : u ≤ 64 := by
          have := times_le pk.key (NX.take k)
          rw [hu, List.length_take] at this
          omega
         rw [hu]
         by_cases hkl : k < M2.length
         ·
          have d3 := Lib.hid (decide_eq_true hkl)
          have hgx : NX[k]? = some NX[k] := List.getElem?_eq_getElem (by omega)
          obtain ⟨m5, hme⟩ : ∃ m, NX[k] = m := ⟨_, rfl⟩
          rw [hme] at hgx
          have hm5 : m5 ∈ NX := List.mem_of_getElem? hgx
          obtain ⟨b5, off5, rfl, -⟩ := (HrX.out _ (KE.rest hE0)).elem hkl
          have hran5 : ∀ w', KE w g1 g0 (1 + q) pk v2 b2 RX w' → ∀ w1, Below w'.heap.size w' w1 → w1.rangeAt b5 (off5 + k * 3) [.int .i64 m5.fr, .int .i64 m5.to, m5.sl] := fun w' hE' w1 hb1 => by
           obtain ⟨b', off', he, hr⟩ := (HrX.out _ (KE.rest hE')).elem hkl
           injection he with he
           injection he with h1 h2 _
           subst h1 h2
           have := hr w1 hb1
           rwa [pcells_at hgx] at this
          have Hran5 := Lib.hid hran5
          have HSame5 : Hid (∀ w', KE w g1 g0 (1 + q) pk v2 b2 RX w' → Gives 10 #[pkv m5, pkv pk] w' (.bool (m5.key == pk.key))) := Lib.hid (fun w' hE' => by
           have h := Same_any (f1 := m5.fr) (t1 := m5.to) (f2 := pk.fr) (t2 := pk.to) (HseX.out m5 hm5 _ (KE.rest hE')) (HP.out.1.below hE'.below) (HdX.out m5 hm5).1 HP.out.2.1
           rwa [same_key] at h)
          have Htt := Lib.hid (times_take (k := pk.key) hgx)
          have Hu := Lib.hid hu
          clear hran5 hme hgx hu
          repeat ((fail_if_success (with_reducible show wpList _ _ _ (List.cons _ _) _ _)); (fail_if_success (with_reducible show Code.wp _ (Code.region _ _ true) _ _ _)); go_step)
          (with_reducible refine' wl_valS ?_ ?_ ?_); rotate_left; exact rfl; exact (v_moveT (.inl rfl) rfl)
          simp only [Act.put, zA, zB, zC]
          (with_reducible refine' wl_valS ?_ ?_ ?_); rotate_left; exact rfl; exact (v_moveT (.inl rfl) rfl)
          simp only [Act.put, zA, zB, zC]
          (with_reducible refine' wl_valS ?_ ?_ ?_); rotate_left; exact rfl; exact (v_len rfl rfl Try.underlying33 hM63)
          simp only [Act.put, zA, zB, zC]
          (with_reducible refine' wl_valS ?_ ?_ ?_); rotate_left; exact rfl; exact (v_lss rfl rfl rfl)
          simp only [Act.put, zA, zB, zC]
          rw [d3.out]
          repeat ((fail_if_success (with_reducible show wpList _ _ _ (List.cons _ _) _ _)); (fail_if_success (with_reducible show Code.wp _ (Code.region _ _ true) _ _ _)); (fail_if_success (with_reducible show Code.wp _ (Code.cond _ _ _) _ _ _)); go_step)
          refine wp_cond_true (by first | rfl | exact congrArg Value.bool (decide_eq_true (by omega))) ?_
          skip
          repeat ((fail_if_success (with_reducible show wpList _ _ _ (List.cons _ _) _ _)); (fail_if_success (with_reducible show Code.wp _ (Code.region _ _ true) _ _ _)); go_step)
          refine wp_region_B (n := 6) 6 (by kernel_rfl) rfl hE0 ?_
          intro w1 hb1 hE1
          clear hE0
          refine wpB_take (i := 0) (by kernel_rfl) rfl (by kernel_rfl) (fun _ _ _ h => h) rfl (v_moveT (.inl rfl) rfl) ?_
          simp only [Act.put, zA, zB, zC]
          refine wpB_take (i := 1) (by kernel_rfl) rfl (by kernel_rfl) (fun _ _ _ h => h) rfl (v_moveT (.inl rfl) rfl) ?_
          simp only [Act.put, zA, zB, zC]
          refine wpB_take (i := 2) (by kernel_rfl) rfl (by kernel_rfl) (fun _ _ _ h => h) rfl (v_indexSs (s := 3) rfl rfl rfl Try.underlying33 (by kernel_rfl) hkl) ?_
          simp only [Act.put, zA, zB, zC]
          refine wpB_take (i := 3) (by kernel_rfl) rfl (by kernel_rfl) (fun _ _ _ h => h) rfl (v_loadMid (cs := #[.int .i64 m5.fr, .int .i64 m5.to, m5.sl]) rfl rfl (Hran5.out _ hE1) Try.underlying25 rfl (by kernel_rfl)) ?_
          simp only [Act.put, zA, zB, zC]
          refine wpB_take (i := 4) (by kernel_rfl) rfl (by kernel_rfl) (fun _ _ _ h => h) rfl (v_load (i := 0) (hE1.perm (pk4 ..)) rfl rfl rfl Try.underlying25 rfl (sz_of (n := 3) (by kernel_rfl) rfl)) ?_
          simp only [Act.put, zA, zB, zC]
          refine wpB_step (i := 5) (by kernel_rfl) rfl (st_gives hE1 rfl (run_call rfl Try.call10) (HSame5.out _ hE1) ?_)
          intro w2 hb2 hE2
          clear hE1
          refine ⟨fun _ => hb2, ?_⟩
          simp only [Act.put, zA, zB, zC]
          refine wpB_done (by kernel_rfl) ?_ _
          rcases hb : (m5.key == pk.key) with _ | _
          ·
           repeat ((fail_if_success (with_reducible show wpList _ _ _ (List.cons _ _) _ _)); (fail_if_success (with_reducible show Code.wp _ (Code.region _ _ true) _ _ _)); (fail_if_success (with_reducible show Code.wp _ (Code.cond _ _ _) _ _ _)); go_step)
           refine wp_cond_false (by first | rfl | exact congrArg Value.bool (decide_eq_false (by omega))) ?_
           skip
           repeat ((fail_if_success (with_reducible show wpList _ _ _ (List.cons _ _) _ _)); (fail_if_success (with_reducible show Code.wp _ (Code.region _ _ true) _ _ _)); go_step)
           (with_reducible refine' wl_valS ?_ ?_ ?_); rotate_left; exact rfl; exact (v_moveT (.inl rfl) rfl)
           simp only [Act.put, zA, zB, zC]
           (with_reducible refine' wl_valS ?_ ?_ ?_); rotate_left; exact rfl; exact (v_add (n := 1) rfl rfl rfl (w_i64 (by omega)))
           simp only [Act.put, zA, zB, zC]
           (with_reducible refine' wl_valS ?_ ?_ ?_); rotate_left; exact rfl; exact (v_moveT (.inr rfl) rfl)
           simp only [Act.put, zA, zB, zC]
           go_wp2
           go_roundw
           case rel => exact ⟨k + 1, by omega, rfl, by rw [Htt.out, Hu.out, hb]; rfl, hE2⟩
           case measure => simp [intOf]; omega
          ·
           repeat ((fail_if_success (with_reducible show wpList _ _ _ (List.cons _ _) _ _)); (fail_if_success (with_reducible show Code.wp _ (Code.region _ _ true) _ _ _)); (fail_if_success (with_reducible show Code.wp _ (Code.cond _ _ _) _ _ _)); go_step)
           refine wp_cond_true (by first | rfl | exact congrArg Value.bool (decide_eq_true (by omega))) ?_
           skip
           repeat ((fail_if_success (with_reducible show wpList _ _ _ (List.cons _ _) _ _)); (fail_if_success (with_reducible show Code.wp _ (Code.region _ _ true) _ _ _)); go_step)
           (with_reducible refine' wl_valS ?_ ?_ ?_); rotate_left; exact rfl; exact (v_moveT (.inl rfl) rfl)
           simp only [Act.put, zA, zB, zC]
           (with_reducible refine' wl_valS ?_ ?_ ?_); rotate_left; exact rfl; exact (v_add (n := 1) rfl rfl rfl (w_i64 (by omega)))
           simp only [Act.put, zA, zB, zC]
           (with_reducible refine' wl_valS ?_ ?_ ?_); rotate_left; exact rfl; exact (v_moveT (.inr rfl) rfl)
           simp only [Act.put, zA, zB, zC]
           repeat ((fail_if_success (with_reducible show wpList _ _ _ (List.cons _ _) _ _)); (fail_if_success (with_reducible show Code.wp _ (Code.region _ _ true) _ _ _)); go_step)
           (with_reducible refine' wl_valS ?_ ?_ ?_); rotate_left; exact rfl; exact (v_moveT (.inl rfl) rfl)
           simp only [Act.put, zA, zB, zC]
           (with_reducible refine' wl_valS ?_ ?_ ?_); rotate_left; exact rfl; exact (v_add (n := 1) rfl rfl rfl (w_i64 (by omega)))
           simp only [Act.put, zA, zB, zC]
           (with_reducible refine' wl_valS ?_ ?_ ?_); rotate_left; exact rfl; exact (v_moveT (.inr rfl) rfl)
           simp only [Act.put, zA, zB, zC]
           go_wp2
           go_roundw
           case rel => exact ⟨k + 1, by omega, rfl, by rw [Htt.out, Hu.out, hb]; rfl, hE2⟩
           case measure => simp [intOf]; omega
         ·
          have hk' : k = M2.length := by omega
          subst hk'
          have d3 := Lib.hid (decide_eq_false hkl)
          have hut : u = T2 := by
           rw [← hu, ← HT2.out, List.take_of_length_le (by omega)]
           exact times_keys HkX.out
          subst hut
          have d5 := Lib.hid (decide_eq_false (show ¬ 1 + q < M2.length by have := HF3.out.len; omega))
          clear hu
          repeat ((fail_if_success (with_reducible show wpList _ _ _ (List.cons _ _) _ _)); (fail_if_success (with_reducible show Code.wp _ (Code.region _ _ true) _ _ _)); go_step)
          (with_reducible refine' wl_valS ?_ ?_ ?_); rotate_left; exact rfl; exact (v_moveT (.inl rfl) rfl)
          simp only [Act.put, zA, zB, zC]
          (with_reducible refine' wl_valS ?_ ?_ ?_); rotate_left; exact rfl; exact (v_moveT (.inl rfl) rfl)
          simp only [Act.put, zA, zB, zC]
          (with_reducible refine' wl_valS ?_ ?_ ?_); rotate_left; exact rfl; exact (v_len rfl rfl Try.underlying33 hM63)
          simp only [Act.put, zA, zB, zC]
          (with_reducible refine' wl_valS ?_ ?_ ?_); rotate_left; exact rfl; exact (v_lss rfl rfl rfl)
          simp only [Act.put, zA, zB, zC]
          rw [d3.out]
          repeat ((fail_if_success (with_reducible show wpList _ _ _ (List.cons _ _) _ _)); (fail_if_success (with_reducible show Code.wp _ (Code.region _ _ true) _ _ _)); (fail_if_success (with_reducible show Code.wp _ (Code.cond _ _ _) _ _ _)); go_step)
          refine wp_cond_false (by first | rfl | exact congrArg Value.bool (decide_eq_false (by omega))) ?_
          skip
          repeat ((fail_if_success (with_reducible show wpList _ _ _ (List.cons _ _) _ _)); (fail_if_success (with_reducible show Code.wp _ (Code.region _ _ true) _ _ _)); go_step)
          (with_reducible refine' wl_valS ?_ ?_ ?_); rotate_left; exact rfl; exact (v_moveT (.inl rfl) rfl)
          simp only [Act.put, zA, zB, zC]
          (with_reducible refine' wl_valS ?_ ?_ ?_); rotate_left; exact rfl; exact (v_moveT (.inl rfl) rfl)
          simp only [Act.put, zA, zB, zC]
          (with_reducible refine' wl_valS ?_ ?_ ?_); rotate_left; exact rfl; exact (v_neqS rfl rfl rfl)
          simp only [Act.put, zA, zB, zC]
          (with_reducible refine' wl_valS ?_ ?_ ?_); rotate_left; exact rfl; exact (v_moveT (.inl rfl) rfl)
          simp only [Act.put, zA, zB, zC]
          (with_reducible refine' wl_valS ?_ ?_ ?_); rotate_left; exact rfl; exact (v_moveT (.inl rfl) rfl)
          simp only [Act.put, zA, zB, zC]
          (with_reducible refine' wl_valS ?_ ?_ ?_); rotate_left; exact rfl; exact (v_len rfl rfl Try.underlying33 hM63)
          simp only [Act.put, zA, zB, zC]
          (with_reducible refine' wl_valS ?_ ?_ ?_); rotate_left; exact rfl; exact (v_moveT (.inl rfl) rfl)
          simp only [Act.put, zA, zB, zC]
          (with_reducible refine' wl_valS ?_ ?_ ?_); rotate_left; exact rfl; exact (v_rem (n := 64) rfl rfl rfl (by omega))
          simp only [Act.put, zA, zB, zC]
          rw [HQ.out]
          (with_reducible refine' wl_valS ?_ ?_ ?_); rotate_left; exact rfl; exact (v_convInt rfl rfl Try.underlying5 Try.underlying3 (w_i64 (by omega)))
          simp only [Act.put, zA, zB, zC]
          (with_reducible refine' wl_valS ?_ ?_ ?_); rotate_left; exact rfl; exact (v_add (m := 1) rfl rfl rfl (w_i64 (by omega)))
          simp only [Act.put, zA, zB, zC]
          (with_reducible refine' wl_valS ?_ ?_ ?_); rotate_left; exact rfl; exact (v_gtr rfl rfl rfl)
          simp only [Act.put, zA, zB, zC]
          rw [d5.out]
          (with_reducible refine' wl_valS ?_ ?_ ?_); rotate_left; exact rfl; exact (v_orF rfl rfl rfl)
          simp only [Act.put, zA, zB, zC]
          repeat ((fail_if_success (with_reducible show wpList _ _ _ (List.cons _ _) _ _)); (fail_if_success (with_reducible show Code.wp _ (Code.region _ _ true) _ _ _)); (fail_if_success (with_reducible show Code.wp _ (Code.cond _ _ _) _ _ _)); go_step)
          refine wp_cond_false (by first | rfl | exact congrArg Value.bool (decide_eq_false (by omega))) ?_
          skip
          repeat ((fail_if_success (with_reducible show wpList _ _ _ (List.cons _ _) _ _)); (fail_if_success (with_reducible show Code.wp _ (Code.region _ _ true) _ _ _)); go_step)
          (with_reducible refine' wl_valS ?_ ?_ ?_); rotate_left; exact rfl; exact (v_moveT (.inl rfl) rfl)
          simp only [Act.put, zA, zB, zC]
          (with_reducible refine' wl_valS ?_ ?_ ?_); rotate_left; exact rfl; exact (v_add (n := 1) rfl rfl rfl (w_i64 (by omega)))
          simp only [Act.put, zA, zB, zC]
          (with_reducible refine' wl_valS ?_ ?_ ?_); rotate_left; exact rfl; exact (v_moveT (.inr rfl) rfl)
          simp only [Act.put, zA, zB, zC]
          go_wp2
          go_roundw
          case rel => exact ⟨j + 1, M2, v2, b2, RX, by omega, rfl, by rw [HT2.out], HF3.out, hE0⟩
          case measure => simp [intOf]; omega
       ·
        repeat ((fail_if_success (with_reducible show wpList _ _ _ (List.cons _ _) _ _)); (fail_if_success (with_reducible show Code.wp _ (Code.region _ _ true) _ _ _)); (fail_if_success (with_reducible show Code.wp _ (Code.cond _ _ _) _ _ _)); go_step)
        refine wp_cond_true (by first | rfl | exact congrArg Value.bool (decide_eq_true (by omega))) ?_
        skip
        obtain ⟨U, hU⟩ : ∃ U, times pk.key (M.eraseIdx idx) = U := ⟨_, rfl⟩
        have hTU : T = U + 1 := by rw [Htm.out, hb, hU]; rfl
        have hU6 : U < 1000000 := by
         have h1 := times_le pk.key (M.eraseIdx idx)
         have h2 := List.length_eraseIdx_le M idx
         omega
        subst hTU
        repeat ((fail_if_success (with_reducible show wpList _ _ _ (List.cons _ _) _ _)); (fail_if_success (with_reducible show Code.wp _ (Code.region _ _ true) _ _ _)); go_step)
        (with_reducible refine' wl_valS ?_ ?_ ?_); rotate_left; exact rfl; exact (v_moveT (.inl rfl) rfl)
        simp only [Act.put, zA, zB, zC]
        (with_reducible refine' wl_valS ?_ ?_ ?_); rotate_left; exact rfl; exact (v_subS rfl rfl rfl hU6)
        simp only [Act.put, zA, zB, zC]
        (with_reducible refine' wl_valS ?_ ?_ ?_); rotate_left; exact rfl; exact (v_moveT (.inr rfl) rfl)
        simp only [Act.put, zA, zB, zC]
        obtain ⟨M2, v2, b2, R2, T2, hEE, hFF, hTT, hTe⟩ : ∃ M2 v2 b2 R2 T2, KE w g1 g0 (1 + q) pk v2 b2 R2 w44 ∧ KF w g0 (1 + q) pk M2 v2 b2 R2 ∧ times pk.key M2 = T2 ∧ T2 = U := ⟨_, _, _, _, _, hE44, HF2'.out, hU, rfl⟩
        subst hTe
        have HF2 := Lib.hid hFF
        have HT2 := Lib.hid hTT
        clear hE44 hFF hTT
        repeat ((fail_if_success (with_reducible show wpList _ _ _ (List.cons _ _) _ _)); (fail_if_success (with_reducible show Code.wp _ (Code.region _ _ true) _ _ _)); go_step)
        (with_reducible refine' wl_valS ?_ ?_ ?_); rotate_left; exact rfl; exact (v_moveC (.inr rfl))
        simp only [Act.put, zA, zB, zC]
        repeat ((fail_if_success (with_reducible show wpList _ _ _ (List.cons _ _) _ _)); (fail_if_success (with_reducible show Code.wp _ (Code.region _ _ true) _ _ _)); go_step)
        (with_reducible refine' wl_valS ?_ ?_ ?_); rotate_left; exact rfl; exact (v_moveT (.inl rfl) rfl)
        simp only [Act.put, zA, zB, zC]
        refine wl_step (st_calls rfl (run_call rfl Try.call8) (HF2.out.list hEE hN2) ?_)
        rintro _ w61 ⟨pX, cX, NX, RX, rfl, hkX, hsX, hE61, hrX, hseX⟩
        skip
        refine ⟨_, rfl, ?_⟩
        clear hEE
        simp only [Act.put, zA, zB, zC]
        (with_reducible refine' wl_valS ?_ ?_ ?_); rotate_left; exact rfl; exact (v_moveT (.inr rfl) rfl)
        simp only [Act.put, zA, zB, zC]
        have HF3 := Lib.hid (HF2.out.more hsX)
        have HkX := Lib.hid hkX
        have HrX := Lib.hid hrX
        have HseX := Lib.hid hseX
        have hlX : NX.length = M2.length := keys_len hkX
        have hM64 : M2.length ≤ 64 := by have := HF3.out.len; omega
        have hM63 : M2.length < 9223372036854775808 := by omega
        have HdX := Lib.hid (keys_digs hkX HF3.out.digs)
        have hst := hE61
        clear hE61 hkX hsX hrX hseX
        repeat ((fail_if_success (with_reducible show wpList _ _ _ (List.cons _ _) _ _)); (fail_if_success (with_reducible show Code.wp _ (Code.region _ _ true) _ _ _)); go_step)
        (with_reducible refine' wl_valS ?_ ?_ ?_); rotate_left; exact rfl; exact (v_moveC (.inr rfl))
        simp only [Act.put, zA, zB, zC]
        go_wp2
        go_loopw [16, 18] (fun t i wr => ∃ k : Nat, k ≤ M2.length ∧ i = .int .i64 k ∧ t = .int .i64 ((times pk.key (NX.take k) : Nat) : Int) ∧ KE w g1 g0 (1 + q) pk v2 b2 RX wr) (fun _ i _ => M2.length - (intOf i).toNat)
        case atStart => exact ⟨0, Nat.zero_le _, rfl, by rw [List.take_zero]; rfl, hst⟩
        case round =>
         clear hst
         obtain ⟨k, hk, rfl, rfl, hE0⟩ := hrel
         obtain ⟨u, hu⟩ : ∃ u, times pk.key (NX.take k) = u := ⟨_, rfl⟩
         have hu64 : u ≤ 64 := by
          have := times_le pk.key (NX.take k)
          rw [hu, List.length_take] at this
          omega
         rw [hu]
         by_cases hkl : k < M2.length
         ·
          have d3 := Lib.hid (decide_eq_true hkl)
          have hgx : NX[k]? = some NX[k] := List.getElem?_eq_getElem (by omega)
          obtain ⟨m5, hme⟩ : ∃ m, NX[k] = m := ⟨_, rfl⟩
          rw [hme] at hgx
          have hm5 : m5 ∈ NX := List.mem_of_getElem? hgx
          obtain ⟨b5, off5, rfl, -⟩ := (HrX.out _ (KE.rest hE0)).elem hkl
          have hran5 : ∀ w', KE w g1 g0 (1 + q) pk v2 b2 RX w' → ∀ w1, Below w'.heap.size w' w1 → w1.rangeAt b5 (off5 + k * 3) [.int .i64 m5.fr, .int .i64 m5.to, m5.sl] := fun w' hE' w1 hb1 => by
           obtain ⟨b', off', he, hr⟩ := (HrX.out _ (KE.rest hE')).elem hkl
           injection he with he
           injection he with h1 h2 _
           subst h1 h2
           have := hr w1 hb1
           rwa [pcells_at hgx] at this
          have Hran5 := Lib.hid hran5
          have HSame5 : Hid (∀ w', KE w g1 g0 (1 + q) pk v2 b2 RX w' → Gives 10 #[pkv m5, pkv pk] w' (.bool (m5.key == pk.key))) := Lib.hid (fun w' hE' => by
           have h := Same_any (f1 := m5.fr) (t1 := m5.to) (f2 := pk.fr) (t2 := pk.to) (HseX.out m5 hm5 _ (KE.rest hE')) (HP.out.1.below hE'.below) (HdX.out m5 hm5).1 HP.out.2.1
           rwa [same_key] at h)
          have Htt := Lib.hid (times_take (k := pk.key) hgx)
          have Hu := Lib.hid hu
          clear hran5 hme hgx hu
          repeat ((fail_if_success (with_reducible show wpList _ _ _ (List.cons _ _) _ _)); (fail_if_success (with_reducible show Code.wp _ (Code.region _ _ true) _ _ _)); go_step)
          (with_reducible refine' wl_valS ?_ ?_ ?_); rotate_left; exact rfl; exact (v_moveT (.inl rfl) rfl)
          simp only [Act.put, zA, zB, zC]
          (with_reducible refine' wl_valS ?_ ?_ ?_); rotate_left; exact rfl; exact (v_moveT (.inl rfl) rfl)
          simp only [Act.put, zA, zB, zC]
          (with_reducible refine' wl_valS ?_ ?_ ?_); rotate_left; exact rfl; exact (v_len rfl rfl Try.underlying33 hM63)
          simp only [Act.put, zA, zB, zC]
          (with_reducible refine' wl_valS ?_ ?_ ?_); rotate_left; exact rfl; exact (v_lss rfl rfl rfl)
          simp only [Act.put, zA, zB, zC]
          rw [d3.out]
          repeat ((fail_if_success (with_reducible show wpList _ _ _ (List.cons _ _) _ _)); (fail_if_success (with_reducible show Code.wp _ (Code.region _ _ true) _ _ _)); (fail_if_success (with_reducible show Code.wp _ (Code.cond _ _ _) _ _ _)); go_step)
          refine wp_cond_true (by first | rfl | exact congrArg Value.bool (decide_eq_true (by omega))) ?_
          skip
          repeat ((fail_if_success (with_reducible show wpList _ _ _ (List.cons _ _) _ _)); (fail_if_success (with_reducible show Code.wp _ (Code.region _ _ true) _ _ _)); go_step)
          refine wp_region_B (n := 6) 6 (by kernel_rfl) rfl hE0 ?_
          intro w1 hb1 hE1
          clear hE0
          refine wpB_take (i := 0) (by kernel_rfl) rfl (by kernel_rfl) (fun _ _ _ h => h) rfl (v_moveT (.inl rfl) rfl) ?_
          simp only [Act.put, zA, zB, zC]
          refine wpB_take (i := 1) (by kernel_rfl) rfl (by kernel_rfl) (fun _ _ _ h => h) rfl (v_moveT (.inl rfl) rfl) ?_
          simp only [Act.put, zA, zB, zC]
          refine wpB_take (i := 2) (by kernel_rfl) rfl (by kernel_rfl) (fun _ _ _ h => h) rfl (v_indexSs (s := 3) rfl rfl rfl Try.underlying33 (by kernel_rfl) hkl) ?_
          simp only [Act.put, zA, zB, zC]
          refine wpB_take (i := 3) (by kernel_rfl) rfl (by kernel_rfl) (fun _ _ _ h => h) rfl (v_loadMid (cs := #[.int .i64 m5.fr, .int .i64 m5.to, m5.sl]) rfl rfl (Hran5.out _ hE1) Try.underlying25 rfl (by kernel_rfl)) ?_
          simp only [Act.put, zA, zB, zC]
          refine wpB_take (i := 4) (by kernel_rfl) rfl (by kernel_rfl) (fun _ _ _ h => h) rfl (v_load (i := 0) (hE1.perm (pk4 ..)) rfl rfl rfl Try.underlying25 rfl (sz_of (n := 3) (by kernel_rfl) rfl)) ?_
          simp only [Act.put, zA, zB, zC]
          refine wpB_step (i := 5) (by kernel_rfl) rfl (st_gives hE1 rfl (run_call rfl Try.call10) (HSame5.out _ hE1) ?_)
          intro w2 hb2 hE2
          clear hE1
          refine ⟨fun _ => hb2, ?_⟩
          simp only [Act.put, zA, zB, zC]
          refine wpB_done (by kernel_rfl) ?_ _
          rcases hb : (m5.key == pk.key) with _ | _
          ·
           repeat ((fail_if_success (with_reducible show wpList _ _ _ (List.cons _ _) _ _)); (fail_if_success (with_reducible show Code.wp _ (Code.region _ _ true) _ _ _)); (fail_if_success (with_reducible show Code.wp _ (Code.cond _ _ _) _ _ _)); go_step)
           refine wp_cond_false (by first | rfl | exact congrArg Value.bool (decide_eq_false (by omega))) ?_
           skip
           repeat ((fail_if_success (with_reducible show wpList _ _ _ (List.cons _ _) _ _)); (fail_if_success (with_reducible show Code.wp _ (Code.region _ _ true) _ _ _)); go_step)
           (with_reducible refine' wl_valS ?_ ?_ ?_); rotate_left; exact rfl; exact (v_moveT (.inl rfl) rfl)
           simp only [Act.put, zA, zB, zC]
           (with_reducible refine' wl_valS ?_ ?_ ?_); rotate_left; exact rfl; exact (v_add (n := 1) rfl rfl rfl (w_i64 (by omega)))
           simp only [Act.put, zA, zB, zC]
           (with_reducible refine' wl_valS ?_ ?_ ?_); rotate_left; exact rfl; exact (v_moveT (.inr rfl) rfl)
           simp only [Act.put, zA, zB, zC]
           go_wp2
           go_roundw
           case rel => exact ⟨k + 1, by omega, rfl, by rw [Htt.out, Hu.out, hb]; rfl, hE2⟩
           case measure => simp [intOf]; omega
          ·
           repeat ((fail_if_success (with_reducible show wpList _ _ _ (List.cons _ _) _ _)); (fail_if_success (with_reducible show Code.wp _ (Code.region _ _ true) _ _ _)); (fail_if_success (with_reducible show Code.wp _ (Code.cond _ _ _) _ _ _)); go_step)
           refine wp_cond_true (by first | rfl | exact congrArg Value.bool (decide_eq_true (by omega))) ?_
           skip
           repeat ((fail_if_success (with_reducible show wpList _ _ _ (List.cons _ _) _ _)); (fail_if_success (with_reducible show Code.wp _ (Code.region _ _ true) _ _ _)); go_step)
           (with_reducible refine' wl_valS ?_ ?_ ?_); rotate_left; exact rfl; exact (v_moveT (.inl rfl) rfl)
           simp only [Act.put, zA, zB, zC]
           (with_reducible refine' wl_valS ?_ ?_ ?_); rotate_left; exact rfl; exact (v_add (n := 1) rfl rfl rfl (w_i64 (by omega)))
           simp only [Act.put, zA, zB, zC]
           (with_reducible refine' wl_valS ?_ ?_ ?_); rotate_left; exact rfl; exact (v_moveT (.inr rfl) rfl)
           simp only [Act.put, zA, zB, zC]
           repeat ((fail_if_success (with_reducible show wpList _ _ _ (List.cons _ _) _ _)); (fail_if_success (with_reducible show Code.wp _ (Code.region _ _ true) _ _ _)); go_step)
           (with_reducible refine' wl_valS ?_ ?_ ?_); rotate_left; exact rfl; exact (v_moveT (.inl rfl) rfl)
           simp only [Act.put, zA, zB, zC]
           (with_reducible refine' wl_valS ?_ ?_ ?_); rotate_left; exact rfl; exact (v_add (n := 1) rfl rfl rfl (w_i64 (by omega)))
           simp only [Act.put, zA, zB, zC]
           (with_reducible refine' wl_valS ?_ ?_ ?_); rotate_left; exact rfl; exact (v_moveT (.inr rfl) rfl)
           simp only [Act.put, zA, zB, zC]
           go_wp2
           go_roundw
           case rel => exact ⟨k + 1, by omega, rfl, by rw [Htt.out, Hu.out, hb]; rfl, hE2⟩
           case measure => simp [intOf]; omega
         ·
          have hk' : k = M2.length := by omega
          subst hk'
          have d3 := Lib.hid (decide_eq_false hkl)
          have hut : u = T2 := by
           rw [← hu, ← HT2.out, List.take_of_length_le (by omega)]
           exact times_keys HkX.out
          subst hut
          have d5 := Lib.hid (decide_eq_false (show ¬ 1 + q < M2.length by have := HF3.out.len; omega))
          clear hu
          repeat ((fail_if_success (with_reducible show wpList _ _ _ (List.cons _ _) _ _)); (fail_if_success (with_reducible show Code.wp _ (Code.region _ _ true) _ _ _)); go_step)
          (with_reducible refine' wl_valS ?_ ?_ ?_); rotate_left; exact rfl; exact (v_moveT (.inl rfl) rfl)
          simp only [Act.put, zA, zB, zC]
          (with_reducible refine' wl_valS ?_ ?_ ?_); rotate_left; exact rfl; exact (v_moveT (.inl rfl) rfl)
          simp only [Act.put, zA, zB, zC]
          (with_reducible refine' wl_valS ?_ ?_ ?_); rotate_left; exact rfl; exact (v_len rfl rfl Try.underlying33 hM63)
          simp only [Act.put, zA, zB, zC]
          (with_reducible refine' wl_valS ?_ ?_ ?_); rotate_left; exact rfl; exact (v_lss rfl rfl rfl)
          simp only [Act.put, zA, zB, zC]
          rw [d3.out]
          repeat ((fail_if_success (with_reducible show wpList _ _ _ (List.cons _ _) _ _)); (fail_if_success (with_reducible show Code.wp _ (Code.region _ _ true) _ _ _)); (fail_if_success (with_reducible show Code.wp _ (Code.cond _ _ _) _ _ _)); go_step)
          refine wp_cond_false (by first | rfl | exact congrArg Value.bool (decide_eq_false (by omega))) ?_
          skip
          repeat ((fail_if_success (with_reducible show wpList _ _ _ (List.cons _ _) _ _)); (fail_if_success (with_reducible show Code.wp _ (Code.region _ _ true) _ _ _)); go_step)
          (with_reducible refine' wl_valS ?_ ?_ ?_); rotate_left; exact rfl; exact (v_moveT (.inl rfl) rfl)
          simp only [Act.put, zA, zB, zC]
          (with_reducible refine' wl_valS ?_ ?_ ?_); rotate_left; exact rfl; exact (v_moveT (.inl rfl) rfl)
          simp only [Act.put, zA, zB, zC]
          (with_reducible refine' wl_valS ?_ ?_ ?_); rotate_left; exact rfl; exact (v_neqS rfl rfl rfl)
          simp only [Act.put, zA, zB, zC]
          (with_reducible refine' wl_valS ?_ ?_ ?_); rotate_left; exact rfl; exact (v_moveT (.inl rfl) rfl)
          simp only [Act.put, zA, zB, zC]
          (with_reducible refine' wl_valS ?_ ?_ ?_); rotate_left; exact rfl; exact (v_moveT (.inl rfl) rfl)
          simp only [Act.put, zA, zB, zC]
          (with_reducible refine' wl_valS ?_ ?_ ?_); rotate_left; exact rfl; exact (v_len rfl rfl Try.underlying33 hM63)
          simp only [Act.put, zA, zB, zC]
          (with_reducible refine' wl_valS ?_ ?_ ?_); rotate_left; exact rfl; exact (v_moveT (.inl rfl) rfl)
          simp only [Act.put, zA, zB, zC]
          (with_reducible refine' wl_valS ?_ ?_ ?_); rotate_left; exact rfl; exact (v_rem (n := 64) rfl rfl rfl (by omega))
          simp only [Act.put, zA, zB, zC]
          rw [HQ.out]
          (with_reducible refine' wl_valS ?_ ?_ ?_); rotate_left; exact rfl; exact (v_convInt rfl rfl Try.underlying5 Try.underlying3 (w_i64 (by omega)))
          simp only [Act.put, zA, zB, zC]
          (with_reducible refine' wl_valS ?_ ?_ ?_); rotate_left; exact rfl; exact (v_add (m := 1) rfl rfl rfl (w_i64 (by omega)))
          simp only [Act.put, zA, zB, zC]
          (with_reducible refine' wl_valS ?_ ?_ ?_); rotate_left; exact rfl; exact (v_gtr rfl rfl rfl)
          simp only [Act.put, zA, zB, zC]
          rw [d5.out]
          (with_reducible refine' wl_valS ?_ ?_ ?_); rotate_left; exact rfl; exact (v_orF rfl rfl rfl)
          simp only [Act.put, zA, zB, zC]
          repeat ((fail_if_success (with_reducible show wpList _ _ _ (List.cons _ _) _ _)); (fail_if_success (with_reducible show Code.wp _ (Code.region _ _ true) _ _ _)); (fail_if_success (with_reducible show Code.wp _ (Code.cond _ _ _) _ _ _)); go_step)
          refine wp_cond_false (by first | rfl | exact congrArg Value.bool (decide_eq_false (by omega))) ?_
          skip
          repeat ((fail_if_success (with_reducible show wpList _ _ _ (List.cons _ _) _ _)); (fail_if_success (with_reducible show Code.wp _ (Code.region _ _ true) _ _ _)); go_step)
          (with_reducible refine' wl_valS ?_ ?_ ?_); rotate_left; exact rfl; exact (v_moveT (.inl rfl) rfl)
          simp only [Act.put, zA, zB, zC]
          (with_reducible refine' wl_valS ?_ ?_ ?_); rotate_left; exact rfl; exact (v_add (n := 1) rfl rfl rfl (w_i64 (by omega)))
          simp only [Act.put, zA, zB, zC]
          (with_reducible refine' wl_valS ?_ ?_ ?_); rotate_left; exact rfl; exact (v_moveT (.inr rfl) rfl)
          simp only [Act.put, zA, zB, zC]
          go_wp2
          go_roundw
          case rel => exact ⟨j + 1, M2, v2, b2, RX, by omega, rfl, by rw [HT2.out], HF3.out, hE0⟩
          case measure => simp [intOf]; omega
      ·
       repeat ((fail_if_success (with_reducible show wpList _ _ _ (List.cons _ _) _ _)); (fail_if_success (with_reducible show Code.wp _ (Code.region _ _ true) _ _ _)); go_step)
       (with_reducible refine' wl_valS ?_ ?_ ?_); rotate_left; exact rfl; exact (v_moveT (.inl rfl) rfl)
       simp only [Act.put, zA, zB, zC]
       (with_reducible refine' wl_valS ?_ ?_ ?_); rotate_left; exact rfl; exact (v_fieldB (s := 0) rfl rfl Try.underlying36 rfl (by kernel_rfl) rfl)
       simp only [Act.put, zA, zB, zC]
       (with_reducible refine' wl_valS ?_ ?_ ?_); rotate_left; exact rfl; exact (v_cellB (v := .int .i64 o.i) (i := 0) (HO2.out _ _ _ _ hsR hE1) rfl rfl rfl Try.underlying3 rfl rfl)
       simp only [Act.put, zA, zB, zC]
       refine wl_step (st_gives hE1 rfl (run_call rfl Try.call9) (Take_out (hE1.get (i := 0) rfl) hMl hin) ?_)
       intro w41 hb41 hE41
       clear hE1
       simp only [Act.put, zA, zB, zC]
       (with_reducible refine' wl_valS ?_ ?_ ?_); rotate_left; exact rfl; exact (v_moveT (.inl rfl) rfl)
       simp only [Act.put, zA, zB, zC]
       (with_reducible refine' wl_valS ?_ ?_ ?_); rotate_left; exact rfl; exact (v_extract rfl rfl rfl)
       simp only [Act.put, zA, zB, zC]
       (with_reducible refine' wl_valS ?_ ?_ ?_); rotate_left; exact rfl; exact (v_extract rfl rfl rfl)
       simp only [Act.put, zA, zB, zC]
       refine wl_step (st_alloc (zs := #[Value.int .i64 0, Value.int .i64 0, Value.slice none 0 0]) hE41 rfl rfl (fun w => by kernel_rfl) ?_)
       intro g20 w42 hb42 hE42
       clear hE41
       simp only [Act.put, zA, zB, zC]
       refine wl_step (st_store (i := 0) hE42 rfl rfl rfl rfl rfl (sz_of (n := 3) (by kernel_rfl) rfl) rfl (by simp; exact ⟨rfl, rfl⟩) ?_)
       intro w43 hE43
       clear hE42
       simp only [List.set_cons_zero] at hE43
       simp only [Act.put, zA, zB, zC]
       (with_reducible refine' wl_valS ?_ ?_ ?_); rotate_left; exact rfl; exact (v_moveT (.inr rfl) rfl)
       simp only [Act.put, zA, zB, zC]
       replace hE43 := (hE43).sub (List.sublist_cons_self _ _)
       repeat ((fail_if_success (with_reducible show wpList _ _ _ (List.cons _ _) _ _)); (fail_if_success (with_reducible show Code.wp _ (Code.region _ _ true) _ _ _)); go_step)
       (with_reducible refine' wl_valS ?_ ?_ ?_); rotate_left; exact rfl; exact (v_moveT (.inl rfl) rfl)
       simp only [Act.put, zA, zB, zC]
       (with_reducible refine' wl_valS ?_ ?_ ?_); rotate_left; exact rfl; exact (v_run fun w9 => by go_simp; with_reducible rfl)
       simp only [Act.put, zA, zB, zC]
       (with_reducible refine' wl_valS ?_ ?_ ?_); rotate_left; exact rfl; exact (v_moveT (.inl rfl) rfl)
       simp only [Act.put, zA, zB, zC]
       (with_reducible refine wl_skipS ?_ ?_); exact rfl
       simp only [Act.put, zA, zB, zC]
       (with_reducible refine wl_skipS ?_ ?_); exact rfl
       simp only [Act.put, zA, zB, zC]
       (with_reducible refine wl_skipS ?_ ?_); exact rfl
       simp only [Act.put, zA, zB, zC]
       (with_reducible refine' wl_valS ?_ ?_ ?_); rotate_left; exact rfl; exact (v_andF rfl rfl)
       simp only [Act.put, zA, zB, zC]
       repeat ((fail_if_success (with_reducible show wpList _ _ _ (List.cons _ _) _ _)); (fail_if_success (with_reducible show Code.wp _ (Code.region _ _ true) _ _ _)); (fail_if_success (with_reducible show Code.wp _ (Code.cond _ _ _) _ _ _)); go_step)
       refine wp_cond_false (by first | rfl | exact congrArg Value.bool (decide_eq_false (by omega))) ?_
       skip
       obtain ⟨M2, v2, b2, R2, T2, hEE, hFF, hTT, hTe⟩ : ∃ M2 v2 b2 R2 T2, KE w g1 g0 (1 + q) pk v2 b2 R2 w43 ∧ KF w g0 (1 + q) pk M2 v2 b2 R2 ∧ times pk.key M2 = T2 ∧ T2 = T := ⟨_, _, _, _, _, hE43, HF1'.out, HT.out, rfl⟩
       subst hTe
       have HF2 := Lib.hid hFF
       have HT2 := Lib.hid hTT
       clear hE43 hFF hTT
       repeat ((fail_if_success (with_reducible show wpList _ _ _ (List.cons _ _) _ _)); (fail_if_success (with_reducible show Code.wp _ (Code.region _ _ true) _ _ _)); go_step)
       (with_reducible refine' wl_valS ?_ ?_ ?_); rotate_left; exact rfl; exact (v_moveC (.inr rfl))
       simp only [Act.put, zA, zB, zC]
       repeat ((fail_if_success (with_reducible show wpList _ _ _ (List.cons _ _) _ _)); (fail_if_success (with_reducible show Code.wp _ (Code.region _ _ true) _ _ _)); go_step)
       (with_reducible refine' wl_valS ?_ ?_ ?_); rotate_left; exact rfl; exact (v_moveT (.inl rfl) rfl)
       simp only [Act.put, zA, zB, zC]
       refine wl_step (st_calls rfl (run_call rfl Try.call8) (HF2.out.list hEE hN2) ?_)
       rintro _ w61 ⟨pX, cX, NX, RX, rfl, hkX, hsX, hE61, hrX, hseX⟩
       skip
       refine ⟨_, rfl, ?_⟩
       clear hEE
       simp only [Act.put, zA, zB, zC]
       (with_reducible refine' wl_valS ?_ ?_ ?_); rotate_left; exact rfl; exact (v_moveT (.inr rfl) rfl)
       simp only [Act.put, zA, zB, zC]
       have HF3 := Lib.hid (HF2.out.more hsX)
       have HkX := Lib.hid hkX
       have HrX := Lib.hid hrX
       have HseX := Lib.hid hseX
       have hlX : NX.length = M2.length := keys_len hkX
       have hM64 : M2.length ≤ 64 := by have := HF3.out.len; omega
       have hM63 : M2.length < 9223372036854775808 := by omega
       have HdX := Lib.hid (keys_digs hkX HF3.out.digs)
       have hst := hE61
       clear hE61 hkX hsX hrX hseX
       repeat ((fail_if_success (with_reducible show wpList _ _ _ (List.cons _ _) _ _)); (fail_if_success (with_reducible show Code.wp _ (Code.region _ _ true) _ _ _)); go_step)
       (with_reducible refine' wl_valS ?_ ?_ ?_); rotate_left; exact rfl; exact (v_moveC (.inr rfl))
       simp only [Act.put, zA, zB, zC]
       go_wp2
       go_loopw [16, 18] (fun t i wr => ∃ k : Nat, k ≤ M2.length ∧ i = .int .i64 k ∧ t = .int .i64 ((times pk.key (NX.take k) : Nat) : Int) ∧ KE w g1 g0 (1 + q) pk v2 b2 RX wr) (fun _ i _ => M2.length - (intOf i).toNat)
       case atStart => exact ⟨0, Nat.zero_le _, rfl, by rw [List.take_zero]; rfl, hst⟩
       case round =>
        clear hst
        obtain ⟨k, hk, rfl, rfl, hE0⟩ := hrel
        obtain ⟨u, hu⟩ : ∃ u, times pk.key (NX.take k) = u := ⟨_, rfl⟩
        have hu64 : u ≤ 64 := by
         have := times_le pk.key (NX.take k)
         rw [hu, List.length_take] at this
         omega
        rw [hu]
        by_cases hkl : k < M2.length
        ·
         have d3 := Lib.hid (decide_eq_true hkl)
         have hgx : NX[k]? = some NX[k] := List.getElem?_eq_getElem (by omega)
         obtain ⟨m5, hme⟩ : ∃ m, NX[k] = m := ⟨_, rfl⟩
         rw [hme] at hgx
         have hm5 : m5 ∈ NX := List.mem_of_getElem? hgx
         obtain ⟨b5, off5, rfl, -⟩ := (HrX.out _ (KE.rest hE0)).elem hkl
         have hran5 : ∀ w', KE w g1 g0 (1 + q) pk v2 b2 RX w' → ∀ w1, Below w'.heap.size w' w1 → w1.rangeAt b5 (off5 + k * 3) [.int .i64 m5.fr, .int .i64 m5.to, m5.sl] := fun w' hE' w1 hb1 => by
          obtain ⟨b', off', he, hr⟩ := (HrX.out _ (KE.rest hE')).elem hkl
          injection he with he
          injection he with h1 h2 _
          subst h1 h2
          have := hr w1 hb1
          rwa [pcells_at hgx] at this
         have Hran5 := Lib.hid hran5
         have HSame5 : Hid (∀ w', KE w g1 g0 (1 + q) pk v2 b2 RX w' → Gives 10 #[pkv m5, pkv pk] w' (.bool (m5.key == pk.key))) := Lib.hid (fun w' hE' => by
          have h := Same_any (f1 := m5.fr) (t1 := m5.to) (f2 := pk.fr) (t2 := pk.to) (HseX.out m5 hm5 _ (KE.rest hE')) (HP.out.1.below hE'.below) (HdX.out m5 hm5).1 HP.out.2.1
          rwa [same_key] at h)
         have Htt := Lib.hid (times_take (k := pk.key) hgx)
         have Hu := Lib.hid hu
         clear hran5 hme hgx hu
         repeat ((fail_if_success (with_reducible show wpList _ _ _ (List.cons _ _) _ _)); (fail_if_success (with_reducible show Code.wp _ (Code.region _ _ true) _ _ _)); go_step)
         (with_reducible refine' wl_valS ?_ ?_ ?_); rotate_left; exact rfl; exact (v_moveT (.inl rfl) rfl)
         simp only [Act.put, zA, zB, zC]
         (with_reducible refine' wl_valS ?_ ?_ ?_); rotate_left; exact rfl; exact (v_moveT (.inl rfl) rfl)
         simp only [Act.put, zA, zB, zC]
         (with_reducible refine' wl_valS ?_ ?_ ?_); rotate_left; exact rfl; exact (v_len rfl rfl Try.underlying33 hM63)
         simp only [Act.put, zA, zB, zC]
         (with_reducible refine' wl_valS ?_ ?_ ?_); rotate_left; exact rfl; exact (v_lss rfl rfl rfl)
         simp only [Act.put, zA, zB, zC]
         rw [d3.out]
         repeat ((fail_if_success (with_reducible show wpList _ _ _ (List.cons _ _) _ _)); (fail_if_success (with_reducible show Code.wp _ (Code.region _ _ true) _ _ _)); (fail_if_success (with_reducible show Code.wp _ (Code.cond _ _ _) _ _ _)); go_step)
         refine wp_cond_true (by first | rfl | exact congrArg Value.bool (decide_eq_true (by omega))) ?_
         skip
         repeat ((fail_if_success (with_reducible show wpList _ _ _ (List.cons _ _) _ _)); (fail_if_success (with_reducible show Code.wp _ (Code.region _ _ true) _ _ _)); go_step)
         refine wp_region_B (n := 6) 6 (by kernel_rfl) rfl hE0 ?_
         intro w1 hb1 hE1
         clear hE0
         refine wpB_take (i := 0) (by kernel_rfl) rfl (by kernel_rfl) (fun _ _ _ h => h) rfl (v_moveT (.inl rfl) rfl) ?_
         simp only [Act.put, zA, zB, zC]
         refine wpB_take (i := 1) (by kernel_rfl) rfl (by kernel_rfl) (fun _ _ _ h => h) rfl (v_moveT (.inl rfl) rfl) ?_
         simp only [Act.put, zA, zB, zC]
         refine wpB_take (i := 2) (by kernel_rfl) rfl (by kernel_rfl) (fun _ _ _ h => h) rfl (v_indexSs (s := 3) rfl rfl rfl Try.underlying33 (by kernel_rfl) hkl) ?_
         simp only [Act.put, zA, zB, zC]
         refine wpB_take (i := 3) (by kernel_rfl) rfl (by kernel_rfl) (fun _ _ _ h => h) rfl (v_loadMid (cs := #[.int .i64 m5.fr, .int .i64 m5.to, m5.sl]) rfl rfl (Hran5.out _ hE1) Try.underlying25 rfl (by kernel_rfl)) ?_
         simp only [Act.put, zA, zB, zC]
         refine wpB_take (i := 4) (by kernel_rfl) rfl (by kernel_rfl) (fun _ _ _ h => h) rfl (v_load (i := 0) (hE1.perm (pk4 ..)) rfl rfl rfl Try.underlying25 rfl (sz_of (n := 3) (by kernel_rfl) rfl)) ?_
         simp only [Act.put, zA, zB, zC]
         refine wpB_step (i := 5) (by kernel_rfl) rfl (st_gives hE1 rfl (run_call rfl Try.call10) (HSame5.out _ hE1) ?_)
         intro w2 hb2 hE2
         clear hE1
         refine ⟨fun _ => hb2, ?_⟩
         simp only [Act.put, zA, zB, zC]
         refine wpB_done (by kernel_rfl) ?_ _
         rcases hb : (m5.key == pk.key) with _ | _
         ·
          repeat ((fail_if_success (with_reducible show wpList _ _ _ (List.cons _ _) _ _)); (fail_if_success (with_reducible show Code.wp _ (Code.region _ _ true) _ _ _)); (fail_if_success (with_reducible show Code.wp _ (Code.cond _ _ _) _ _ _)); go_step)
          refine wp_cond_false (by first | rfl | exact congrArg Value.bool (decide_eq_false (by omega))) ?_
          skip
          repeat ((fail_if_success (with_reducible show wpList _ _ _ (List.cons _ _) _ _)); (fail_if_success (with_reducible show Code.wp _ (Code.region _ _ true) _ _ _)); go_step)
          (with_reducible refine' wl_valS ?_ ?_ ?_); rotate_left; exact rfl; exact (v_moveT (.inl rfl) rfl)
          simp only [Act.put, zA, zB, zC]
          (with_reducible refine' wl_valS ?_ ?_ ?_); rotate_left; exact rfl; exact (v_add (n := 1) rfl rfl rfl (w_i64 (by omega)))
          simp only [Act.put, zA, zB, zC]
          (with_reducible refine' wl_valS ?_ ?_ ?_); rotate_left; exact rfl; exact (v_moveT (.inr rfl) rfl)
          simp only [Act.put, zA, zB, zC]
          go_wp2
          go_roundw
          case rel => exact ⟨k + 1, by omega, rfl, by rw [Htt.out, Hu.out, hb]; rfl, hE2⟩
          case measure => simp [intOf]; omega
         ·
          repeat ((fail_if_success (with_reducible show wpList _ _ _ (List.cons _ _) _ _)); (fail_if_success (with_reducible show Code.wp _ (Code.region _ _ true) _ _ _)); (fail_if_success (with_reducible show Code.wp _ (Code.cond _ _ _) _ _ _)); go_step)
          refine wp_cond_true (by first | rfl | exact congrArg Value.bool (decide_eq_true (by omega))) ?_
          skip
          repeat ((fail_if_success (with_reducible show wpList _ _ _ (List.cons _ _) _ _)); (fail_if_success (with_reducible show Code.wp _ (Code.region _ _ true) _ _ _)); go_step)
          (with_reducible refine' wl_valS ?_ ?_ ?_); rotate_left; exact rfl; exact (v_moveT (.inl rfl) rfl)
          simp only [Act.put, zA, zB, zC]
          (with_reducible refine' wl_valS ?_ ?_ ?_); rotate_left; exact rfl; exact (v_add (n := 1) rfl rfl rfl (w_i64 (by omega)))
          simp only [Act.put, zA, zB, zC]
          (with_reducible refine' wl_valS ?_ ?_ ?_); rotate_left; exact rfl; exact (v_moveT (.inr rfl) rfl)
          simp only [Act.put, zA, zB, zC]
          repeat ((fail_if_success (with_reducible show wpList _ _ _ (List.cons _ _) _ _)); (fail_if_success (with_reducible show Code.wp _ (Code.region _ _ true) _ _ _)); go_step)
          (with_reducible refine' wl_valS ?_ ?_ ?_); rotate_left; exact rfl; exact (v_moveT (.inl rfl) rfl)
          simp only [Act.put, zA, zB, zC]
          (with_reducible refine' wl_valS ?_ ?_ ?_); rotate_left; exact rfl; exact (v_add (n := 1) rfl rfl rfl (w_i64 (by omega)))
          simp only [Act.put, zA, zB, zC]
          (with_reducible refine' wl_valS ?_ ?_ ?_); rotate_left; exact rfl; exact (v_moveT (.inr rfl) rfl)
          simp only [Act.put, zA, zB, zC]
          go_wp2
          go_roundw
          case rel => exact ⟨k + 1, by omega, rfl, by rw [Htt.out, Hu.out, hb]; rfl, hE2⟩
          case measure => simp [intOf]; omega
        ·
         have hk' : k = M2.length := by omega
         subst hk'
         have d3 := Lib.hid (decide_eq_false hkl)
         have hut : u = T2 := by
          rw [← hu, ← HT2.out, List.take_of_length_le (by omega)]
          exact times_keys HkX.out
         subst hut
         have d5 := Lib.hid (decide_eq_false (show ¬ 1 + q < M2.length by have := HF3.out.len; omega))
         clear hu
         repeat ((fail_if_success (with_reducible show wpList _ _ _ (List.cons _ _) _ _)); (fail_if_success (with_reducible show Code.wp _ (Code.region _ _ true) _ _ _)); go_step)
         (with_reducible refine' wl_valS ?_ ?_ ?_); rotate_left; exact rfl; exact (v_moveT (.inl rfl) rfl)
         simp only [Act.put, zA, zB, zC]
         (with_reducible refine' wl_valS ?_ ?_ ?_); rotate_left; exact rfl; exact (v_moveT (.inl rfl) rfl)
         simp only [Act.put, zA, zB, zC]
         (with_reducible refine' wl_valS ?_ ?_ ?_); rotate_left; exact rfl; exact (v_len rfl rfl Try.underlying33 hM63)
         simp only [Act.put, zA, zB, zC]
         (with_reducible refine' wl_valS ?_ ?_ ?_); rotate_left; exact rfl; exact (v_lss rfl rfl rfl)
         simp only [Act.put, zA, zB, zC]
         rw [d3.out]
         repeat ((fail_if_success (with_reducible show wpList _ _ _ (List.cons _ _) _ _)); (fail_if_success (with_reducible show Code.wp _ (Code.region _ _ true) _ _ _)); (fail_if_success (with_reducible show Code.wp _ (Code.cond _ _ _) _ _ _)); go_step)
         refine wp_cond_false (by first | rfl | exact congrArg Value.bool (decide_eq_false (by omega))) ?_
         skip
         repeat ((fail_if_success (with_reducible show wpList _ _ _ (List.cons _ _) _ _)); (fail_if_success (with_reducible show Code.wp _ (Code.region _ _ true) _ _ _)); go_step)
         (with_reducible refine' wl_valS ?_ ?_ ?_); rotate_left; exact rfl; exact (v_moveT (.inl rfl) rfl)
         simp only [Act.put, zA, zB, zC]
         (with_reducible refine' wl_valS ?_ ?_ ?_); rotate_left; exact rfl; exact (v_moveT (.inl rfl) rfl)
         simp only [Act.put, zA, zB, zC]
         (with_reducible refine' wl_valS ?_ ?_ ?_); rotate_left; exact rfl; exact (v_neqS rfl rfl rfl)
         simp only [Act.put, zA, zB, zC]
         (with_reducible refine' wl_valS ?_ ?_ ?_); rotate_left; exact rfl; exact (v_moveT (.inl rfl) rfl)
         simp only [Act.put, zA, zB, zC]
         (with_reducible refine' wl_valS ?_ ?_ ?_); rotate_left; exact rfl; exact (v_moveT (.inl rfl) rfl)
         simp only [Act.put, zA, zB, zC]
         (with_reducible refine' wl_valS ?_ ?_ ?_); rotate_left; exact rfl; exact (v_len rfl rfl Try.underlying33 hM63)
         simp only [Act.put, zA, zB, zC]
         (with_reducible refine' wl_valS ?_ ?_ ?_); rotate_left; exact rfl; exact (v_moveT (.inl rfl) rfl)
         simp only [Act.put, zA, zB, zC]
         (with_reducible refine' wl_valS ?_ ?_ ?_); rotate_left; exact rfl; exact (v_rem (n := 64) rfl rfl rfl (by omega))
         simp only [Act.put, zA, zB, zC]
         rw [HQ.out]
         (with_reducible refine' wl_valS ?_ ?_ ?_); rotate_left; exact rfl; exact (v_convInt rfl rfl Try.underlying5 Try.underlying3 (w_i64 (by omega)))
         simp only [Act.put, zA, zB, zC]
         (with_reducible refine' wl_valS ?_ ?_ ?_); rotate_left; exact rfl; exact (v_add (m := 1) rfl rfl rfl (w_i64 (by omega)))
         simp only [Act.put, zA, zB, zC]
         (with_reducible refine' wl_valS ?_ ?_ ?_); rotate_left; exact rfl; exact (v_gtr rfl rfl rfl)
         simp only [Act.put, zA, zB, zC]
         rw [d5.out]
         (with_reducible refine' wl_valS ?_ ?_ ?_); rotate_left; exact rfl; exact (v_orF rfl rfl rfl)
         simp only [Act.put, zA, zB, zC]
         repeat ((fail_if_success (with_reducible show wpList _ _ _ (List.cons _ _) _ _)); (fail_if_success (with_reducible show Code.wp _ (Code.region _ _ true) _ _ _)); (fail_if_success (with_reducible show Code.wp _ (Code.cond _ _ _) _ _ _)); go_step)
         refine wp_cond_false (by first | rfl | exact congrArg Value.bool (decide_eq_false (by omega))) ?_
         skip
         repeat ((fail_if_success (with_reducible show wpList _ _ _ (List.cons _ _) _ _)); (fail_if_success (with_reducible show Code.wp _ (Code.region _ _ true) _ _ _)); go_step)
         (with_reducible refine' wl_valS ?_ ?_ ?_); rotate_left; exact rfl; exact (v_moveT (.inl rfl) rfl)
         simp only [Act.put, zA, zB, zC]
         (with_reducible refine' wl_valS ?_ ?_ ?_); rotate_left; exact rfl; exact (v_add (n := 1) rfl rfl rfl (w_i64 (by omega)))
         simp only [Act.put, zA, zB, zC]
         (with_reducible refine' wl_valS ?_ ?_ ?_); rotate_left; exact rfl; exact (v_moveT (.inr rfl) rfl)
         simp only [Act.put, zA, zB, zC]
         go_wp2
         go_roundw
         case rel => exact ⟨j + 1, M2, v2, b2, RX, by omega, rfl, by rw [HT2.out], HF3.out, hE0⟩
         case measure => simp [intOf]; omega
     ·
      have d6 := Lib.hid (decide_eq_false hk0)
      have hT64 : T ≤ 64 := by
       have h1 := times_le pk.key M
       have h2 := HF1'.out.len
       rw [HT.out] at h1
       omega
      repeat ((fail_if_success (with_reducible show wpList _ _ _ (List.cons _ _) _ _)); (fail_if_success (with_reducible show Code.wp _ (Code.region _ _ true) _ _ _)); go_step)
      (with_reducible refine' wl_valS ?_ ?_ ?_); rotate_left; exact rfl; exact (v_eql (n := 0) rfl rfl rfl)
      simp only [Act.put, zA, zB, zC]
      rw [d6.out]
      (with_reducible refine' wl_valS ?_ ?_ ?_); rotate_left; exact rfl; exact (v_moveT (.inr rfl) rfl)
      simp only [Act.put, zA, zB, zC]
      repeat ((fail_if_success (with_reducible show wpList _ _ _ (List.cons _ _) _ _)); (fail_if_success (with_reducible show Code.wp _ (Code.region _ _ true) _ _ _)); (fail_if_success (with_reducible show Code.wp _ (Code.cond _ _ _) _ _ _)); go_step)
      refine wp_cond_false (by first | rfl | exact congrArg Value.bool (decide_eq_false (by omega))) ?_
      skip
      by_cases hk1 : o.kd = 1
      ·
       have d7 := Lib.hid (decide_eq_true hk1)
       repeat ((fail_if_success (with_reducible show wpList _ _ _ (List.cons _ _) _ _)); (fail_if_success (with_reducible show Code.wp _ (Code.region _ _ true) _ _ _)); go_step)
       (with_reducible refine' wl_valS ?_ ?_ ?_); rotate_left; exact rfl; exact (v_eql (n := 1) rfl rfl rfl)
       simp only [Act.put, zA, zB, zC]
       rw [d7.out]
       (with_reducible refine' wl_valS ?_ ?_ ?_); rotate_left; exact rfl; exact (v_moveT (.inr rfl) rfl)
       simp only [Act.put, zA, zB, zC]
       repeat ((fail_if_success (with_reducible show wpList _ _ _ (List.cons _ _) _ _)); (fail_if_success (with_reducible show Code.wp _ (Code.region _ _ true) _ _ _)); (fail_if_success (with_reducible show Code.wp _ (Code.cond _ _ _) _ _ _)); go_step)
       refine wp_cond_true (by first | rfl | exact congrArg Value.bool (decide_eq_true (by omega))) ?_
       skip
       by_cases hin : 0 ≤ o.i ∧ o.i < (M.length : Int)
       ·
        obtain ⟨idx, hidx⟩ : ∃ n : Nat, o.i = (n : Int) := ⟨o.i.toNat, by omega⟩
        have hidl : idx < M.length := by omega
        have hgi : M[idx]? = some M[idx] := List.getElem?_eq_getElem hidl
        obtain ⟨m1, hm1⟩ : ∃ m, M[idx] = m := ⟨_, rfl⟩
        rw [hm1] at hgi
        have hlW := keys_len HkW.out
        have hgw : NW[idx]? = some NW[idx] := List.getElem?_eq_getElem (by omega)
        obtain ⟨m2, hm2⟩ : ∃ m, NW[idx] = m := ⟨_, rfl⟩
        rw [hm2] at hgw
        have hmm2 : m2 ∈ NW := List.mem_of_getElem? hgw
        have hkey : m2.key = m1.key := by
         have h1 : (NW.map PV.key)[idx]? = (M.map PV.key)[idx]? := by rw [HkW.out]
         rw [List.getElem?_map, List.getElem?_map, hgw, hgi] at h1
         simpa using h1
        obtain ⟨bW, offW, rfl, -⟩ := (HrW.out _ (HRW.out _ _ _ _ hsR hE1)).elem hidl
        have hranW : ∀ w' v' bs' R', R2'.Sublist R' → KE w g1 g0 (1 + q) pk v' bs' R' w' → ∀ w1, Below w'.heap.size w' w1 → w1.rangeAt bW (offW + idx * 3) [.int .i64 m2.fr, .int .i64 m2.to, m2.sl] := fun w' v' bs' R' hs h w1 hb1 => by
         obtain ⟨b', off', he, hr⟩ := (HrW.out _ (HRW.out _ _ _ _ hs h)).elem hidl
         injection he with he
         injection he with h1 h2 _
         subst h1 h2
         have := hr w1 hb1
         rwa [pcells_at hgw] at this
        have HranW := Lib.hid hranW
        have HSame : Hid (∀ w' v' bs' R', R2'.Sublist R' → KE w g1 g0 (1 + q) pk v' bs' R' w' → Gives 10 #[pkv m2, pkv pk] w' (.bool (m2.key == pk.key))) := Lib.hid (fun w' v' bs' R' hs h => by
         have h1 := Same_any (f1 := m2.fr) (t1 := m2.to) (f2 := pk.fr) (t2 := pk.to) (HseW.out m2 hmm2 _ (HRW.out _ _ _ _ hs h)) (HP.out.1.below h.below) (keys_digs HkW.out HF1'.out.digs m2 hmm2).1 HP.out.2.1
         rwa [same_key] at h1)
        have Hgi := Lib.hid hgi
        have Hidx := Lib.hid hidx
        clear hm1 hm2 hgi hgw hidx hranW
        by_cases hroom : 1 ≤ 1 + q - M.length
        ·
         have htk : ([m1].take (1 + q - M.length)) = [m1] := List.take_of_length_le (by simpa using hroom)
         repeat ((fail_if_success (with_reducible show wpList _ _ _ (List.cons _ _) _ _)); (fail_if_success (with_reducible show Code.wp _ (Code.region _ _ true) _ _ _)); go_step)
         refine wp_region_B (n := 14) 3 (by kernel_rfl) rfl hE1 ?_
         intro w41 hb41 hE41
         clear hE1
         refine wpB_take1 (i := 0) (by kernel_rfl) rfl (by kernel_rfl) (fun _ _ _ h => h) rfl (v_moveT (.inl rfl) rfl) ?_
         simp only [Act.put, zA, zB, zC]
         refine wpB_take1 (i := 1) (by kernel_rfl) rfl (by kernel_rfl) (fun _ _ _ h => h) rfl (v_fieldB (s := 0) rfl rfl Try.underlying36 rfl (by kernel_rfl) rfl) ?_
         simp only [Act.put, zA, zB, zC]
         refine wpB_take1 (i := 2) (by kernel_rfl) rfl (by kernel_rfl) (fun _ _ _ h => h) rfl (v_cellB (v := .int .i64 (idx : Int)) (i := 0) (HO2.out _ _ _ _ hsR hE41) rfl rfl rfl Try.underlying3 rfl (congrArg (fun z => some (Value.int .i64 z)) Hidx.out)) ?_
         simp only [Act.put, zA, zB, zC]
         refine wpB_step (i := 3) (by kernel_rfl) rfl (st_calls rfl (run_call rfl Try.call11) (HF1'.out.copy hE41 hN2 Hgi.out) ?_)
         rintro _ w42 ⟨v2', b2', M2', RC, rfl, hk2, hs2, hF2, hE42⟩
         skip
         refine ⟨_, rfl, ?_⟩
         clear hE41
         refine ⟨fun h => absurd h (by decide), ?_⟩
         simp only [Act.put, zA, zB, zC]
         rw [if_pos hroom]
         have HF2' := Lib.hid hF2
         have Hk2 := Lib.hid hk2
         clear hF2 hk2
         refine wpB_up (m' := 14) (by decide) ?_
         refine wpB_take (i := 4) (by kernel_rfl) rfl (by kernel_rfl) (fun _ _ _ h => h) rfl (v_run fun w9 => by go_simp; with_reducible rfl) ?_
         simp only [Act.put, zA, zB, zC]
         refine wpB_take (i := 5) (by kernel_rfl) rfl (by kernel_rfl) (fun _ _ _ h => h) rfl (v_moveT (.inl rfl) rfl) ?_
         simp only [Act.put, zA, zB, zC]
         refine wpB_take (i := 6) (by kernel_rfl) rfl (by kernel_rfl) (fun _ _ _ h => h) rfl (v_moveT (.inl rfl) rfl) ?_
         simp only [Act.put, zA, zB, zC]
         refine wpB_take (i := 7) (by kernel_rfl) rfl (by kernel_rfl) (fun _ _ _ h => h) rfl (v_fieldB (s := 0) rfl rfl Try.underlying36 rfl (by kernel_rfl) rfl) ?_
         simp only [Act.put, zA, zB, zC]
         refine wpB_take (i := 8) (by kernel_rfl) rfl (by kernel_rfl) (fun _ _ _ h => h) rfl (v_cellB (v := .int .i64 (idx : Int)) (i := 0) (HO2.out _ _ _ _ hs2 hE42) rfl rfl rfl Try.underlying3 rfl (congrArg (fun z => some (Value.int .i64 z)) Hidx.out)) ?_
         simp only [Act.put, zA, zB, zC]
         refine wpB_take (i := 9) (by kernel_rfl) rfl (by kernel_rfl) (fun _ _ _ h => h) rfl (v_indexSs (s := 3) rfl rfl rfl Try.underlying33 (by kernel_rfl) hidl) ?_
         simp only [Act.put, zA, zB, zC]
         refine wpB_take (i := 10) (by kernel_rfl) rfl (by kernel_rfl) (fun _ _ _ h => h) rfl (v_loadMid (cs := #[.int .i64 m2.fr, .int .i64 m2.to, m2.sl]) rfl rfl (HranW.out _ _ _ _ hs2 hE42) Try.underlying25 rfl (by kernel_rfl)) ?_
         simp only [Act.put, zA, zB, zC]
         refine wpB_take (i := 11) (by kernel_rfl) rfl (by kernel_rfl) (fun _ _ _ h => h) rfl (v_load (i := 0) (hE42.perm (pk4 ..)) rfl rfl rfl Try.underlying25 rfl (sz_of (n := 3) (by kernel_rfl) rfl)) ?_
         simp only [Act.put, zA, zB, zC]
         refine wpB_step (i := 12) (by kernel_rfl) rfl (st_gives hE42 rfl (run_call rfl Try.call10) (HSame.out _ _ _ _ hs2 hE42) ?_)
         intro w43 hb43 hE43
         clear hE42
         refine ⟨fun _ => hb43, ?_⟩
         simp only [Act.put, zA, zB, zC]
         refine wpB_take (i := 13) (by kernel_rfl) rfl (by kernel_rfl) (fun _ _ _ h => h) rfl (v_andT rfl rfl rfl) ?_
         simp only [Act.put, zA, zB, zC]
         refine wpB_done (by kernel_rfl) ?_ _
         have hTn : times pk.key M2' = T + (if m2.key == pk.key then 1 else 0) := by
          rw [times_keys Hk2.out, htk, times_append, HT.out, times_cons, hkey]
          simp [times]
         rcases hb : (m2.key == pk.key) with _ | _
         ·
          repeat ((fail_if_success (with_reducible show wpList _ _ _ (List.cons _ _) _ _)); (fail_if_success (with_reducible show Code.wp _ (Code.region _ _ true) _ _ _)); (fail_if_success (with_reducible show Code.wp _ (Code.cond _ _ _) _ _ _)); go_step)
          refine wp_cond_false (by first | rfl | exact congrArg Value.bool (decide_eq_false (by omega))) ?_
          skip
          obtain ⟨M2, v2, b2, R2, T2, hEE, hFF, hTT, hTe⟩ : ∃ M2 v2 b2 R2 T2, KE w g1 g0 (1 + q) pk v2 b2 R2 w43 ∧ KF w g0 (1 + q) pk M2 v2 b2 R2 ∧ times pk.key M2 = T2 ∧ T2 = T := ⟨_, _, _, _, _, hE43, HF2'.out, rfl, by rw [hTn, hb]; rfl⟩
          subst hTe
          have HF2 := Lib.hid hFF
          have HT2 := Lib.hid hTT
          clear hE43 hFF hTT
          repeat ((fail_if_success (with_reducible show wpList _ _ _ (List.cons _ _) _ _)); (fail_if_success (with_reducible show Code.wp _ (Code.region _ _ true) _ _ _)); go_step)
          (with_reducible refine' wl_valS ?_ ?_ ?_); rotate_left; exact rfl; exact (v_moveC (.inr rfl))
          simp only [Act.put, zA, zB, zC]
          repeat ((fail_if_success (with_reducible show wpList _ _ _ (List.cons _ _) _ _)); (fail_if_success (with_reducible show Code.wp _ (Code.region _ _ true) _ _ _)); go_step)
          (with_reducible refine' wl_valS ?_ ?_ ?_); rotate_left; exact rfl; exact (v_moveT (.inl rfl) rfl)
          simp only [Act.put, zA, zB, zC]
          refine wl_step (st_calls rfl (run_call rfl Try.call8) (HF2.out.list hEE hN2) ?_)
          rintro _ w61 ⟨pX, cX, NX, RX, rfl, hkX, hsX, hE61, hrX, hseX⟩
          skip
          refine ⟨_, rfl, ?_⟩
          clear hEE
          simp only [Act.put, zA, zB, zC]
          (with_reducible refine' wl_valS ?_ ?_ ?_); rotate_left; exact rfl; exact (v_moveT (.inr rfl) rfl)
          simp only [Act.put, zA, zB, zC]
          have HF3 := Lib.hid (HF2.out.more hsX)
          have HkX := Lib.hid hkX
          have HrX := Lib.hid hrX
          have HseX := Lib.hid hseX
          have hlX : NX.length = M2.length := keys_len hkX
          have hM64 : M2.length ≤ 64 := by have := HF3.out.len; omega
          have hM63 : M2.length < 9223372036854775808 := by omega
          have HdX := Lib.hid (keys_digs hkX HF3.out.digs)
          have hst := hE61
          clear hE61 hkX hsX hrX hseX
          repeat ((fail_if_success (with_reducible show wpList _ _ _ (List.cons _ _) _ _)); (fail_if_success (with_reducible show Code.wp _ (Code.region _ _ true) _ _ _)); go_step)
          (with_reducible refine' wl_valS ?_ ?_ ?_); rotate_left; exact rfl; exact (v_moveC (.inr rfl))
          simp only [Act.put, zA, zB, zC]
          go_wp2
          go_loopw [16, 18] (fun t i wr => ∃ k : Nat, k ≤ M2.length ∧ i = .int .i64 k ∧ t = .int .i64 ((times pk.key (NX.take k) : Nat) : Int) ∧ KE w g1 g0 (1 + q) pk v2 b2 RX wr) (fun _ i _ => M2.length - (intOf i).toNat)
          case atStart => exact ⟨0, Nat.zero_le _, rfl, by rw [List.take_zero]; rfl, hst⟩
          case round =>
           clear hst
           obtain ⟨k, hk, rfl, rfl, hE0⟩ := hrel
           obtain ⟨u, hu⟩ : ∃ u, times pk.key (NX.take k) = u := ⟨_, rfl⟩
           have hu64 : u ≤ 64 := by
            have := times_le pk.key (NX.take k)
            rw [hu, List.length_take] at this
            omega
           rw [hu]
           by_cases hkl : k < M2.length
           ·
            have d3 := Lib.hid (decide_eq_true hkl)
            have hgx : NX[k]? = some NX[k] := List.getElem?_eq_getElem (by omega)
            obtain ⟨m5, hme⟩ : ∃ m, NX[k] = m := ⟨_, rfl⟩
            rw [hme] at hgx
            have hm5 : m5 ∈ NX := List.mem_of_getElem? hgx
            obtain ⟨b5, off5, rfl, -⟩ := (HrX.out _ (KE.rest hE0)).elem hkl
            have hran5 : ∀ w', KE w g1 g0 (1 + q) pk v2 b2 RX w' → ∀ w1, Below w'.heap.size w' w1 → w1.rangeAt b5 (off5 + k * 3) [.int .i64 m5.fr, .int .i64 m5.to, m5.sl] := fun w' hE' w1 hb1 => by
             obtain ⟨b', off', he, hr⟩ := (HrX.out _ (KE.rest hE')).elem hkl
             injection he with he
             injection he with h1 h2 _
             subst h1 h2
             have := hr w1 hb1
             rwa [pcells_at hgx] at this
            have Hran5 := Lib.hid hran5
            have HSame5 : Hid (∀ w', KE w g1 g0 (1 + q) pk v2 b2 RX w' → Gives 10 #[pkv m5, pkv pk] w' (.bool (m5.key == pk.key))) := Lib.hid (fun w' hE' => by
             have h := Same_any (f1 := m5.fr) (t1 := m5.to) (f2 := pk.fr) (t2 := pk.to) (HseX.out m5 hm5 _ (KE.rest hE')) (HP.out.1.below hE'.below) (HdX.out m5 hm5).1 HP.out.2.1
             rwa [same_key] at h)
            have Htt := Lib.hid (times_take (k := pk.key) hgx)
            have Hu := Lib.hid hu
            clear hran5 hme hgx hu
            repeat ((fail_if_success (with_reducible show wpList _ _ _ (List.cons _ _) _ _)); (fail_if_success (with_reducible show Code.wp _ (Code.region _ _ true) _ _ _)); go_step)
            (with_reducible refine' wl_valS ?_ ?_ ?_); rotate_left; exact rfl; exact (v_moveT (.inl rfl) rfl)
            simp only [Act.put, zA, zB, zC]
            (with_reducible refine' wl_valS ?_ ?_ ?_); rotate_left; exact rfl; exact (v_moveT (.inl rfl) rfl)
            simp only [Act.put, zA, zB, zC]
            (with_reducible refine' wl_valS ?_ ?_ ?_); rotate_left; exact rfl; exact (v_len rfl rfl Try.underlying33 hM63)
            simp only [Act.put, zA, zB, zC]
            (with_reducible refine' wl_valS ?_ ?_ ?_); rotate_left; exact rfl; exact (v_lss rfl rfl rfl)
            simp only [Act.put, zA, zB, zC]
            rw [d3.out]
            repeat ((fail_if_success (with_reducible show wpList _ _ _ (List.cons _ _) _ _)); (fail_if_success (with_reducible show Code.wp _ (Code.region _ _ true) _ _ _)); (fail_if_success (with_reducible show Code.wp _ (Code.cond _ _ _) _ _ _)); go_step)
            refine wp_cond_true (by first | rfl | exact congrArg Value.bool (decide_eq_true (by omega))) ?_
            skip
            repeat ((fail_if_success (with_reducible show wpList _ _ _ (List.cons _ _) _ _)); (fail_if_success (with_reducible show Code.wp _ (Code.region _ _ true) _ _ _)); go_step)
            refine wp_region_B (n := 6) 6 (by kernel_rfl) rfl hE0 ?_
            intro w1 hb1 hE1
            clear hE0
            refine wpB_take (i := 0) (by kernel_rfl) rfl (by kernel_rfl) (fun _ _ _ h => h) rfl (v_moveT (.inl rfl) rfl) ?_
            simp only [Act.put, zA, zB, zC]
            refine wpB_take (i := 1) (by kernel_rfl) rfl (by kernel_rfl) (fun _ _ _ h => h) rfl (v_moveT (.inl rfl) rfl) ?_
            simp only [Act.put, zA, zB, zC]
            refine wpB_take (i := 2) (by kernel_rfl) rfl (by kernel_rfl) (fun _ _ _ h => h) rfl (v_indexSs (s := 3) rfl rfl rfl Try.underlying33 (by kernel_rfl) hkl) ?_
            simp only [Act.put, zA, zB, zC]
            refine wpB_take (i := 3) (by kernel_rfl) rfl (by kernel_rfl) (fun _ _ _ h => h) rfl (v_loadMid (cs := #[.int .i64 m5.fr, .int .i64 m5.to, m5.sl]) rfl rfl (Hran5.out _ hE1) Try.underlying25 rfl (by kernel_rfl)) ?_
            simp only [Act.put, zA, zB, zC]
            refine wpB_take (i := 4) (by kernel_rfl) rfl (by kernel_rfl) (fun _ _ _ h => h) rfl (v_load (i := 0) (hE1.perm (pk4 ..)) rfl rfl rfl Try.underlying25 rfl (sz_of (n := 3) (by kernel_rfl) rfl)) ?_
            simp only [Act.put, zA, zB, zC]
            refine wpB_step (i := 5) (by kernel_rfl) rfl (st_gives hE1 rfl (run_call rfl Try.call10) (HSame5.out _ hE1) ?_)
            intro w2 hb2 hE2
            clear hE1
            refine ⟨fun _ => hb2, ?_⟩
            simp only [Act.put, zA, zB, zC]
            refine wpB_done (by kernel_rfl) ?_ _
            rcases hb : (m5.key == pk.key) with _ | _
            ·
             repeat ((fail_if_success (with_reducible show wpList _ _ _ (List.cons _ _) _ _)); (fail_if_success (with_reducible show Code.wp _ (Code.region _ _ true) _ _ _)); (fail_if_success (with_reducible show Code.wp _ (Code.cond _ _ _) _ _ _)); go_step)
             refine wp_cond_false (by first | rfl | exact congrArg Value.bool (decide_eq_false (by omega))) ?_
             skip
             repeat ((fail_if_success (with_reducible show wpList _ _ _ (List.cons _ _) _ _)); (fail_if_success (with_reducible show Code.wp _ (Code.region _ _ true) _ _ _)); go_step)
             (with_reducible refine' wl_valS ?_ ?_ ?_); rotate_left; exact rfl; exact (v_moveT (.inl rfl) rfl)
             simp only [Act.put, zA, zB, zC]
             (with_reducible refine' wl_valS ?_ ?_ ?_); rotate_left; exact rfl; exact (v_add (n := 1) rfl rfl rfl (w_i64 (by omega)))
             simp only [Act.put, zA, zB, zC]
             (with_reducible refine' wl_valS ?_ ?_ ?_); rotate_left; exact rfl; exact (v_moveT (.inr rfl) rfl)
             simp only [Act.put, zA, zB, zC]
             go_wp2
             go_roundw
             case rel => exact ⟨k + 1, by omega, rfl, by rw [Htt.out, Hu.out, hb]; rfl, hE2⟩
             case measure => simp [intOf]; omega
            ·
             repeat ((fail_if_success (with_reducible show wpList _ _ _ (List.cons _ _) _ _)); (fail_if_success (with_reducible show Code.wp _ (Code.region _ _ true) _ _ _)); (fail_if_success (with_reducible show Code.wp _ (Code.cond _ _ _) _ _ _)); go_step)
             refine wp_cond_true (by first | rfl | exact congrArg Value.bool (decide_eq_true (by omega))) ?_
             skip
             repeat ((fail_if_success (with_reducible show wpList _ _ _ (List.cons _ _) _ _)); (fail_if_success (with_reducible show Code.wp _ (Code.region _ _ true) _ _ _)); go_step)
             (with_reducible refine' wl_valS ?_ ?_ ?_); rotate_left; exact rfl; exact (v_moveT (.inl rfl) rfl)
             simp only [Act.put, zA, zB, zC]
             (with_reducible refine' wl_valS ?_ ?_ ?_); rotate_left; exact rfl; exact (v_add (n := 1) rfl rfl rfl (w_i64 (by omega)))
             simp only [Act.put, zA, zB, zC]
             (with_reducible refine' wl_valS ?_ ?_ ?_); rotate_left; exact rfl; exact (v_moveT (.inr rfl) rfl)
             simp only [Act.put, zA, zB, zC]
             repeat ((fail_if_success (with_reducible show wpList _ _ _ (List.cons _ _) _ _)); (fail_if_success (with_reducible show Code.wp _ (Code.region _ _ true) _ _ _)); go_step)
             (with_reducible refine' wl_valS ?_ ?_ ?_); rotate_left; exact rfl; exact (v_moveT (.inl rfl) rfl)
             simp only [Act.put, zA, zB, zC]
             (with_reducible refine' wl_valS ?_ ?_ ?_); rotate_left; exact rfl; exact (v_add (n := 1) rfl rfl rfl (w_i64 (by omega)))
             simp only [Act.put, zA, zB, zC]
             (with_reducible refine' wl_valS ?_ ?_ ?_); rotate_left; exact rfl; exact (v_moveT (.inr rfl) rfl)
             simp only [Act.put, zA, zB, zC]
             go_wp2
             go_roundw
             case rel => exact ⟨k + 1, by omega, rfl, by rw [Htt.out, Hu.out, hb]; rfl, hE2⟩
             case measure => simp [intOf]; omega
           ·
            have hk' : k = M2.length := by omega
            subst hk'
            have d3 := Lib.hid (decide_eq_false hkl)
            have hut : u = T2 := by
             rw [← hu, ← HT2.out, List.take_of_length_le (by omega)]
             exact times_keys HkX.out
            subst hut
            have d5 := Lib.hid (decide_eq_false (show ¬ 1 + q < M2.length by have := HF3.out.len; omega))
            clear hu
            repeat ((fail_if_success (with_reducible show wpList _ _ _ (List.cons _ _) _ _)); (fail_if_success (with_reducible show Code.wp _ (Code.region _ _ true) _ _ _)); go_step)
            (with_reducible refine' wl_valS ?_ ?_ ?_); rotate_left; exact rfl; exact (v_moveT (.inl rfl) rfl)
            simp only [Act.put, zA, zB, zC]
            (with_reducible refine' wl_valS ?_ ?_ ?_); rotate_left; exact rfl; exact (v_moveT (.inl rfl) rfl)
            simp only [Act.put, zA, zB, zC]
            (with_reducible refine' wl_valS ?_ ?_ ?_); rotate_left; exact rfl; exact (v_len rfl rfl Try.underlying33 hM63)
            simp only [Act.put, zA, zB, zC]
            (with_reducible refine' wl_valS ?_ ?_ ?_); rotate_left; exact rfl; exact (v_lss rfl rfl rfl)
            simp only [Act.put, zA, zB, zC]
            rw [d3.out]
            repeat ((fail_if_success (with_reducible show wpList _ _ _ (List.cons _ _) _ _)); (fail_if_success (with_reducible show Code.wp _ (Code.region _ _ true) _ _ _)); (fail_if_success (with_reducible show Code.wp _ (Code.cond _ _ _) _ _ _)); go_step)
            refine wp_cond_false (by first | rfl | exact congrArg Value.bool (decide_eq_false (by omega))) ?_
            skip
            repeat ((fail_if_success (with_reducible show wpList _ _ _ (List.cons _ _) _ _)); (fail_if_success (with_reducible show Code.wp _ (Code.region _ _ true) _ _ _)); go_step)
            (with_reducible refine' wl_valS ?_ ?_ ?_); rotate_left; exact rfl; exact (v_moveT (.inl rfl) rfl)
            simp only [Act.put, zA, zB, zC]
            (with_reducible refine' wl_valS ?_ ?_ ?_); rotate_left; exact rfl; exact (v_moveT (.inl rfl) rfl)
            simp only [Act.put, zA, zB, zC]
            (with_reducible refine' wl_valS ?_ ?_ ?_); rotate_left; exact rfl; exact (v_neqS rfl rfl rfl)
            simp only [Act.put, zA, zB, zC]
            (with_reducible refine' wl_valS ?_ ?_ ?_); rotate_left; exact rfl; exact (v_moveT (.inl rfl) rfl)
            simp only [Act.put, zA, zB, zC]
            (with_reducible refine' wl_valS ?_ ?_ ?_); rotate_left; exact rfl; exact (v_moveT (.inl rfl) rfl)
            simp only [Act.put, zA, zB, zC]
            (with_reducible refine' wl_valS ?_ ?_ ?_); rotate_left; exact rfl; exact (v_len rfl rfl Try.underlying33 hM63)
            simp only [Act.put, zA, zB, zC]
            (with_reducible refine' wl_valS ?_ ?_ ?_); rotate_left; exact rfl; exact (v_moveT (.inl rfl) rfl)
            simp only [Act.put, zA, zB, zC]
            (with_reducible refine' wl_valS ?_ ?_ ?_); rotate_left; exact rfl; exact (v_rem (n := 64) rfl rfl rfl (by omega))
            simp only [Act.put, zA, zB, zC]
            rw [HQ.out]
            (with_reducible refine' wl_valS ?_ ?_ ?_); rotate_left; exact rfl; exact (v_convInt rfl rfl Try.underlying5 Try.underlying3 (w_i64 (by omega)))
            simp only [Act.put, zA, zB, zC]
            (with_reducible refine' wl_valS ?_ ?_ ?_); rotate_left; exact rfl; exact (v_add (m := 1) rfl rfl rfl (w_i64 (by omega)))
            simp only [Act.put, zA, zB, zC]
            (with_reducible refine' wl_valS ?_ ?_ ?_); rotate_left; exact rfl; exact (v_gtr rfl rfl rfl)
            simp only [Act.put, zA, zB, zC]
            rw [d5.out]
            (with_reducible refine' wl_valS ?_ ?_ ?_); rotate_left; exact rfl; exact (v_orF rfl rfl rfl)
            simp only [Act.put, zA, zB, zC]
            repeat ((fail_if_success (with_reducible show wpList _ _ _ (List.cons _ _) _ _)); (fail_if_success (with_reducible show Code.wp _ (Code.region _ _ true) _ _ _)); (fail_if_success (with_reducible show Code.wp _ (Code.cond _ _ _) _ _ _)); go_step)
            refine wp_cond_false (by first | rfl | exact congrArg Value.bool (decide_eq_false (by omega))) ?_
            skip
            repeat ((fail_if_success (with_reducible show wpList _ _ _ (List.cons _ _) _ _)); (fail_if_success (with_reducible show Code.wp _ (Code.region _ _ true) _ _ _)); go_step)
            (with_reducible refine' wl_valS ?_ ?_ ?_); rotate_left; exact rfl; exact (v_moveT (.inl rfl) rfl)
            simp only [Act.put, zA, zB, zC]
            (with_reducible refine' wl_valS ?_ ?_ ?_); rotate_left; exact rfl; exact (v_add (n := 1) rfl rfl rfl (w_i64 (by omega)))
            simp only [Act.put, zA, zB, zC]
            (with_reducible refine' wl_valS ?_ ?_ ?_); rotate_left; exact rfl; exact (v_moveT (.inr rfl) rfl)
            simp only [Act.put, zA, zB, zC]
            go_wp2
            go_roundw
            case rel => exact ⟨j + 1, M2, v2, b2, RX, by omega, rfl, by rw [HT2.out], HF3.out, hE0⟩
            case measure => simp [intOf]; omega
         ·
          repeat ((fail_if_success (with_reducible show wpList _ _ _ (List.cons _ _) _ _)); (fail_if_success (with_reducible show Code.wp _ (Code.region _ _ true) _ _ _)); (fail_if_success (with_reducible show Code.wp _ (Code.cond _ _ _) _ _ _)); go_step)
          refine wp_cond_true (by first | rfl | exact congrArg Value.bool (decide_eq_true (by omega))) ?_
          skip
          repeat ((fail_if_success (with_reducible show wpList _ _ _ (List.cons _ _) _ _)); (fail_if_success (with_reducible show Code.wp _ (Code.region _ _ true) _ _ _)); go_step)
          (with_reducible refine' wl_valS ?_ ?_ ?_); rotate_left; exact rfl; exact (v_moveT (.inl rfl) rfl)
          simp only [Act.put, zA, zB, zC]
          (with_reducible refine' wl_valS ?_ ?_ ?_); rotate_left; exact rfl; exact (v_add (n := 1) rfl rfl rfl (w_i64 (by omega)))
          simp only [Act.put, zA, zB, zC]
          (with_reducible refine' wl_valS ?_ ?_ ?_); rotate_left; exact rfl; exact (v_moveT (.inr rfl) rfl)
          simp only [Act.put, zA, zB, zC]
          obtain ⟨T9, hT9⟩ : ∃ t, T + 1 = t := ⟨_, rfl⟩
          rw [hT9]
          obtain ⟨M2, v2, b2, R2, T2, hEE, hFF, hTT, hTe⟩ : ∃ M2 v2 b2 R2 T2, KE w g1 g0 (1 + q) pk v2 b2 R2 w43 ∧ KF w g0 (1 + q) pk M2 v2 b2 R2 ∧ times pk.key M2 = T2 ∧ T2 = T9 := ⟨_, _, _, _, _, hE43, HF2'.out, rfl, by rw [hTn, hb]; exact hT9⟩
          subst hTe
          have HF2 := Lib.hid hFF
          have HT2 := Lib.hid hTT
          clear hE43 hFF hTT
          repeat ((fail_if_success (with_reducible show wpList _ _ _ (List.cons _ _) _ _)); (fail_if_success (with_reducible show Code.wp _ (Code.region _ _ true) _ _ _)); go_step)
          (with_reducible refine' wl_valS ?_ ?_ ?_); rotate_left; exact rfl; exact (v_moveC (.inr rfl))
          simp only [Act.put, zA, zB, zC]
          repeat ((fail_if_success (with_reducible show wpList _ _ _ (List.cons _ _) _ _)); (fail_if_success (with_reducible show Code.wp _ (Code.region _ _ true) _ _ _)); go_step)
          (with_reducible refine' wl_valS ?_ ?_ ?_); rotate_left; exact rfl; exact (v_moveT (.inl rfl) rfl)
          simp only [Act.put, zA, zB, zC]
          refine wl_step (st_calls rfl (run_call rfl Try.call8) (HF2.out.list hEE hN2) ?_)
          rintro _ w61 ⟨pX, cX, NX, RX, rfl, hkX, hsX, hE61, hrX, hseX⟩
          skip
          refine ⟨_, rfl, ?_⟩
          clear hEE
          simp only [Act.put, zA, zB, zC]
          (with_reducible refine' wl_valS ?_ ?_ ?_); rotate_left; exact rfl; exact (v_moveT (.inr rfl) rfl)
          simp only [Act.put, zA, zB, zC]
          have HF3 := Lib.hid (HF2.out.more hsX)
          have HkX := Lib.hid hkX
          have HrX := Lib.hid hrX
          have HseX := Lib.hid hseX
          have hlX : NX.length = M2.length := keys_len hkX
          have hM64 : M2.length ≤ 64 := by have := HF3.out.len; omega
          have hM63 : M2.length < 9223372036854775808 := by omega
          have HdX := Lib.hid (keys_digs hkX HF3.out.digs)
          have hst := hE61
          clear hE61 hkX hsX hrX hseX
          repeat ((fail_if_success (with_reducible show wpList _ _ _ (List.cons _ _) _ _)); (fail_if_success (with_reducible show Code.wp _ (Code.region _ _ true) _ _ _)); go_step)
          (with_reducible refine' wl_valS ?_ ?_ ?_); rotate_left; exact rfl; exact (v_moveC (.inr rfl))
          simp only [Act.put, zA, zB, zC]
          go_wp2
          go_loopw [16, 18] (fun t i wr => ∃ k : Nat, k ≤ M2.length ∧ i = .int .i64 k ∧ t = .int .i64 ((times pk.key (NX.take k) : Nat) : Int) ∧ KE w g1 g0 (1 + q) pk v2 b2 RX wr) (fun _ i _ => M2.length - (intOf i).toNat)
          case atStart => exact ⟨0, Nat.zero_le _, rfl, by rw [List.take_zero]; rfl, hst⟩
          case round =>
           clear hst
           obtain ⟨k, hk, rfl, rfl, hE0⟩ := hrel
           obtain ⟨u, hu⟩ : ∃ u, times pk.key (NX.take k) = u := ⟨_, rfl⟩
           have hu64 : u ≤ 64 := by
            have := times_le pk.key (NX.take k)
            rw [hu, List.length_take] at this
            omega
           rw [hu]
           by_cases hkl : k < M2.length
           ·
            have d3 := Lib.hid (decide_eq_true hkl)
            have hgx : NX[k]? = some NX[k] := List.getElem?_eq_getElem (by omega)
            obtain ⟨m5, hme⟩ : ∃ m, NX[k] = m := ⟨_, rfl⟩
            rw [hme] at hgx
            have hm5 : m5 ∈ NX := List.mem_of_getElem? hgx
            obtain ⟨b5, off5, rfl, -⟩ := (HrX.out _ (KE.rest hE0)).elem hkl
            have hran5 : ∀ w', KE w g1 g0 (1 + q) pk v2 b2 RX w' → ∀ w1, Below w'.heap.size w' w1 → w1.rangeAt b5 (off5 + k * 3) [.int .i64 m5.fr, .int .i64 m5.to, m5.sl] := fun w' hE' w1 hb1 => by
             obtain ⟨b', off', he, hr⟩ := (HrX.out _ (KE.rest hE')).elem hkl
             injection he with he
             injection he with h1 h2 _
             subst h1 h2
             have := hr w1 hb1
             rwa [pcells_at hgx] at this
            have Hran5 := Lib.hid hran5
            have HSame5 : Hid (∀ w', KE w g1 g0 (1 + q) pk v2 b2 RX w' → Gives 10 #[pkv m5, pkv pk] w' (.bool (m5.key == pk.key))) := Lib.hid (fun w' hE' => by
             have h := Same_any (f1 := m5.fr) (t1 := m5.to) (f2 := pk.fr) (t2 := pk.to) (HseX.out m5 hm5 _ (KE.rest hE')) (HP.out.1.below hE'.below) (HdX.out m5 hm5).1 HP.out.2.1
             rwa [same_key] at h)
            have Htt := Lib.hid (times_take (k := pk.key) hgx)
            have Hu := Lib.hid hu
            clear hran5 hme hgx hu
            repeat ((fail_if_success (with_reducible show wpList _ _ _ (List.cons _ _) _ _)); (fail_if_success (with_reducible show Code.wp _ (Code.region _ _ true) _ _ _)); go_step)
            (with_reducible refine' wl_valS ?_ ?_ ?_); rotate_left; exact rfl; exact (v_moveT (.inl rfl) rfl)
            simp only [Act.put, zA, zB, zC]
            (with_reducible refine' wl_valS ?_ ?_ ?_); rotate_left; exact rfl; exact (v_moveT (.inl rfl) rfl)
            simp only [Act.put, zA, zB, zC]
            (with_reducible refine' wl_valS ?_ ?_ ?_); rotate_left; exact rfl; exact (v_len rfl rfl Try.underlying33 hM63)
            simp only [Act.put, zA, zB, zC]
            (with_reducible refine' wl_valS ?_ ?_ ?_); rotate_left; exact rfl; exact (v_lss rfl rfl rfl)
            simp only [Act.put, zA, zB, zC]
            rw [d3.out]
            repeat ((fail_if_success (with_reducible show wpList _ _ _ (List.cons _ _) _ _)); (fail_if_success (with_reducible show Code.wp _ (Code.region _ _ true) _ _ _)); (fail_if_success (with_reducible show Code.wp _ (Code.cond _ _ _) _ _ _)); go_step)
            refine wp_cond_true (by first | rfl | exact congrArg Value.bool (decide_eq_true (by omega))) ?_
            skip
            repeat ((fail_if_success (with_reducible show wpList _ _ _ (List.cons _ _) _ _)); (fail_if_success (with_reducible show Code.wp _ (Code.region _ _ true) _ _ _)); go_step)
            refine wp_region_B (n := 6) 6 (by kernel_rfl) rfl hE0 ?_
            intro w1 hb1 hE1
            clear hE0
            refine wpB_take (i := 0) (by kernel_rfl) rfl (by kernel_rfl) (fun _ _ _ h => h) rfl (v_moveT (.inl rfl) rfl) ?_
            simp only [Act.put, zA, zB, zC]
            refine wpB_take (i := 1) (by kernel_rfl) rfl (by kernel_rfl) (fun _ _ _ h => h) rfl (v_moveT (.inl rfl) rfl) ?_
            simp only [Act.put, zA, zB, zC]
            refine wpB_take (i := 2) (by kernel_rfl) rfl (by kernel_rfl) (fun _ _ _ h => h) rfl (v_indexSs (s := 3) rfl rfl rfl Try.underlying33 (by kernel_rfl) hkl) ?_
            simp only [Act.put, zA, zB, zC]
            refine wpB_take (i := 3) (by kernel_rfl) rfl (by kernel_rfl) (fun _ _ _ h => h) rfl (v_loadMid (cs := #[.int .i64 m5.fr, .int .i64 m5.to, m5.sl]) rfl rfl (Hran5.out _ hE1) Try.underlying25 rfl (by kernel_rfl)) ?_
            simp only [Act.put, zA, zB, zC]
            refine wpB_take (i := 4) (by kernel_rfl) rfl (by kernel_rfl) (fun _ _ _ h => h) rfl (v_load (i := 0) (hE1.perm (pk4 ..)) rfl rfl rfl Try.underlying25 rfl (sz_of (n := 3) (by kernel_rfl) rfl)) ?_
            simp only [Act.put, zA, zB, zC]
            refine wpB_step (i := 5) (by kernel_rfl) rfl (st_gives hE1 rfl (run_call rfl Try.call10) (HSame5.out _ hE1) ?_)
            intro w2 hb2 hE2
            clear hE1
            refine ⟨fun _ => hb2, ?_⟩
            simp only [Act.put, zA, zB, zC]
            refine wpB_done (by kernel_rfl) ?_ _
            rcases hb : (m5.key == pk.key) with _ | _
            ·
             repeat ((fail_if_success (with_reducible show wpList _ _ _ (List.cons _ _) _ _)); (fail_if_success (with_reducible show Code.wp _ (Code.region _ _ true) _ _ _)); (fail_if_success (with_reducible show Code.wp _ (Code.cond _ _ _) _ _ _)); go_step)
             refine wp_cond_false (by first | rfl | exact congrArg Value.bool (decide_eq_false (by omega))) ?_
             skip
             repeat ((fail_if_success (with_reducible show wpList _ _ _ (List.cons _ _) _ _)); (fail_if_success (with_reducible show Code.wp _ (Code.region _ _ true) _ _ _)); go_step)
             (with_reducible refine' wl_valS ?_ ?_ ?_); rotate_left; exact rfl; exact (v_moveT (.inl rfl) rfl)
             simp only [Act.put, zA, zB, zC]
             (with_reducible refine' wl_valS ?_ ?_ ?_); rotate_left; exact rfl; exact (v_add (n := 1) rfl rfl rfl (w_i64 (by omega)))
             simp only [Act.put, zA, zB, zC]
             (with_reducible refine' wl_valS ?_ ?_ ?_); rotate_left; exact rfl; exact (v_moveT (.inr rfl) rfl)
             simp only [Act.put, zA, zB, zC]
             go_wp2
             go_roundw
             case rel => exact ⟨k + 1, by omega, rfl, by rw [Htt.out, Hu.out, hb]; rfl, hE2⟩
             case measure => simp [intOf]; omega
            ·
             repeat ((fail_if_success (with_reducible show wpList _ _ _ (List.cons _ _) _ _)); (fail_if_success (with_reducible show Code.wp _ (Code.region _ _ true) _ _ _)); (fail_if_success (with_reducible show Code.wp _ (Code.cond _ _ _) _ _ _)); go_step)
             refine wp_cond_true (by first | rfl | exact congrArg Value.bool (decide_eq_true (by omega))) ?_
             skip
             repeat ((fail_if_success (with_reducible show wpList _ _ _ (List.cons _ _) _ _)); (fail_if_success (with_reducible show Code.wp _ (Code.region _ _ true) _ _ _)); go_step)
             (with_reducible refine' wl_valS ?_ ?_ ?_); rotate_left; exact rfl; exact (v_moveT (.inl rfl) rfl)
             simp only [Act.put, zA, zB, zC]
             (with_reducible refine' wl_valS ?_ ?_ ?_); rotate_left; exact rfl; exact (v_add (n := 1) rfl rfl rfl (w_i64 (by omega)))
             simp only [Act.put, zA, zB, zC]
             (with_reducible refine' wl_valS ?_ ?_ ?_); rotate_left; exact rfl; exact (v_moveT (.inr rfl) rfl)
             simp only [Act.put, zA, zB, zC]
             repeat ((fail_if_success (with_reducible show wpList _ _ _ (List.cons _ _) _ _)); (fail_if_success (with_reducible show Code.wp _ (Code.region _ _ true) _ _ _)); go_step)
             (with_reducible refine' wl_valS ?_ ?_ ?_); rotate_left; exact rfl; exact (v_moveT (.inl rfl) rfl)
             simp only [Act.put, zA, zB, zC]
             (with_reducible refine' wl_valS ?_ ?_ ?_); rotate_left; exact rfl; exact (v_add (n := 1) rfl rfl rfl (w_i64 (by omega)))
             simp only [Act.put, zA, zB, zC]
             (with_reducible refine' wl_valS ?_ ?_ ?_); rotate_left; exact rfl; exact (v_moveT (.inr rfl) rfl)
             simp only [Act.put, zA, zB, zC]
             go_wp2
             go_roundw
             case rel => exact ⟨k + 1, by omega, rfl, by rw [Htt.out, Hu.out, hb]; rfl, hE2⟩
             case measure => simp [intOf]; omega
           ·
            have hk' : k = M2.length := by omega
            subst hk'
            have d3 := Lib.hid (decide_eq_false hkl)
            have hut : u = T2 := by
             rw [← hu, ← HT2.out, List.take_of_length_le (by omega)]
             exact times_keys HkX.out
            subst hut
            have d5 := Lib.hid (decide_eq_false (show ¬ 1 + q < M2.length by have := HF3.out.len; omega))
            clear hu
            repeat ((fail_if_success (with_reducible show wpList _ _ _ (List.cons _ _) _ _)); (fail_if_success (with_reducible show Code.wp _ (Code.region _ _ true) _ _ _)); go_step)
            (with_reducible refine' wl_valS ?_ ?_ ?_); rotate_left; exact rfl; exact (v_moveT (.inl rfl) rfl)
            simp only [Act.put, zA, zB, zC]
            (with_reducible refine' wl_valS ?_ ?_ ?_); rotate_left; exact rfl; exact (v_moveT (.inl rfl) rfl)
            simp only [Act.put, zA, zB, zC]
            (with_reducible refine' wl_valS ?_ ?_ ?_); rotate_left; exact rfl; exact (v_len rfl rfl Try.underlying33 hM63)
            simp only [Act.put, zA, zB, zC]
            (with_reducible refine' wl_valS ?_ ?_ ?_); rotate_left; exact rfl; exact (v_lss rfl rfl rfl)
            simp only [Act.put, zA, zB, zC]
            rw [d3.out]
            repeat ((fail_if_success (with_reducible show wpList _ _ _ (List.cons _ _) _ _)); (fail_if_success (with_reducible show Code.wp _ (Code.region _ _ true) _ _ _)); (fail_if_success (with_reducible show Code.wp _ (Code.cond _ _ _) _ _ _)); go_step)
            refine wp_cond_false (by first | rfl | exact congrArg Value.bool (decide_eq_false (by omega))) ?_
            skip
            repeat ((fail_if_success (with_reducible show wpList _ _ _ (List.cons _ _) _ _)); (fail_if_success (with_reducible show Code.wp _ (Code.region _ _ true) _ _ _)); go_step)
            (with_reducible refine' wl_valS ?_ ?_ ?_); rotate_left; exact rfl; exact (v_moveT (.inl rfl) rfl)
            simp only [Act.put, zA, zB, zC]
            (with_reducible refine' wl_valS ?_ ?_ ?_); rotate_left; exact rfl; exact (v_moveT (.inl rfl) rfl)
            simp only [Act.put, zA, zB, zC]
            (with_reducible refine' wl_valS ?_ ?_ ?_); rotate_left; exact rfl; exact (v_neqS rfl rfl rfl)
            simp only [Act.put, zA, zB, zC]
            (with_reducible refine' wl_valS ?_ ?_ ?_); rotate_left; exact rfl; exact (v_moveT (.inl rfl) rfl)
            simp only [Act.put, zA, zB, zC]
            (with_reducible refine' wl_valS ?_ ?_ ?_); rotate_left; exact rfl; exact (v_moveT (.inl rfl) rfl)
            simp only [Act.put, zA, zB, zC]
            (with_reducible refine' wl_valS ?_ ?_ ?_); rotate_left; exact rfl; exact (v_len rfl rfl Try.underlying33 hM63)
            simp only [Act.put, zA, zB, zC]
            (with_reducible refine' wl_valS ?_ ?_ ?_); rotate_left; exact rfl; exact (v_moveT (.inl rfl) rfl)
            simp only [Act.put, zA, zB, zC]
            (with_reducible refine' wl_valS ?_ ?_ ?_); rotate_left; exact rfl; exact (v_rem (n := 64) rfl rfl rfl (by omega))
            simp only [Act.put, zA, zB, zC]
            rw [HQ.out]
            (with_reducible refine' wl_valS ?_ ?_ ?_); rotate_left; exact rfl; exact (v_convInt rfl rfl Try.underlying5 Try.underlying3 (w_i64 (by omega)))
            simp only [Act.put, zA, zB, zC]
            (with_reducible refine' wl_valS ?_ ?_ ?_); rotate_left; exact rfl; exact (v_add (m := 1) rfl rfl rfl (w_i64 (by omega)))
            simp only [Act.put, zA, zB, zC]
            (with_reducible refine' wl_valS ?_ ?_ ?_); rotate_left; exact rfl; exact (v_gtr rfl rfl rfl)
            simp only [Act.put, zA, zB, zC]
            rw [d5.out]
            (with_reducible refine' wl_valS ?_ ?_ ?_); rotate_left; exact rfl; exact (v_orF rfl rfl rfl)
            simp only [Act.put, zA, zB, zC]
            repeat ((fail_if_success (with_reducible show wpList _ _ _ (List.cons _ _) _ _)); (fail_if_success (with_reducible show Code.wp _ (Code.region _ _ true) _ _ _)); (fail_if_success (with_reducible show Code.wp _ (Code.cond _ _ _) _ _ _)); go_step)
            refine wp_cond_false (by first | rfl | exact congrArg Value.bool (decide_eq_false (by omega))) ?_
            skip
            repeat ((fail_if_success (with_reducible show wpList _ _ _ (List.cons _ _) _ _)); (fail_if_success (with_reducible show Code.wp _ (Code.region _ _ true) _ _ _)); go_step)
            (with_reducible refine' wl_valS ?_ ?_ ?_); rotate_left; exact rfl; exact (v_moveT (.inl rfl) rfl)
            simp only [Act.put, zA, zB, zC]
            (with_reducible refine' wl_valS ?_ ?_ ?_); rotate_left; exact rfl; exact (v_add (n := 1) rfl rfl rfl (w_i64 (by omega)))
            simp only [Act.put, zA, zB, zC]
            (with_reducible refine' wl_valS ?_ ?_ ?_); rotate_left; exact rfl; exact (v_moveT (.inr rfl) rfl)
            simp only [Act.put, zA, zB, zC]
            go_wp2
            go_roundw
            case rel => exact ⟨j + 1, M2, v2, b2, RX, by omega, rfl, by rw [HT2.out], HF3.out, hE0⟩
            case measure => simp [intOf]; omega
        ·
         have htk : ([m1].take (1 + q - M.length)) = [] := by rw [show 1 + q - M.length = 0 by omega]; rfl
         repeat ((fail_if_success (with_reducible show wpList _ _ _ (List.cons _ _) _ _)); (fail_if_success (with_reducible show Code.wp _ (Code.region _ _ true) _ _ _)); go_step)
         refine wp_region_B (n := 14) 3 (by kernel_rfl) rfl hE1 ?_
         intro w41 hb41 hE41
         clear hE1
         refine wpB_take1 (i := 0) (by kernel_rfl) rfl (by kernel_rfl) (fun _ _ _ h => h) rfl (v_moveT (.inl rfl) rfl) ?_
         simp only [Act.put, zA, zB, zC]
         refine wpB_take1 (i := 1) (by kernel_rfl) rfl (by kernel_rfl) (fun _ _ _ h => h) rfl (v_fieldB (s := 0) rfl rfl Try.underlying36 rfl (by kernel_rfl) rfl) ?_
         simp only [Act.put, zA, zB, zC]
         refine wpB_take1 (i := 2) (by kernel_rfl) rfl (by kernel_rfl) (fun _ _ _ h => h) rfl (v_cellB (v := .int .i64 (idx : Int)) (i := 0) (HO2.out _ _ _ _ hsR hE41) rfl rfl rfl Try.underlying3 rfl (congrArg (fun z => some (Value.int .i64 z)) Hidx.out)) ?_
         simp only [Act.put, zA, zB, zC]
         refine wpB_step (i := 3) (by kernel_rfl) rfl (st_calls rfl (run_call rfl Try.call11) (HF1'.out.copy hE41 hN2 Hgi.out) ?_)
         rintro _ w42 ⟨v2', b2', M2', RC, rfl, hk2, hs2, hF2, hE42⟩
         skip
         refine ⟨_, rfl, ?_⟩
         clear hE41
         refine ⟨fun h => absurd h (by decide), ?_⟩
         simp only [Act.put, zA, zB, zC]
         rw [if_neg hroom]
         have HF2' := Lib.hid hF2
         have Hk2 := Lib.hid hk2
         clear hF2 hk2
         refine wpB_up (m' := 14) (by decide) ?_
         refine wpB_take (i := 4) (by kernel_rfl) rfl (by kernel_rfl) (fun _ _ _ h => h) rfl (v_run fun w9 => by go_simp; with_reducible rfl) ?_
         simp only [Act.put, zA, zB, zC]
         refine wpB_take (i := 5) (by kernel_rfl) rfl (by kernel_rfl) (fun _ _ _ h => h) rfl (v_moveT (.inl rfl) rfl) ?_
         simp only [Act.put, zA, zB, zC]
         refine wpB_pass (i := 6) (by kernel_rfl) rfl (by kernel_rfl) (fun _ _ _ h => h) rfl ?_
         simp only [Act.put, zA, zB, zC]
         refine wpB_pass (i := 7) (by kernel_rfl) rfl (by kernel_rfl) (fun _ _ _ h => h) rfl ?_
         simp only [Act.put, zA, zB, zC]
         refine wpB_pass (i := 8) (by kernel_rfl) rfl (by kernel_rfl) (fun _ _ _ h => h) rfl ?_
         simp only [Act.put, zA, zB, zC]
         refine wpB_pass (i := 9) (by kernel_rfl) rfl (by kernel_rfl) (fun _ _ _ h => h) rfl ?_
         simp only [Act.put, zA, zB, zC]
         refine wpB_pass (i := 10) (by kernel_rfl) rfl (by kernel_rfl) (fun _ _ _ h => h) rfl ?_
         simp only [Act.put, zA, zB, zC]
         refine wpB_pass (i := 11) (by kernel_rfl) rfl (by kernel_rfl) (fun _ _ _ h => h) rfl ?_
         simp only [Act.put, zA, zB, zC]
         refine wpB_pass (i := 12) (by kernel_rfl) rfl (by kernel_rfl) (fun _ _ _ h => h) rfl ?_
         simp only [Act.put, zA, zB, zC]
         refine wpB_take (i := 13) (by kernel_rfl) rfl (by kernel_rfl) (fun _ _ _ h => h) rfl (v_andF rfl rfl) ?_
         simp only [Act.put, zA, zB, zC]
         refine wpB_done (by kernel_rfl) ?_ _
         have hTn : times pk.key M2' = T := by
          rw [times_keys Hk2.out, htk, List.append_nil, HT.out]
         repeat ((fail_if_success (with_reducible show wpList _ _ _ (List.cons _ _) _ _)); (fail_if_success (with_reducible show Code.wp _ (Code.region _ _ true) _ _ _)); (fail_if_success (with_reducible show Code.wp _ (Code.cond _ _ _) _ _ _)); go_step)
         refine wp_cond_false (by first | rfl | exact congrArg Value.bool (decide_eq_false (by omega))) ?_
         skip
         obtain ⟨M2, v2, b2, R2, T2, hEE, hFF, hTT, hTe⟩ : ∃ M2 v2 b2 R2 T2, KE w g1 g0 (1 + q) pk v2 b2 R2 w42 ∧ KF w g0 (1 + q) pk M2 v2 b2 R2 ∧ times pk.key M2 = T2 ∧ T2 = T := ⟨_, _, _, _, _, hE42, HF2'.out, rfl, hTn⟩
         subst hTe
         have HF2 := Lib.hid hFF
         have HT2 := Lib.hid hTT
         clear hE42 hFF hTT
         repeat ((fail_if_success (with_reducible show wpList _ _ _ (List.cons _ _) _ _)); (fail_if_success (with_reducible show Code.wp _ (Code.region _ _ true) _ _ _)); go_step)
         (with_reducible refine' wl_valS ?_ ?_ ?_); rotate_left; exact rfl; exact (v_moveC (.inr rfl))
         simp only [Act.put, zA, zB, zC]
         repeat ((fail_if_success (with_reducible show wpList _ _ _ (List.cons _ _) _ _)); (fail_if_success (with_reducible show Code.wp _ (Code.region _ _ true) _ _ _)); go_step)
         (with_reducible refine' wl_valS ?_ ?_ ?_); rotate_left; exact rfl; exact (v_moveT (.inl rfl) rfl)
         simp only [Act.put, zA, zB, zC]
         refine wl_step (st_calls rfl (run_call rfl Try.call8) (HF2.out.list hEE hN2) ?_)
         rintro _ w61 ⟨pX, cX, NX, RX, rfl, hkX, hsX, hE61, hrX, hseX⟩
         skip
         refine ⟨_, rfl, ?_⟩
         clear hEE
         simp only [Act.put, zA, zB, zC]
         (with_reducible refine' wl_valS ?_ ?_ ?_); rotate_left; exact rfl; exact (v_moveT (.inr rfl) rfl)
         simp only [Act.put, zA, zB, zC]
         have HF3 := Lib.hid (HF2.out.more hsX)
         have HkX := Lib.hid hkX
         have HrX := Lib.hid hrX
         have HseX := Lib.hid hseX
         have hlX : NX.length = M2.length := keys_len hkX
         have hM64 : M2.length ≤ 64 := by have := HF3.out.len; omega
         have hM63 : M2.length < 9223372036854775808 := by omega
         have HdX := Lib.hid (keys_digs hkX HF3.out.digs)
         have hst := hE61
         clear hE61 hkX hsX hrX hseX
         repeat ((fail_if_success (with_reducible show wpList _ _ _ (List.cons _ _) _ _)); (fail_if_success (with_reducible show Code.wp _ (Code.region _ _ true) _ _ _)); go_step)
         (with_reducible refine' wl_valS ?_ ?_ ?_); rotate_left; exact rfl; exact (v_moveC (.inr rfl))
         simp only [Act.put, zA, zB, zC]
         go_wp2
         go_loopw [16, 18] (fun t i wr => ∃ k : Nat, k ≤ M2.length ∧ i = .int .i64 k ∧ t = .int .i64 ((times pk.key (NX.take k) : Nat) : Int) ∧ KE w g1 g0 (1 + q) pk v2 b2 RX wr) (fun _ i _ => M2.length - (intOf i).toNat)
         case atStart => exact ⟨0, Nat.zero_le _, rfl, by rw [List.take_zero]; rfl, hst⟩
         case round =>
          clear hst
          obtain ⟨k, hk, rfl, rfl, hE0⟩ := hrel
          obtain ⟨u, hu⟩ : ∃ u, times pk.key (NX.take k) = u := ⟨_, rfl⟩
          have hu64 : u ≤ 64 := by
           have := times_le pk.key (NX.take k)
           rw [hu, List.length_take] at this
           omega
          rw [hu]
          by_cases hkl : k < M2.length
          ·
           have d3 := Lib.hid (decide_eq_true hkl)
           have hgx : NX[k]? = some NX[k] := List.getElem?_eq_getElem (by omega)
           obtain ⟨m5, hme⟩ : ∃ m, NX[k] = m := ⟨_, rfl⟩
           rw [hme] at hgx
           have hm5 : m5 ∈ NX := List.mem_of_getElem? hgx
           obtain ⟨b5, off5, rfl, -⟩ := (HrX.out _ (KE.rest hE0)).elem hkl
           have hran5 : ∀ w', KE w g1 g0 (1 + q) pk v2 b2 RX w' → ∀ w1, Below w'.heap.size w' w1 → w1.rangeAt b5 (off5 + k * 3) [.int .i64 m5.fr, .int .i64 m5.to, m5.sl] := fun w' hE' w1 hb1 => by
            obtain ⟨b', off', he, hr⟩ := (HrX.out _ (KE.rest hE')).elem hkl
            injection he with he
            injection he with h1 h2 _
            subst h1 h2
            have := hr w1 hb1
            rwa [pcells_at hgx] at this
           have Hran5 := Lib.hid hran5
           have HSame5 : Hid (∀ w', KE w g1 g0 (1 + q) pk v2 b2 RX w' → Gives 10 #[pkv m5, pkv pk] w' (.bool (m5.key == pk.key))) := Lib.hid (fun w' hE' => by
            have h := Same_any (f1 := m5.fr) (t1 := m5.to) (f2 := pk.fr) (t2 := pk.to) (HseX.out m5 hm5 _ (KE.rest hE')) (HP.out.1.below hE'.below) (HdX.out m5 hm5).1 HP.out.2.1
            rwa [same_key] at h)
           have Htt := Lib.hid (times_take (k := pk.key) hgx)
           have Hu := Lib.hid hu
           clear hran5 hme hgx hu
           repeat ((fail_if_success (with_reducible show wpList _ _ _ (List.cons _ _) _ _)); (fail_if_success (with_reducible show Code.wp _ (Code.region _ _ true) _ _ _)); go_step)
           (with_reducible refine' wl_valS ?_ ?_ ?_); rotate_left; exact rfl; exact (v_moveT (.inl rfl) rfl)
           simp only [Act.put, zA, zB, zC]
           (with_reducible refine' wl_valS ?_ ?_ ?_); rotate_left; exact rfl; exact (v_moveT (.inl rfl) rfl)
           simp only [Act.put, zA, zB, zC]
           (with_reducible refine' wl_valS ?_ ?_ ?_); rotate_left; exact rfl; exact (v_len rfl rfl Try.underlying33 hM63)
           simp only [Act.put, zA, zB, zC]
           (with_reducible refine' wl_valS ?_ ?_ ?_); rotate_left; exact rfl; exact (v_lss rfl rfl rfl)
           simp only [Act.put, zA, zB, zC]
           rw [d3.out]
           repeat ((fail_if_success (with_reducible show wpList _ _ _ (List.cons _ _) _ _)); (fail_if_success (with_reducible show Code.wp _ (Code.region _ _ true) _ _ _)); (fail_if_success (with_reducible show Code.wp _ (Code.cond _ _ _) _ _ _)); go_step)
           refine wp_cond_true (by first | rfl | exact congrArg Value.bool (decide_eq_true (by omega))) ?_
           skip
           repeat ((fail_if_success (with_reducible show wpList _ _ _ (List.cons _ _) _ _)); (fail_if_success (with_reducible show Code.wp _ (Code.region _ _ true) _ _ _)); go_step)
           refine wp_region_B (n := 6) 6 (by kernel_rfl) rfl hE0 ?_
           intro w1 hb1 hE1
           clear hE0
           refine wpB_take (i := 0) (by kernel_rfl) rfl (by kernel_rfl) (fun _ _ _ h => h) rfl (v_moveT (.inl rfl) rfl) ?_
           simp only [Act.put, zA, zB, zC]
           refine wpB_take (i := 1) (by kernel_rfl) rfl (by kernel_rfl) (fun _ _ _ h => h) rfl (v_moveT (.inl rfl) rfl) ?_
           simp only [Act.put, zA, zB, zC]
           refine wpB_take (i := 2) (by kernel_rfl) rfl (by kernel_rfl) (fun _ _ _ h => h) rfl (v_indexSs (s := 3) rfl rfl rfl Try.underlying33 (by kernel_rfl) hkl) ?_
           simp only [Act.put, zA, zB, zC]
           refine wpB_take (i := 3) (by kernel_rfl) rfl (by kernel_rfl) (fun _ _ _ h => h) rfl (v_loadMid (cs := #[.int .i64 m5.fr, .int .i64 m5.to, m5.sl]) rfl rfl (Hran5.out _ hE1) Try.underlying25 rfl (by kernel_rfl)) ?_
           simp only [Act.put, zA, zB, zC]
           refine wpB_take (i := 4) (by kernel_rfl) rfl (by kernel_rfl) (fun _ _ _ h => h) rfl (v_load (i := 0) (hE1.perm (pk4 ..)) rfl rfl rfl Try.underlying25 rfl (sz_of (n := 3) (by kernel_rfl) rfl)) ?_
           simp only [Act.put, zA, zB, zC]
           refine wpB_step (i := 5) (by kernel_rfl) rfl (st_gives hE1 rfl (run_call rfl Try.call10) (HSame5.out _ hE1) ?_)
           intro w2 hb2 hE2
           clear hE1
           refine ⟨fun _ => hb2, ?_⟩
           simp only [Act.put, zA, zB, zC]
           refine wpB_done (by kernel_rfl) ?_ _
           rcases hb : (m5.key == pk.key) with _ | _
           ·
            repeat ((fail_if_success (with_reducible show wpList _ _ _ (List.cons _ _) _ _)); (fail_if_success (with_reducible show Code.wp _ (Code.region _ _ true) _ _ _)); (fail_if_success (with_reducible show Code.wp _ (Code.cond _ _ _) _ _ _)); go_step)
            refine wp_cond_false (by first | rfl | exact congrArg Value.bool (decide_eq_false (by omega))) ?_
            skip
            repeat ((fail_if_success (with_reducible show wpList _ _ _ (List.cons _ _) _ _)); (fail_if_success (with_reducible show Code.wp _ (Code.region _ _ true) _ _ _)); go_step)
            (with_reducible refine' wl_valS ?_ ?_ ?_); rotate_left; exact rfl; exact (v_moveT (.inl rfl) rfl)
            simp only [Act.put, zA, zB, zC]
            (with_reducible refine' wl_valS ?_ ?_ ?_); rotate_left; exact rfl; exact (v_add (n := 1) rfl rfl rfl (w_i64 (by omega)))
            simp only [Act.put, zA, zB, zC]
            (with_reducible refine' wl_valS ?_ ?_ ?_); rotate_left; exact rfl; exact (v_moveT (.inr rfl) rfl)
            simp only [Act.put, zA, zB, zC]
            go_wp2
            go_roundw
            case rel => exact ⟨k + 1, by omega, rfl, by rw [Htt.out, Hu.out, hb]; rfl, hE2⟩
            case measure => simp [intOf]; omega
           ·
            repeat ((fail_if_success (with_reducible show wpList _ _ _ (List.cons _ _) _ _)); (fail_if_success (with_reducible show Code.wp _ (Code.region _ _ true) _ _ _)); (fail_if_success (with_reducible show Code.wp _ (Code.cond _ _ _) _ _ _)); go_step)
            refine wp_cond_true (by first | rfl | exact congrArg Value.bool (decide_eq_true (by omega))) ?_
            skip
            repeat ((fail_if_success (with_reducible show wpList _ _ _ (List.cons _ _) _ _)); (fail_if_success (with_reducible show Code.wp _ (Code.region _ _ true) _ _ _)); go_step)
            (with_reducible refine' wl_valS ?_ ?_ ?_); rotate_left; exact rfl; exact (v_moveT (.inl rfl) rfl)
            simp only [Act.put, zA, zB, zC]
            (with_reducible refine' wl_valS ?_ ?_ ?_); rotate_left; exact rfl; exact (v_add (n := 1) rfl rfl rfl (w_i64 (by omega)))
            simp only [Act.put, zA, zB, zC]
            (with_reducible refine' wl_valS ?_ ?_ ?_); rotate_left; exact rfl; exact (v_moveT (.inr rfl) rfl)
            simp only [Act.put, zA, zB, zC]
            repeat ((fail_if_success (with_reducible show wpList _ _ _ (List.cons _ _) _ _)); (fail_if_success (with_reducible show Code.wp _ (Code.region _ _ true) _ _ _)); go_step)
            (with_reducible refine' wl_valS ?_ ?_ ?_); rotate_left; exact rfl; exact (v_moveT (.inl rfl) rfl)
            simp only [Act.put, zA, zB, zC]
            (with_reducible refine' wl_valS ?_ ?_ ?_); rotate_left; exact rfl; exact (v_add (n := 1) rfl rfl rfl (w_i64 (by omega)))
            simp only [Act.put, zA, zB, zC]
            (with_reducible refine' wl_valS ?_ ?_ ?_); rotate_left; exact rfl; exact (v_moveT (.inr rfl) rfl)
            simp only [Act.put, zA, zB, zC]
            go_wp2
            go_roundw
            case rel => exact ⟨k + 1, by omega, rfl, by rw [Htt.out, Hu.out, hb]; rfl, hE2⟩
            case measure => simp [intOf]; omega
          ·
           have hk' : k = M2.length := by omega
           subst hk'
           have d3 := Lib.hid (decide_eq_false hkl)
           have hut : u = T2 := by
            rw [← hu, ← HT2.out, List.take_of_length_le (by omega)]
            exact times_keys HkX.out
           subst hut
           have d5 := Lib.hid (decide_eq_false (show ¬ 1 + q < M2.length by have := HF3.out.len; omega))
           clear hu
           repeat ((fail_if_success (with_reducible show wpList _ _ _ (List.cons _ _) _ _)); (fail_if_success (with_reducible show Code.wp _ (Code.region _ _ true) _ _ _)); go_step)
           (with_reducible refine' wl_valS ?_ ?_ ?_); rotate_left; exact rfl; exact (v_moveT (.inl rfl) rfl)
           simp only [Act.put, zA, zB, zC]
           (with_reducible refine' wl_valS ?_ ?_ ?_); rotate_left; exact rfl; exact (v_moveT (.inl rfl) rfl)
           simp only [Act.put, zA, zB, zC]
           (with_reducible refine' wl_valS ?_ ?_ ?_); rotate_left; exact rfl; exact (v_len rfl rfl Try.underlying33 hM63)
           simp only [Act.put, zA, zB, zC]
           (with_reducible refine' wl_valS ?_ ?_ ?_); rotate_left; exact rfl; exact (v_lss rfl rfl rfl)
           simp only [Act.put, zA, zB, zC]
           rw [d3.out]
           repeat ((fail_if_success (with_reducible show wpList _ _ _ (List.cons _ _) _ _)); (fail_if_success (with_reducible show Code.wp _ (Code.region _ _ true) _ _ _)); (fail_if_success (with_reducible show Code.wp _ (Code.cond _ _ _) _ _ _)); go_step)
           refine wp_cond_false (by first | rfl | exact congrArg Value.bool (decide_eq_false (by omega))) ?_
           skip
           repeat ((fail_if_success (with_reducible show wpList _ _ _ (List.cons _ _) _ _)); (fail_if_success (with_reducible show Code.wp _ (Code.region _ _ true) _ _ _)); go_step)
           (with_reducible refine' wl_valS ?_ ?_ ?_); rotate_left; exact rfl; exact (v_moveT (.inl rfl) rfl)
           simp only [Act.put, zA, zB, zC]
           (with_reducible refine' wl_valS ?_ ?_ ?_); rotate_left; exact rfl; exact (v_moveT (.inl rfl) rfl)
           simp only [Act.put, zA, zB, zC]
           (with_reducible refine' wl_valS ?_ ?_ ?_); rotate_left; exact rfl; exact (v_neqS rfl rfl rfl)
           simp only [Act.put, zA, zB, zC]
           (with_reducible refine' wl_valS ?_ ?_ ?_); rotate_left; exact rfl; exact (v_moveT (.inl rfl) rfl)
           simp only [Act.put, zA, zB, zC]
           (with_reducible refine' wl_valS ?_ ?_ ?_); rotate_left; exact rfl; exact (v_moveT (.inl rfl) rfl)
           simp only [Act.put, zA, zB, zC]
           (with_reducible refine' wl_valS ?_ ?_ ?_); rotate_left; exact rfl; exact (v_len rfl rfl Try.underlying33 hM63)
           simp only [Act.put, zA, zB, zC]
           (with_reducible refine' wl_valS ?_ ?_ ?_); rotate_left; exact rfl; exact (v_moveT (.inl rfl) rfl)
           simp only [Act.put, zA, zB, zC]
           (with_reducible refine' wl_valS ?_ ?_ ?_); rotate_left; exact rfl; exact (v_rem (n := 64) rfl rfl rfl (by omega))
           simp only [Act.put, zA, zB, zC]
           rw [HQ.out]
           (with_reducible refine' wl_valS ?_ ?_ ?_); rotate_left; exact rfl; exact (v_convInt rfl rfl Try.underlying5 Try.underlying3 (w_i64 (by omega)))
           simp only [Act.put, zA, zB, zC]
           (with_reducible refine' wl_valS ?_ ?_ ?_); rotate_left; exact rfl; exact (v_add (m := 1) rfl rfl rfl (w_i64 (by omega)))
           simp only [Act.put, zA, zB, zC]
           (with_reducible refine' wl_valS ?_ ?_ ?_); rotate_left; exact rfl; exact (v_gtr rfl rfl rfl)
           simp only [Act.put, zA, zB, zC]
           rw [d5.out]
           (with_reducible refine' wl_valS ?_ ?_ ?_); rotate_left; exact rfl; exact (v_orF rfl rfl rfl)
           simp only [Act.put, zA, zB, zC]
           repeat ((fail_if_success (with_reducible show wpList _ _ _ (List.cons _ _) _ _)); (fail_if_success (with_reducible show Code.wp _ (Code.region _ _ true) _ _ _)); (fail_if_success (with_reducible show Code.wp _ (Code.cond _ _ _) _ _ _)); go_step)
           refine wp_cond_false (by first | rfl | exact congrArg Value.bool (decide_eq_false (by omega))) ?_
           skip
           repeat ((fail_if_success (with_reducible show wpList _ _ _ (List.cons _ _) _ _)); (fail_if_success (with_reducible show Code.wp _ (Code.region _ _ true) _ _ _)); go_step)
           (with_reducible refine' wl_valS ?_ ?_ ?_); rotate_left; exact rfl; exact (v_moveT (.inl rfl) rfl)
           simp only [Act.put, zA, zB, zC]
           (with_reducible refine' wl_valS ?_ ?_ ?_); rotate_left; exact rfl; exact (v_add (n := 1) rfl rfl rfl (w_i64 (by omega)))
           simp only [Act.put, zA, zB, zC]
           (with_reducible refine' wl_valS ?_ ?_ ?_); rotate_left; exact rfl; exact (v_moveT (.inr rfl) rfl)
           simp only [Act.put, zA, zB, zC]
           go_wp2
           go_roundw
           case rel => exact ⟨j + 1, M2, v2, b2, RX, by omega, rfl, by rw [HT2.out], HF3.out, hE0⟩
           case measure => simp [intOf]; omega
       ·
        repeat ((fail_if_success (with_reducible show wpList _ _ _ (List.cons _ _) _ _)); (fail_if_success (with_reducible show Code.wp _ (Code.region _ _ true) _ _ _)); go_step)
        refine wp_region_B (n := 14) 3 (by kernel_rfl) rfl hE1 ?_
        intro w41 hb41 hE41
        clear hE1
        refine wpB_take1 (i := 0) (by kernel_rfl) rfl (by kernel_rfl) (fun _ _ _ h => h) rfl (v_moveT (.inl rfl) rfl) ?_
        simp only [Act.put, zA, zB, zC]
        refine wpB_take1 (i := 1) (by kernel_rfl) rfl (by kernel_rfl) (fun _ _ _ h => h) rfl (v_fieldB (s := 0) rfl rfl Try.underlying36 rfl (by kernel_rfl) rfl) ?_
        simp only [Act.put, zA, zB, zC]
        refine wpB_take1 (i := 2) (by kernel_rfl) rfl (by kernel_rfl) (fun _ _ _ h => h) rfl (v_cellB (v := .int .i64 o.i) (i := 0) (HO2.out _ _ _ _ hsR hE41) rfl rfl rfl Try.underlying3 rfl rfl) ?_
        simp only [Act.put, zA, zB, zC]
        refine wpB_step (i := 3) (by kernel_rfl) rfl (st_gives hE41 rfl (run_call rfl Try.call11) (Copy_out (hE41.get (i := 0) rfl) hMl hin) ?_)
        intro w42 hb42 hE42
        clear hE41
        refine ⟨fun h => absurd h (by decide), ?_⟩
        simp only [Act.put, zA, zB, zC]
        refine wpB_up (m' := 14) (by decide) ?_
        refine wpB_take (i := 4) (by kernel_rfl) rfl (by kernel_rfl) (fun _ _ _ h => h) rfl (v_run fun w9 => by go_simp; with_reducible rfl) ?_
        simp only [Act.put, zA, zB, zC]
        refine wpB_take (i := 5) (by kernel_rfl) rfl (by kernel_rfl) (fun _ _ _ h => h) rfl (v_moveT (.inl rfl) rfl) ?_
        simp only [Act.put, zA, zB, zC]
        refine wpB_pass (i := 6) (by kernel_rfl) rfl (by kernel_rfl) (fun _ _ _ h => h) rfl ?_
        simp only [Act.put, zA, zB, zC]
        refine wpB_pass (i := 7) (by kernel_rfl) rfl (by kernel_rfl) (fun _ _ _ h => h) rfl ?_
        simp only [Act.put, zA, zB, zC]
        refine wpB_pass (i := 8) (by kernel_rfl) rfl (by kernel_rfl) (fun _ _ _ h => h) rfl ?_
        simp only [Act.put, zA, zB, zC]
        refine wpB_pass (i := 9) (by kernel_rfl) rfl (by kernel_rfl) (fun _ _ _ h => h) rfl ?_
        simp only [Act.put, zA, zB, zC]
        refine wpB_pass (i := 10) (by kernel_rfl) rfl (by kernel_rfl) (fun _ _ _ h => h) rfl ?_
        simp only [Act.put, zA, zB, zC]
        refine wpB_pass (i := 11) (by kernel_rfl) rfl (by kernel_rfl) (fun _ _ _ h => h) rfl ?_
        simp only [Act.put, zA, zB, zC]
        refine wpB_pass (i := 12) (by kernel_rfl) rfl (by kernel_rfl) (fun _ _ _ h => h) rfl ?_
        simp only [Act.put, zA, zB, zC]
        refine wpB_take (i := 13) (by kernel_rfl) rfl (by kernel_rfl) (fun _ _ _ h => h) rfl (v_andF rfl rfl) ?_
        simp only [Act.put, zA, zB, zC]
        refine wpB_done (by kernel_rfl) ?_ _
        repeat ((fail_if_success (with_reducible show wpList _ _ _ (List.cons _ _) _ _)); (fail_if_success (with_reducible show Code.wp _ (Code.region _ _ true) _ _ _)); (fail_if_success (with_reducible show Code.wp _ (Code.cond _ _ _) _ _ _)); go_step)
        refine wp_cond_false (by first | rfl | exact congrArg Value.bool (decide_eq_false (by omega))) ?_
        skip
        obtain ⟨M2, v2, b2, R2, T2, hEE, hFF, hTT, hTe⟩ : ∃ M2 v2 b2 R2 T2, KE w g1 g0 (1 + q) pk v2 b2 R2 w42 ∧ KF w g0 (1 + q) pk M2 v2 b2 R2 ∧ times pk.key M2 = T2 ∧ T2 = T := ⟨_, _, _, _, _, hE42, HF1'.out, HT.out, rfl⟩
        subst hTe
        have HF2 := Lib.hid hFF
        have HT2 := Lib.hid hTT
        clear hE42 hFF hTT
        repeat ((fail_if_success (with_reducible show wpList _ _ _ (List.cons _ _) _ _)); (fail_if_success (with_reducible show Code.wp _ (Code.region _ _ true) _ _ _)); go_step)
        (with_reducible refine' wl_valS ?_ ?_ ?_); rotate_left; exact rfl; exact (v_moveC (.inr rfl))
        simp only [Act.put, zA, zB, zC]
        repeat ((fail_if_success (with_reducible show wpList _ _ _ (List.cons _ _) _ _)); (fail_if_success (with_reducible show Code.wp _ (Code.region _ _ true) _ _ _)); go_step)
        (with_reducible refine' wl_valS ?_ ?_ ?_); rotate_left; exact rfl; exact (v_moveT (.inl rfl) rfl)
        simp only [Act.put, zA, zB, zC]
        refine wl_step (st_calls rfl (run_call rfl Try.call8) (HF2.out.list hEE hN2) ?_)
        rintro _ w61 ⟨pX, cX, NX, RX, rfl, hkX, hsX, hE61, hrX, hseX⟩
        skip
        refine ⟨_, rfl, ?_⟩
        clear hEE
        simp only [Act.put, zA, zB, zC]
        (with_reducible refine' wl_valS ?_ ?_ ?_); rotate_left; exact rfl; exact (v_moveT (.inr rfl) rfl)
        simp only [Act.put, zA, zB, zC]
        have HF3 := Lib.hid (HF2.out.more hsX)
        have HkX := Lib.hid hkX
        have HrX := Lib.hid hrX
        have HseX := Lib.hid hseX
        have hlX : NX.length = M2.length := keys_len hkX
        have hM64 : M2.length ≤ 64 := by have := HF3.out.len; omega
        have hM63 : M2.length < 9223372036854775808 := by omega
        have HdX := Lib.hid (keys_digs hkX HF3.out.digs)
        have hst := hE61
        clear hE61 hkX hsX hrX hseX
        repeat ((fail_if_success (with_reducible show wpList _ _ _ (List.cons _ _) _ _)); (fail_if_success (with_reducible show Code.wp _ (Code.region _ _ true) _ _ _)); go_step)
        (with_reducible refine' wl_valS ?_ ?_ ?_); rotate_left; exact rfl; exact (v_moveC (.inr rfl))
        simp only [Act.put, zA, zB, zC]
        go_wp2
        go_loopw [16, 18] (fun t i wr => ∃ k : Nat, k ≤ M2.length ∧ i = .int .i64 k ∧ t = .int .i64 ((times pk.key (NX.take k) : Nat) : Int) ∧ KE w g1 g0 (1 + q) pk v2 b2 RX wr) (fun _ i _ => M2.length - (intOf i).toNat)
        case atStart => exact ⟨0, Nat.zero_le _, rfl, by rw [List.take_zero]; rfl, hst⟩
        case round =>
         clear hst
         obtain ⟨k, hk, rfl, rfl, hE0⟩ := hrel
         obtain ⟨u, hu⟩ : ∃ u, times pk.key (NX.take k) = u := ⟨_, rfl⟩
         have hu64 : u ≤ 64 := by
          have := times_le pk.key (NX.take k)
          rw [hu, List.length_take] at this
          omega
         rw [hu]
         by_cases hkl : k < M2.length
         ·
          have d3 := Lib.hid (decide_eq_true hkl)
          have hgx : NX[k]? = some NX[k] := List.getElem?_eq_getElem (by omega)
          obtain ⟨m5, hme⟩ : ∃ m, NX[k] = m := ⟨_, rfl⟩
          rw [hme] at hgx
          have hm5 : m5 ∈ NX := List.mem_of_getElem? hgx
          obtain ⟨b5, off5, rfl, -⟩ := (HrX.out _ (KE.rest hE0)).elem hkl
          have hran5 : ∀ w', KE w g1 g0 (1 + q) pk v2 b2 RX w' → ∀ w1, Below w'.heap.size w' w1 → w1.rangeAt b5 (off5 + k * 3) [.int .i64 m5.fr, .int .i64 m5.to, m5.sl] := fun w' hE' w1 hb1 => by
           obtain ⟨b', off', he, hr⟩ := (HrX.out _ (KE.rest hE')).elem hkl
           injection he with he
           injection he with h1 h2 _
           subst h1 h2
           have := hr w1 hb1
           rwa [pcells_at hgx] at this
          have Hran5 := Lib.hid hran5
          have HSame5 : Hid (∀ w', KE w g1 g0 (1 + q) pk v2 b2 RX w' → Gives 10 #[pkv m5, pkv pk] w' (.bool (m5.key == pk.key))) := Lib.hid (fun w' hE' => by
           have h := Same_any (f1 := m5.fr) (t1 := m5.to) (f2 := pk.fr) (t2 := pk.to) (HseX.out m5 hm5 _ (KE.rest hE')) (HP.out.1.below hE'.below) (HdX.out m5 hm5).1 HP.out.2.1
           rwa [same_key] at h)
          have Htt := Lib.hid (times_take (k := pk.key) hgx)
          have Hu := Lib.hid hu
          clear hran5 hme hgx hu
          repeat ((fail_if_success (with_reducible show wpList _ _ _ (List.cons _ _) _ _)); (fail_if_success (with_reducible show Code.wp _ (Code.region _ _ true) _ _ _)); go_step)
          (with_reducible refine' wl_valS ?_ ?_ ?_); rotate_left; exact rfl; exact (v_moveT (.inl rfl) rfl)
          simp only [Act.put, zA, zB, zC]
          (with_reducible refine' wl_valS ?_ ?_ ?_); rotate_left; exact rfl; exact (v_moveT (.inl rfl) rfl)
          simp only [Act.put, zA, zB, zC]
          (with_reducible refine' wl_valS ?_ ?_ ?_); rotate_left; exact rfl; exact (v_len rfl rfl Try.underlying33 hM63)
          simp only [Act.put, zA, zB, zC]
          (with_reducible refine' wl_valS ?_ ?_ ?_); rotate_left; exact rfl; exact (v_lss rfl rfl rfl)
          simp only [Act.put, zA, zB, zC]
          rw [d3.out]
          repeat ((fail_if_success (with_reducible show wpList _ _ _ (List.cons _ _) _ _)); (fail_if_success (with_reducible show Code.wp _ (Code.region _ _ true) _ _ _)); (fail_if_success (with_reducible show Code.wp _ (Code.cond _ _ _) _ _ _)); go_step)
          refine wp_cond_true (by first | rfl | exact congrArg Value.bool (decide_eq_true (by omega))) ?_
          skip
          repeat ((fail_if_success (with_reducible show wpList _ _ _ (List.cons _ _) _ _)); (fail_if_success (with_reducible show Code.wp _ (Code.region _ _ true) _ _ _)); go_step)
          refine wp_region_B (n := 6) 6 (by kernel_rfl) rfl hE0 ?_
          intro w1 hb1 hE1
          clear hE0
          refine wpB_take (i := 0) (by kernel_rfl) rfl (by kernel_rfl) (fun _ _ _ h => h) rfl (v_moveT (.inl rfl) rfl) ?_
          simp only [Act.put, zA, zB, zC]
          refine wpB_take (i := 1) (by kernel_rfl) rfl (by kernel_rfl) (fun _ _ _ h => h) rfl (v_moveT (.inl rfl) rfl) ?_
          simp only [Act.put, zA, zB, zC]
          refine wpB_take (i := 2) (by kernel_rfl) rfl (by kernel_rfl) (fun _ _ _ h => h) rfl (v_indexSs (s := 3) rfl rfl rfl Try.underlying33 (by kernel_rfl) hkl) ?_
          simp only [Act.put, zA, zB, zC]
          refine wpB_take (i := 3) (by kernel_rfl) rfl (by kernel_rfl) (fun _ _ _ h => h) rfl (v_loadMid (cs := #[.int .i64 m5.fr, .int .i64 m5.to, m5.sl]) rfl rfl (Hran5.out _ hE1) Try.underlying25 rfl (by kernel_rfl)) ?_
          simp only [Act.put, zA, zB, zC]
          refine wpB_take (i := 4) (by kernel_rfl) rfl (by kernel_rfl) (fun _ _ _ h => h) rfl (v_load (i := 0) (hE1.perm (pk4 ..)) rfl rfl rfl Try.underlying25 rfl (sz_of (n := 3) (by kernel_rfl) rfl)) ?_
          simp only [Act.put, zA, zB, zC]
          refine wpB_step (i := 5) (by kernel_rfl) rfl (st_gives hE1 rfl (run_call rfl Try.call10) (HSame5.out _ hE1) ?_)
          intro w2 hb2 hE2
          clear hE1
          refine ⟨fun _ => hb2, ?_⟩
          simp only [Act.put, zA, zB, zC]
          refine wpB_done (by kernel_rfl) ?_ _
          rcases hb : (m5.key == pk.key) with _ | _
          ·
           repeat ((fail_if_success (with_reducible show wpList _ _ _ (List.cons _ _) _ _)); (fail_if_success (with_reducible show Code.wp _ (Code.region _ _ true) _ _ _)); (fail_if_success (with_reducible show Code.wp _ (Code.cond _ _ _) _ _ _)); go_step)
           refine wp_cond_false (by first | rfl | exact congrArg Value.bool (decide_eq_false (by omega))) ?_
           skip
           repeat ((fail_if_success (with_reducible show wpList _ _ _ (List.cons _ _) _ _)); (fail_if_success (with_reducible show Code.wp _ (Code.region _ _ true) _ _ _)); go_step)
           (with_reducible refine' wl_valS ?_ ?_ ?_); rotate_left; exact rfl; exact (v_moveT (.inl rfl) rfl)
           simp only [Act.put, zA, zB, zC]
           (with_reducible refine' wl_valS ?_ ?_ ?_); rotate_left; exact rfl; exact (v_add (n := 1) rfl rfl rfl (w_i64 (by omega)))
           simp only [Act.put, zA, zB, zC]
           (with_reducible refine' wl_valS ?_ ?_ ?_); rotate_left; exact rfl; exact (v_moveT (.inr rfl) rfl)
           simp only [Act.put, zA, zB, zC]
           go_wp2
           go_roundw
           case rel => exact ⟨k + 1, by omega, rfl, by rw [Htt.out, Hu.out, hb]; rfl, hE2⟩
           case measure => simp [intOf]; omega
          ·
           repeat ((fail_if_success (with_reducible show wpList _ _ _ (List.cons _ _) _ _)); (fail_if_success (with_reducible show Code.wp _ (Code.region _ _ true) _ _ _)); (fail_if_success (with_reducible show Code.wp _ (Code.cond _ _ _) _ _ _)); go_step)
           refine wp_cond_true (by first | rfl | exact congrArg Value.bool (decide_eq_true (by omega))) ?_
           skip
           repeat ((fail_if_success (with_reducible show wpList _ _ _ (List.cons _ _) _ _)); (fail_if_success (with_reducible show Code.wp _ (Code.region _ _ true) _ _ _)); go_step)
           (with_reducible refine' wl_valS ?_ ?_ ?_); rotate_left; exact rfl; exact (v_moveT (.inl rfl) rfl)
           simp only [Act.put, zA, zB, zC]
           (with_reducible refine' wl_valS ?_ ?_ ?_); rotate_left; exact rfl; exact (v_add (n := 1) rfl rfl rfl (w_i64 (by omega)))
           simp only [Act.put, zA, zB, zC]
           (with_reducible refine' wl_valS ?_ ?_ ?_); rotate_left; exact rfl; exact (v_moveT (.inr rfl) rfl)
           simp only [Act.put, zA, zB, zC]
           repeat ((fail_if_success (with_reducible show wpList _ _ _ (List.cons _ _) _ _)); (fail_if_success (with_reducible show Code.wp _ (Code.region _ _ true) _ _ _)); go_step)
           (with_reducible refine' wl_valS ?_ ?_ ?_); rotate_left; exact rfl; exact (v_moveT (.inl rfl) rfl)
           simp only [Act.put, zA, zB, zC]
           (with_reducible refine' wl_valS ?_ ?_ ?_); rotate_left; exact rfl; exact (v_add (n := 1) rfl rfl rfl (w_i64 (by omega)))
           simp only [Act.put, zA, zB, zC]
           (with_reducible refine' wl_valS ?_ ?_ ?_); rotate_left; exact rfl; exact (v_moveT (.inr rfl) rfl)
           simp only [Act.put, zA, zB, zC]
           go_wp2
           go_roundw
           case rel => exact ⟨k + 1, by omega, rfl, by rw [Htt.out, Hu.out, hb]; rfl, hE2⟩
           case measure => simp [intOf]; omega
         ·
          have hk' : k = M2.length := by omega
          subst hk'
          have d3 := Lib.hid (decide_eq_false hkl)
          have hut : u = T2 := by
           rw [← hu, ← HT2.out, List.take_of_length_le (by omega)]
           exact times_keys HkX.out
          subst hut
          have d5 := Lib.hid (decide_eq_false (show ¬ 1 + q < M2.length by have := HF3.out.len; omega))
          clear hu
          repeat ((fail_if_success (with_reducible show wpList _ _ _ (List.cons _ _) _ _)); (fail_if_success (with_reducible show Code.wp _ (Code.region _ _ true) _ _ _)); go_step)
          (with_reducible refine' wl_valS ?_ ?_ ?_); rotate_left; exact rfl; exact (v_moveT (.inl rfl) rfl)
          simp only [Act.put, zA, zB, zC]
          (with_reducible refine' wl_valS ?_ ?_ ?_); rotate_left; exact rfl; exact (v_moveT (.inl rfl) rfl)
          simp only [Act.put, zA, zB, zC]
          (with_reducible refine' wl_valS ?_ ?_ ?_); rotate_left; exact rfl; exact (v_len rfl rfl Try.underlying33 hM63)
          simp only [Act.put, zA, zB, zC]
          (with_reducible refine' wl_valS ?_ ?_ ?_); rotate_left; exact rfl; exact (v_lss rfl rfl rfl)
          simp only [Act.put, zA, zB, zC]
          rw [d3.out]
          repeat ((fail_if_success (with_reducible show wpList _ _ _ (List.cons _ _) _ _)); (fail_if_success (with_reducible show Code.wp _ (Code.region _ _ true) _ _ _)); (fail_if_success (with_reducible show Code.wp _ (Code.cond _ _ _) _ _ _)); go_step)
          refine wp_cond_false (by first | rfl | exact congrArg Value.bool (decide_eq_false (by omega))) ?_
          skip
          repeat ((fail_if_success (with_reducible show wpList _ _ _ (List.cons _ _) _ _)); (fail_if_success (with_reducible show Code.wp _ (Code.region _ _ true) _ _ _)); go_step)
          (with_reducible refine' wl_valS ?_ ?_ ?_); rotate_left; exact rfl; exact (v_moveT (.inl rfl) rfl)
          simp only [Act.put, zA, zB, zC]
          (with_reducible refine' wl_valS ?_ ?_ ?_); rotate_left; exact rfl; exact (v_moveT (.inl rfl) rfl)
          simp only [Act.put, zA, zB, zC]
          (with_reducible refine' wl_valS ?_ ?_ ?_); rotate_left; exact rfl; exact (v_neqS rfl rfl rfl)
          simp only [Act.put, zA, zB, zC]
          (with_reducible refine' wl_valS ?_ ?_ ?_); rotate_left; exact rfl; exact (v_moveT (.inl rfl) rfl)
          simp only [Act.put, zA, zB, zC]
          (with_reducible refine' wl_valS ?_ ?_ ?_); rotate_left; exact rfl; exact (v_moveT (.inl rfl) rfl)
          simp only [Act.put, zA, zB, zC]
          (with_reducible refine' wl_valS ?_ ?_ ?_); rotate_left; exact rfl; exact (v_len rfl rfl Try.underlying33 hM63)
          simp only [Act.put, zA, zB, zC]
          (with_reducible refine' wl_valS ?_ ?_ ?_); rotate_left; exact rfl; exact (v_moveT (.inl rfl) rfl)
          simp only [Act.put, zA, zB, zC]
          (with_reducible refine' wl_valS ?_ ?_ ?_); rotate_left; exact rfl; exact (v_rem (n := 64) rfl rfl rfl (by omega))
          simp only [Act.put, zA, zB, zC]
          rw [HQ.out]
          (with_reducible refine' wl_valS ?_ ?_ ?_); rotate_left; exact rfl; exact (v_convInt rfl rfl Try.underlying5 Try.underlying3 (w_i64 (by omega)))
          simp only [Act.put, zA, zB, zC]
          (with_reducible refine' wl_valS ?_ ?_ ?_); rotate_left; exact rfl; exact (v_add (m := 1) rfl rfl rfl (w_i64 (by omega)))
          simp only [Act.put, zA, zB, zC]
          (with_reducible refine' wl_valS ?_ ?_ ?_); rotate_left; exact rfl; exact (v_gtr rfl rfl rfl)
          simp only [Act.put, zA, zB, zC]
          rw [d5.out]
          (with_reducible refine' wl_valS ?_ ?_ ?_); rotate_left; exact rfl; exact (v_orF rfl rfl rfl)
          simp only [Act.put, zA, zB, zC]
          repeat ((fail_if_success (with_reducible show wpList _ _ _ (List.cons _ _) _ _)); (fail_if_success (with_reducible show Code.wp _ (Code.region _ _ true) _ _ _)); (fail_if_success (with_reducible show Code.wp _ (Code.cond _ _ _) _ _ _)); go_step)
          refine wp_cond_false (by first | rfl | exact congrArg Value.bool (decide_eq_false (by omega))) ?_
          skip
          repeat ((fail_if_success (with_reducible show wpList _ _ _ (List.cons _ _) _ _)); (fail_if_success (with_reducible show Code.wp _ (Code.region _ _ true) _ _ _)); go_step)
          (with_reducible refine' wl_valS ?_ ?_ ?_); rotate_left; exact rfl; exact (v_moveT (.inl rfl) rfl)
          simp only [Act.put, zA, zB, zC]
          (with_reducible refine' wl_valS ?_ ?_ ?_); rotate_left; exact rfl; exact (v_add (n := 1) rfl rfl rfl (w_i64 (by omega)))
          simp only [Act.put, zA, zB, zC]
          (with_reducible refine' wl_valS ?_ ?_ ?_); rotate_left; exact rfl; exact (v_moveT (.inr rfl) rfl)
          simp only [Act.put, zA, zB, zC]
          go_wp2
          go_roundw
          case rel => exact ⟨j + 1, M2, v2, b2, RX, by omega, rfl, by rw [HT2.out], HF3.out, hE0⟩
          case measure => simp [intOf]; omega
      ·
       have d7 := Lib.hid (decide_eq_false hk1)
       repeat ((fail_if_success (with_reducible show wpList _ _ _ (List.cons _ _) _ _)); (fail_if_success (with_reducible show Code.wp _ (Code.region _ _ true) _ _ _)); go_step)
       (with_reducible refine' wl_valS ?_ ?_ ?_); rotate_left; exact rfl; exact (v_eql (n := 1) rfl rfl rfl)
       simp only [Act.put, zA, zB, zC]
       rw [d7.out]
       (with_reducible refine' wl_valS ?_ ?_ ?_); rotate_left; exact rfl; exact (v_moveT (.inr rfl) rfl)
       simp only [Act.put, zA, zB, zC]
       repeat ((fail_if_success (with_reducible show wpList _ _ _ (List.cons _ _) _ _)); (fail_if_success (with_reducible show Code.wp _ (Code.region _ _ true) _ _ _)); (fail_if_success (with_reducible show Code.wp _ (Code.cond _ _ _) _ _ _)); go_step)
       refine wp_cond_false (by first | rfl | exact congrArg Value.bool (decide_eq_false (by omega))) ?_
       skip
       by_cases hk2 : o.kd = 2
       ·
        have d8 := Lib.hid (decide_eq_true hk2)
        repeat ((fail_if_success (with_reducible show wpList _ _ _ (List.cons _ _) _ _)); (fail_if_success (with_reducible show Code.wp _ (Code.region _ _ true) _ _ _)); go_step)
        (with_reducible refine' wl_valS ?_ ?_ ?_); rotate_left; exact rfl; exact (v_eql (n := 2) rfl rfl rfl)
        simp only [Act.put, zA, zB, zC]
        rw [d8.out]
        (with_reducible refine' wl_valS ?_ ?_ ?_); rotate_left; exact rfl; exact (v_moveT (.inr rfl) rfl)
        simp only [Act.put, zA, zB, zC]
        repeat ((fail_if_success (with_reducible show wpList _ _ _ (List.cons _ _) _ _)); (fail_if_success (with_reducible show Code.wp _ (Code.region _ _ true) _ _ _)); (fail_if_success (with_reducible show Code.wp _ (Code.cond _ _ _) _ _ _)); go_step)
        refine wp_cond_true (by first | rfl | exact congrArg Value.bool (decide_eq_true (by omega))) ?_
        skip
        by_cases hin : 0 ≤ o.i ∧ o.i < (M.length : Int)
        ·
         obtain ⟨idx, hidx⟩ : ∃ n : Nat, o.i = (n : Int) := ⟨o.i.toNat, by omega⟩
         have hidl : idx < M.length := by omega
         have Hidx := Lib.hid hidx
         clear hidx
         by_cases hin2 : 0 ≤ o.k ∧ o.k < (M.length : Int)
         ·
          obtain ⟨idk, hidk⟩ : ∃ n : Nat, o.k = (n : Int) := ⟨o.k.toNat, by omega⟩
          have hidkl : idk < M.length := by omega
          have Hidk := Lib.hid hidk
          clear hidk
          repeat ((fail_if_success (with_reducible show wpList _ _ _ (List.cons _ _) _ _)); (fail_if_success (with_reducible show Code.wp _ (Code.region _ _ true) _ _ _)); go_step)
          (with_reducible refine' wl_valS ?_ ?_ ?_); rotate_left; exact rfl; exact (v_moveT (.inl rfl) rfl)
          simp only [Act.put, zA, zB, zC]
          (with_reducible refine' wl_valS ?_ ?_ ?_); rotate_left; exact rfl; exact (v_fieldB (s := 0) rfl rfl Try.underlying36 rfl (by kernel_rfl) rfl)
          simp only [Act.put, zA, zB, zC]
          (with_reducible refine' wl_valS ?_ ?_ ?_); rotate_left; exact rfl; exact (v_cellB (v := .int .i64 (idx : Int)) (i := 0) (HO2.out _ _ _ _ hsR hE1) rfl rfl rfl Try.underlying3 rfl (congrArg (fun z => some (Value.int .i64 z)) Hidx.out))
          simp only [Act.put, zA, zB, zC]
          (with_reducible refine' wl_valS ?_ ?_ ?_); rotate_left; exact rfl; exact (v_fieldB (s := 0) rfl rfl Try.underlying36 rfl (by kernel_rfl) rfl)
          simp only [Act.put, zA, zB, zC]
          (with_reducible refine' wl_valS ?_ ?_ ?_); rotate_left; exact rfl; exact (v_cellB (v := .int .i64 (idk : Int)) (i := 0) (HO2.out _ _ _ _ hsR hE1) rfl rfl rfl Try.underlying3 rfl (congrArg (fun z => some (Value.int .i64 z)) Hidk.out))
          simp only [Act.put, zA, zB, zC]
          refine wl_step (st_calls rfl (run_call rfl Try.call12) (HF1'.out.swap hE1 hN2 (List.getElem?_eq_getElem hidl) (List.getElem?_eq_getElem hidkl)) ?_)
          rintro _ w41 ⟨b2', M2', rfl, hp2, hF2, hE41⟩
          skip
          refine ⟨_, rfl, ?_⟩
          clear hE1
          simp only [Act.put, zA, zB, zC]
          obtain ⟨M2, v2, b2, R2, T2, hEE, hFF, hTT, hTe⟩ : ∃ M2 v2 b2 R2 T2, KE w g1 g0 (1 + q) pk v2 b2 R2 w41 ∧ KF w g0 (1 + q) pk M2 v2 b2 R2 ∧ times pk.key M2 = T2 ∧ T2 = T := ⟨_, _, _, _, _, hE41, hF2, rfl, by rw [times_perm hp2]; exact HT.out⟩
          subst hTe
          have HF2 := Lib.hid hFF
          have HT2 := Lib.hid hTT
          clear hE41 hFF hTT
          repeat ((fail_if_success (with_reducible show wpList _ _ _ (List.cons _ _) _ _)); (fail_if_success (with_reducible show Code.wp _ (Code.region _ _ true) _ _ _)); go_step)
          (with_reducible refine' wl_valS ?_ ?_ ?_); rotate_left; exact rfl; exact (v_moveC (.inr rfl))
          simp only [Act.put, zA, zB, zC]
          repeat ((fail_if_success (with_reducible show wpList _ _ _ (List.cons _ _) _ _)); (fail_if_success (with_reducible show Code.wp _ (Code.region _ _ true) _ _ _)); go_step)
          (with_reducible refine' wl_valS ?_ ?_ ?_); rotate_left; exact rfl; exact (v_moveT (.inl rfl) rfl)
          simp only [Act.put, zA, zB, zC]
          refine wl_step (st_calls rfl (run_call rfl Try.call8) (HF2.out.list hEE hN2) ?_)
          rintro _ w61 ⟨pX, cX, NX, RX, rfl, hkX, hsX, hE61, hrX, hseX⟩
          skip
          refine ⟨_, rfl, ?_⟩
          clear hEE
          simp only [Act.put, zA, zB, zC]
          (with_reducible refine' wl_valS ?_ ?_ ?_); rotate_left; exact rfl; exact (v_moveT (.inr rfl) rfl)
          simp only [Act.put, zA, zB, zC]
          have HF3 := Lib.hid (HF2.out.more hsX)
          have HkX := Lib.hid hkX
          have HrX := Lib.hid hrX
          have HseX := Lib.hid hseX
          have hlX : NX.length = M2.length := keys_len hkX
          have hM64 : M2.length ≤ 64 := by have := HF3.out.len; omega
          have hM63 : M2.length < 9223372036854775808 := by omega
          have HdX := Lib.hid (keys_digs hkX HF3.out.digs)
          have hst := hE61
          clear hE61 hkX hsX hrX hseX
          repeat ((fail_if_success (with_reducible show wpList _ _ _ (List.cons _ _) _ _)); (fail_if_success (with_reducible show Code.wp _ (Code.region _ _ true) _ _ _)); go_step)
          (with_reducible refine' wl_valS ?_ ?_ ?_); rotate_left; exact rfl; exact (v_moveC (.inr rfl))
          simp only [Act.put, zA, zB, zC]
          go_wp2
          go_loopw [16, 18] (fun t i wr => ∃ k : Nat, k ≤ M2.length ∧ i = .int .i64 k ∧ t = .int .i64 ((times pk.key (NX.take k) : Nat) : Int) ∧ KE w g1 g0 (1 + q) pk v2 b2 RX wr) (fun _ i _ => M2.length - (intOf i).toNat)
          case atStart => exact ⟨0, Nat.zero_le _, rfl, by rw [List.take_zero]; rfl, hst⟩
          case round =>
           clear hst
           obtain ⟨k, hk, rfl, rfl, hE0⟩ := hrel
           obtain ⟨u, hu⟩ : ∃ u, times pk.key (NX.take k) = u := ⟨_, rfl⟩
           have hu64 : u ≤ 64 := by
            have := times_le pk.key (NX.take k)
            rw [hu, List.length_take] at this
            omega
           rw [hu]
           by_cases hkl : k < M2.length
           ·
            have d3 := Lib.hid (decide_eq_true hkl)
            have hgx : NX[k]? = some NX[k] := List.getElem?_eq_getElem (by omega)
            obtain ⟨m5, hme⟩ : ∃ m, NX[k] = m := ⟨_, rfl⟩
            rw [hme] at hgx
            have hm5 : m5 ∈ NX := List.mem_of_getElem? hgx
            obtain ⟨b5, off5, rfl, -⟩ := (HrX.out _ (KE.rest hE0)).elem hkl
            have hran5 : ∀ w', KE w g1 g0 (1 + q) pk v2 b2 RX w' → ∀ w1, Below w'.heap.size w' w1 → w1.rangeAt b5 (off5 + k * 3) [.int .i64 m5.fr, .int .i64 m5.to, m5.sl] := fun w' hE' w1 hb1 => by
             obtain ⟨b', off', he, hr⟩ := (HrX.out _ (KE.rest hE')).elem hkl
             injection he with he
             injection he with h1 h2 _
             subst h1 h2
             have := hr w1 hb1
             rwa [pcells_at hgx] at this
            have Hran5 := Lib.hid hran5
            have HSame5 : Hid (∀ w', KE w g1 g0 (1 + q) pk v2 b2 RX w' → Gives 10 #[pkv m5, pkv pk] w' (.bool (m5.key == pk.key))) := Lib.hid (fun w' hE' => by
             have h := Same_any (f1 := m5.fr) (t1 := m5.to) (f2 := pk.fr) (t2 := pk.to) (HseX.out m5 hm5 _ (KE.rest hE')) (HP.out.1.below hE'.below) (HdX.out m5 hm5).1 HP.out.2.1
             rwa [same_key] at h)
            have Htt := Lib.hid (times_take (k := pk.key) hgx)
            have Hu := Lib.hid hu
            clear hran5 hme hgx hu
            repeat ((fail_if_success (with_reducible show wpList _ _ _ (List.cons _ _) _ _)); (fail_if_success (with_reducible show Code.wp _ (Code.region _ _ true) _ _ _)); go_step)
            (with_reducible refine' wl_valS ?_ ?_ ?_); rotate_left; exact rfl; exact (v_moveT (.inl rfl) rfl)
            simp only [Act.put, zA, zB, zC]
            (with_reducible refine' wl_valS ?_ ?_ ?_); rotate_left; exact rfl; exact (v_moveT (.inl rfl) rfl)
            simp only [Act.put, zA, zB, zC]
            (with_reducible refine' wl_valS ?_ ?_ ?_); rotate_left; exact rfl; exact (v_len rfl rfl Try.underlying33 hM63)
            simp only [Act.put, zA, zB, zC]
            (with_reducible refine' wl_valS ?_ ?_ ?_); rotate_left; exact rfl; exact (v_lss rfl rfl rfl)
            simp only [Act.put, zA, zB, zC]
            rw [d3.out]
            repeat ((fail_if_success (with_reducible show wpList _ _ _ (List.cons _ _) _ _)); (fail_if_success (with_reducible show Code.wp _ (Code.region _ _ true) _ _ _)); (fail_if_success (with_reducible show Code.wp _ (Code.cond _ _ _) _ _ _)); go_step)
            refine wp_cond_true (by first | rfl | exact congrArg Value.bool (decide_eq_true (by omega))) ?_
            skip
            repeat ((fail_if_success (with_reducible show wpList _ _ _ (List.cons _ _) _ _)); (fail_if_success (with_reducible show Code.wp _ (Code.region _ _ true) _ _ _)); go_step)
            refine wp_region_B (n := 6) 6 (by kernel_rfl) rfl hE0 ?_
            intro w1 hb1 hE1
            clear hE0
            refine wpB_take (i := 0) (by kernel_rfl) rfl (by kernel_rfl) (fun _ _ _ h => h) rfl (v_moveT (.inl rfl) rfl) ?_
            simp only [Act.put, zA, zB, zC]
            refine wpB_take (i := 1) (by kernel_rfl) rfl (by kernel_rfl) (fun _ _ _ h => h) rfl (v_moveT (.inl rfl) rfl) ?_
            simp only [Act.put, zA, zB, zC]
            refine wpB_take (i := 2) (by kernel_rfl) rfl (by kernel_rfl) (fun _ _ _ h => h) rfl (v_indexSs (s := 3) rfl rfl rfl Try.underlying33 (by kernel_rfl) hkl) ?_
            simp only [Act.put, zA, zB, zC]
            refine wpB_take (i := 3) (by kernel_rfl) rfl (by kernel_rfl) (fun _ _ _ h => h) rfl (v_loadMid (cs := #[.int .i64 m5.fr, .int .i64 m5.to, m5.sl]) rfl rfl (Hran5.out _ hE1) Try.underlying25 rfl (by kernel_rfl)) ?_
            simp only [Act.put, zA, zB, zC]
            refine wpB_take (i := 4) (by kernel_rfl) rfl (by kernel_rfl) (fun _ _ _ h => h) rfl (v_load (i := 0) (hE1.perm (pk4 ..)) rfl rfl rfl Try.underlying25 rfl (sz_of (n := 3) (by kernel_rfl) rfl)) ?_
            simp only [Act.put, zA, zB, zC]
            refine wpB_step (i := 5) (by kernel_rfl) rfl (st_gives hE1 rfl (run_call rfl Try.call10) (HSame5.out _ hE1) ?_)
            intro w2 hb2 hE2
            clear hE1
            refine ⟨fun _ => hb2, ?_⟩
            simp only [Act.put, zA, zB, zC]
            refine wpB_done (by kernel_rfl) ?_ _
            rcases hb : (m5.key == pk.key) with _ | _
            ·
             repeat ((fail_if_success (with_reducible show wpList _ _ _ (List.cons _ _) _ _)); (fail_if_success (with_reducible show Code.wp _ (Code.region _ _ true) _ _ _)); (fail_if_success (with_reducible show Code.wp _ (Code.cond _ _ _) _ _ _)); go_step)
             refine wp_cond_false (by first | rfl | exact congrArg Value.bool (decide_eq_false (by omega))) ?_
             skip
             repeat ((fail_if_success (with_reducible show wpList _ _ _ (List.cons _ _) _ _)); (fail_if_success (with_reducible show Code.wp _ (Code.region _ _ true) _ _ _)); go_step)
             (with_reducible refine' wl_valS ?_ ?_ ?_); rotate_left; exact rfl; exact (v_moveT (.inl rfl) rfl)
             simp only [Act.put, zA, zB, zC]
             (with_reducible refine' wl_valS ?_ ?_ ?_); rotate_left; exact rfl; exact (v_add (n := 1) rfl rfl rfl (w_i64 (by omega)))
             simp only [Act.put, zA, zB, zC]
             (with_reducible refine' wl_valS ?_ ?_ ?_); rotate_left; exact rfl; exact (v_moveT (.inr rfl) rfl)
             simp only [Act.put, zA, zB, zC]
             go_wp2
             go_roundw
             case rel => exact ⟨k + 1, by omega, rfl, by rw [Htt.out, Hu.out, hb]; rfl, hE2⟩
             case measure => simp [intOf]; omega
            ·
             repeat ((fail_if_success (with_reducible show wpList _ _ _ (List.cons _ _) _ _)); (fail_if_success (with_reducible show Code.wp _ (Code.region _ _ true) _ _ _)); (fail_if_success (with_reducible show Code.wp _ (Code.cond _ _ _) _ _ _)); go_step)
             refine wp_cond_true (by first | rfl | exact congrArg Value.bool (decide_eq_true (by omega))) ?_
             skip
             repeat ((fail_if_success (with_reducible show wpList _ _ _ (List.cons _ _) _ _)); (fail_if_success (with_reducible show Code.wp _ (Code.region _ _ true) _ _ _)); go_step)
             (with_reducible refine' wl_valS ?_ ?_ ?_); rotate_left; exact rfl; exact (v_moveT (.inl rfl) rfl)
             simp only [Act.put, zA, zB, zC]
             (with_reducible refine' wl_valS ?_ ?_ ?_); rotate_left; exact rfl; exact (v_add (n := 1) rfl rfl rfl (w_i64 (by omega)))
             simp only [Act.put, zA, zB, zC]
             (with_reducible refine' wl_valS ?_ ?_ ?_); rotate_left; exact rfl; exact (v_moveT (.inr rfl) rfl)
             simp only [Act.put, zA, zB, zC]
             repeat ((fail_if_success (with_reducible show wpList _ _ _ (List.cons _ _) _ _)); (fail_if_success (with_reducible show Code.wp _ (Code.region _ _ true) _ _ _)); go_step)
             (with_reducible refine' wl_valS ?_ ?_ ?_); rotate_left; exact rfl; exact (v_moveT (.inl rfl) rfl)
             simp only [Act.put, zA, zB, zC]
             (with_reducible refine' wl_valS ?_ ?_ ?_); rotate_left; exact rfl; exact (v_add (n := 1) rfl rfl rfl (w_i64 (by omega)))
             simp only [Act.put, zA, zB, zC]
             (with_reducible refine' wl_valS ?_ ?_ ?_); rotate_left; exact rfl; exact (v_moveT (.inr rfl) rfl)
             simp only [Act.put, zA, zB, zC]
             go_wp2
             go_roundw
             case rel => exact ⟨k + 1, by omega, rfl, by rw [Htt.out, Hu.out, hb]; rfl, hE2⟩
             case measure => simp [intOf]; omega
           ·
            have hk' : k = M2.length := by omega
            subst hk'
            have d3 := Lib.hid (decide_eq_false hkl)
            have hut : u = T2 := by
             rw [← hu, ← HT2.out, List.take_of_length_le (by omega)]
             exact times_keys HkX.out
            subst hut
            have d5 := Lib.hid (decide_eq_false (show ¬ 1 + q < M2.length by have := HF3.out.len; omega))
            clear hu
            repeat ((fail_if_success (with_reducible show wpList _ _ _ (List.cons _ _) _ _)); (fail_if_success (with_reducible show Code.wp _ (Code.region _ _ true) _ _ _)); go_step)
            (with_reducible refine' wl_valS ?_ ?_ ?_); rotate_left; exact rfl; exact (v_moveT (.inl rfl) rfl)
            simp only [Act.put, zA, zB, zC]
            (with_reducible refine' wl_valS ?_ ?_ ?_); rotate_left; exact rfl; exact (v_moveT (.inl rfl) rfl)
            simp only [Act.put, zA, zB, zC]
            (with_reducible refine' wl_valS ?_ ?_ ?_); rotate_left; exact rfl; exact (v_len rfl rfl Try.underlying33 hM63)
            simp only [Act.put, zA, zB, zC]
            (with_reducible refine' wl_valS ?_ ?_ ?_); rotate_left; exact rfl; exact (v_lss rfl rfl rfl)
            simp only [Act.put, zA, zB, zC]
            rw [d3.out]
            repeat ((fail_if_success (with_reducible show wpList _ _ _ (List.cons _ _) _ _)); (fail_if_success (with_reducible show Code.wp _ (Code.region _ _ true) _ _ _)); (fail_if_success (with_reducible show Code.wp _ (Code.cond _ _ _) _ _ _)); go_step)
            refine wp_cond_false (by first | rfl | exact congrArg Value.bool (decide_eq_false (by omega))) ?_
            skip
            repeat ((fail_if_success (with_reducible show wpList _ _ _ (List.cons _ _) _ _)); (fail_if_success (with_reducible show Code.wp _ (Code.region _ _ true) _ _ _)); go_step)
            (with_reducible refine' wl_valS ?_ ?_ ?_); rotate_left; exact rfl; exact (v_moveT (.inl rfl) rfl)
            simp only [Act.put, zA, zB, zC]
            (with_reducible refine' wl_valS ?_ ?_ ?_); rotate_left; exact rfl; exact (v_moveT (.inl rfl) rfl)
            simp only [Act.put, zA, zB, zC]
            (with_reducible refine' wl_valS ?_ ?_ ?_); rotate_left; exact rfl; exact (v_neqS rfl rfl rfl)
            simp only [Act.put, zA, zB, zC]
            (with_reducible refine' wl_valS ?_ ?_ ?_); rotate_left; exact rfl; exact (v_moveT (.inl rfl) rfl)
            simp only [Act.put, zA, zB, zC]
            (with_reducible refine' wl_valS ?_ ?_ ?_); rotate_left; exact rfl; exact (v_moveT (.inl rfl) rfl)
            simp only [Act.put, zA, zB, zC]
            (with_reducible refine' wl_valS ?_ ?_ ?_); rotate_left; exact rfl; exact (v_len rfl rfl Try.underlying33 hM63)
            simp only [Act.put, zA, zB, zC]
            (with_reducible refine' wl_valS ?_ ?_ ?_); rotate_left; exact rfl; exact (v_moveT (.inl rfl) rfl)
            simp only [Act.put, zA, zB, zC]
            (with_reducible refine' wl_valS ?_ ?_ ?_); rotate_left; exact rfl; exact (v_rem (n := 64) rfl rfl rfl (by omega))
            simp only [Act.put, zA, zB, zC]
            rw [HQ.out]
            (with_reducible refine' wl_valS ?_ ?_ ?_); rotate_left; exact rfl; exact (v_convInt rfl rfl Try.underlying5 Try.underlying3 (w_i64 (by omega)))
            simp only [Act.put, zA, zB, zC]
            (with_reducible refine' wl_valS ?_ ?_ ?_); rotate_left; exact rfl; exact (v_add (m := 1) rfl rfl rfl (w_i64 (by omega)))
            simp only [Act.put, zA, zB, zC]
            (with_reducible refine' wl_valS ?_ ?_ ?_); rotate_left; exact rfl; exact (v_gtr rfl rfl rfl)
            simp only [Act.put, zA, zB, zC]
            rw [d5.out]
            (with_reducible refine' wl_valS ?_ ?_ ?_); rotate_left; exact rfl; exact (v_orF rfl rfl rfl)
            simp only [Act.put, zA, zB, zC]
            repeat ((fail_if_success (with_reducible show wpList _ _ _ (List.cons _ _) _ _)); (fail_if_success (with_reducible show Code.wp _ (Code.region _ _ true) _ _ _)); (fail_if_success (with_reducible show Code.wp _ (Code.cond _ _ _) _ _ _)); go_step)
            refine wp_cond_false (by first | rfl | exact congrArg Value.bool (decide_eq_false (by omega))) ?_
            skip
            repeat ((fail_if_success (with_reducible show wpList _ _ _ (List.cons _ _) _ _)); (fail_if_success (with_reducible show Code.wp _ (Code.region _ _ true) _ _ _)); go_step)
            (with_reducible refine' wl_valS ?_ ?_ ?_); rotate_left; exact rfl; exact (v_moveT (.inl rfl) rfl)
            simp only [Act.put, zA, zB, zC]
            (with_reducible refine' wl_valS ?_ ?_ ?_); rotate_left; exact rfl; exact (v_add (n := 1) rfl rfl rfl (w_i64 (by omega)))
            simp only [Act.put, zA, zB, zC]
            (with_reducible refine' wl_valS ?_ ?_ ?_); rotate_left; exact rfl; exact (v_moveT (.inr rfl) rfl)
            simp only [Act.put, zA, zB, zC]
            go_wp2
            go_roundw
            case rel => exact ⟨j + 1, M2, v2, b2, RX, by omega, rfl, by rw [HT2.out], HF3.out, hE0⟩
            case measure => simp [intOf]; omega
         ·
          repeat ((fail_if_success (with_reducible show wpList _ _ _ (List.cons _ _) _ _)); (fail_if_success (with_reducible show Code.wp _ (Code.region _ _ true) _ _ _)); go_step)
          (with_reducible refine' wl_valS ?_ ?_ ?_); rotate_left; exact rfl; exact (v_moveT (.inl rfl) rfl)
          simp only [Act.put, zA, zB, zC]
          (with_reducible refine' wl_valS ?_ ?_ ?_); rotate_left; exact rfl; exact (v_fieldB (s := 0) rfl rfl Try.underlying36 rfl (by kernel_rfl) rfl)
          simp only [Act.put, zA, zB, zC]
          (with_reducible refine' wl_valS ?_ ?_ ?_); rotate_left; exact rfl; exact (v_cellB (v := .int .i64 (idx : Int)) (i := 0) (HO2.out _ _ _ _ hsR hE1) rfl rfl rfl Try.underlying3 rfl (congrArg (fun z => some (Value.int .i64 z)) Hidx.out))
          simp only [Act.put, zA, zB, zC]
          (with_reducible refine' wl_valS ?_ ?_ ?_); rotate_left; exact rfl; exact (v_fieldB (s := 0) rfl rfl Try.underlying36 rfl (by kernel_rfl) rfl)
          simp only [Act.put, zA, zB, zC]
          (with_reducible refine' wl_valS ?_ ?_ ?_); rotate_left; exact rfl; exact (v_cellB (v := .int .i64 o.k) (i := 0) (HO2.out _ _ _ _ hsR hE1) rfl rfl rfl Try.underlying3 rfl rfl)
          simp only [Act.put, zA, zB, zC]
          refine wl_step (st_gives hE1 rfl (run_call rfl Try.call12) (Swap_out2 (hE1.get (i := 0) rfl) hMl hidl hin2) ?_)
          intro w41 hb41 hE41
          clear hE1
          simp only [Act.put, zA, zB, zC]
          obtain ⟨M2, v2, b2, R2, T2, hEE, hFF, hTT, hTe⟩ : ∃ M2 v2 b2 R2 T2, KE w g1 g0 (1 + q) pk v2 b2 R2 w41 ∧ KF w g0 (1 + q) pk M2 v2 b2 R2 ∧ times pk.key M2 = T2 ∧ T2 = T := ⟨_, _, _, _, _, hE41, HF1'.out, HT.out, rfl⟩
          subst hTe
          have HF2 := Lib.hid hFF
          have HT2 := Lib.hid hTT
          clear hE41 hFF hTT
          repeat ((fail_if_success (with_reducible show wpList _ _ _ (List.cons _ _) _ _)); (fail_if_success (with_reducible show Code.wp _ (Code.region _ _ true) _ _ _)); go_step)
          (with_reducible refine' wl_valS ?_ ?_ ?_); rotate_left; exact rfl; exact (v_moveC (.inr rfl))
          simp only [Act.put, zA, zB, zC]
          repeat ((fail_if_success (with_reducible show wpList _ _ _ (List.cons _ _) _ _)); (fail_if_success (with_reducible show Code.wp _ (Code.region _ _ true) _ _ _)); go_step)
          (with_reducible refine' wl_valS ?_ ?_ ?_); rotate_left; exact rfl; exact (v_moveT (.inl rfl) rfl)
          simp only [Act.put, zA, zB, zC]
          refine wl_step (st_calls rfl (run_call rfl Try.call8) (HF2.out.list hEE hN2) ?_)
          rintro _ w61 ⟨pX, cX, NX, RX, rfl, hkX, hsX, hE61, hrX, hseX⟩
          skip
          refine ⟨_, rfl, ?_⟩
          clear hEE
          simp only [Act.put, zA, zB, zC]
          (with_reducible refine' wl_valS ?_ ?_ ?_); rotate_left; exact rfl; exact (v_moveT (.inr rfl) rfl)
          simp only [Act.put, zA, zB, zC]
          have HF3 := Lib.hid (HF2.out.more hsX)
          have HkX := Lib.hid hkX
          have HrX := Lib.hid hrX
          have HseX := Lib.hid hseX
          have hlX : NX.length = M2.length := keys_len hkX
          have hM64 : M2.length ≤ 64 := by have := HF3.out.len; omega
          have hM63 : M2.length < 9223372036854775808 := by omega
          have HdX := Lib.hid (keys_digs hkX HF3.out.digs)
          have hst := hE61
          clear hE61 hkX hsX hrX hseX
          repeat ((fail_if_success (with_reducible show wpList _ _ _ (List.cons _ _) _ _)); (fail_if_success (with_reducible show Code.wp _ (Code.region _ _ true) _ _ _)); go_step)
          (with_reducible refine' wl_valS ?_ ?_ ?_); rotate_left; exact rfl; exact (v_moveC (.inr rfl))
          simp only [Act.put, zA, zB, zC]
          go_wp2
          go_loopw [16, 18] (fun t i wr => ∃ k : Nat, k ≤ M2.length ∧ i = .int .i64 k ∧ t = .int .i64 ((times pk.key (NX.take k) : Nat) : Int) ∧ KE w g1 g0 (1 + q) pk v2 b2 RX wr) (fun _ i _ => M2.length - (intOf i).toNat)
          case atStart => exact ⟨0, Nat.zero_le _, rfl, by rw [List.take_zero]; rfl, hst⟩
          case round =>
           clear hst
           obtain ⟨k, hk, rfl, rfl, hE0⟩ := hrel
           obtain ⟨u, hu⟩ : ∃ u, times pk.key (NX.take k) = u := ⟨_, rfl⟩
           have hu64 : u ≤ 64 := by
            have := times_le pk.key (NX.take k)
            rw [hu, List.length_take] at this
            omega
           rw [hu]
           by_cases hkl : k < M2.length
           ·
            have d3 := Lib.hid (decide_eq_true hkl)
            have hgx : NX[k]? = some NX[k] := List.getElem?_eq_getElem (by omega)
            obtain ⟨m5, hme⟩ : ∃ m, NX[k] = m := ⟨_, rfl⟩
            rw [hme] at hgx
            have hm5 : m5 ∈ NX := List.mem_of_getElem? hgx
            obtain ⟨b5, off5, rfl, -⟩ := (HrX.out _ (KE.rest hE0)).elem hkl
            have hran5 : ∀ w', KE w g1 g0 (1 + q) pk v2 b2 RX w' → ∀ w1, Below w'.heap.size w' w1 → w1.rangeAt b5 (off5 + k * 3) [.int .i64 m5.fr, .int .i64 m5.to, m5.sl] := fun w' hE' w1 hb1 => by
             obtain ⟨b', off', he, hr⟩ := (HrX.out _ (KE.rest hE')).elem hkl
             injection he with he
             injection he with h1 h2 _
             subst h1 h2
             have := hr w1 hb1
             rwa [pcells_at hgx] at this
            have Hran5 := Lib.hid hran5
            have HSame5 : Hid (∀ w', KE w g1 g0 (1 + q) pk v2 b2 RX w' → Gives 10 #[pkv m5, pkv pk] w' (.bool (m5.key == pk.key))) := Lib.hid (fun w' hE' => by
             have h := Same_any (f1 := m5.fr) (t1 := m5.to) (f2 := pk.fr) (t2 := pk.to) (HseX.out m5 hm5 _ (KE.rest hE')) (HP.out.1.below hE'.below) (HdX.out m5 hm5).1 HP.out.2.1
             rwa [same_key] at h)
            have Htt := Lib.hid (times_take (k := pk.key) hgx)
            have Hu := Lib.hid hu
            clear hran5 hme hgx hu
            repeat ((fail_if_success (with_reducible show wpList _ _ _ (List.cons _ _) _ _)); (fail_if_success (with_reducible show Code.wp _ (Code.region _ _ true) _ _ _)); go_step)
            (with_reducible refine' wl_valS ?_ ?_ ?_); rotate_left; exact rfl; exact (v_moveT (.inl rfl) rfl)
            simp only [Act.put, zA, zB, zC]
            (with_reducible refine' wl_valS ?_ ?_ ?_); rotate_left; exact rfl; exact (v_moveT (.inl rfl) rfl)
            simp only [Act.put, zA, zB, zC]
            (with_reducible refine' wl_valS ?_ ?_ ?_); rotate_left; exact rfl; exact (v_len rfl rfl Try.underlying33 hM63)
            simp only [Act.put, zA, zB, zC]
            (with_reducible refine' wl_valS ?_ ?_ ?_); rotate_left; exact rfl; exact (v_lss rfl rfl rfl)
            simp only [Act.put, zA, zB, zC]
            rw [d3.out]
            repeat ((fail_if_success (with_reducible show wpList _ _ _ (List.cons _ _) _ _)); (fail_if_success (with_reducible show Code.wp _ (Code.region _ _ true) _ _ _)); (fail_if_success (with_reducible show Code.wp _ (Code.cond _ _ _) _ _ _)); go_step)
            refine wp_cond_true (by first | rfl | exact congrArg Value.bool (decide_eq_true (by omega))) ?_
            skip
            repeat ((fail_if_success (with_reducible show wpList _ _ _ (List.cons _ _) _ _)); (fail_if_success (with_reducible show Code.wp _ (Code.region _ _ true) _ _ _)); go_step)
            refine wp_region_B (n := 6) 6 (by kernel_rfl) rfl hE0 ?_
            intro w1 hb1 hE1
            clear hE0
            refine wpB_take (i := 0) (by kernel_rfl) rfl (by kernel_rfl) (fun _ _ _ h => h) rfl (v_moveT (.inl rfl) rfl) ?_
            simp only [Act.put, zA, zB, zC]
            refine wpB_take (i := 1) (by kernel_rfl) rfl (by kernel_rfl) (fun _ _ _ h => h) rfl (v_moveT (.inl rfl) rfl) ?_
            simp only [Act.put, zA, zB, zC]
            refine wpB_take (i := 2) (by kernel_rfl) rfl (by kernel_rfl) (fun _ _ _ h => h) rfl (v_indexSs (s := 3) rfl rfl rfl Try.underlying33 (by kernel_rfl) hkl) ?_
            simp only [Act.put, zA, zB, zC]
            refine wpB_take (i := 3) (by kernel_rfl) rfl (by kernel_rfl) (fun _ _ _ h => h) rfl (v_loadMid (cs := #[.int .i64 m5.fr, .int .i64 m5.to, m5.sl]) rfl rfl (Hran5.out _ hE1) Try.underlying25 rfl (by kernel_rfl)) ?_
            simp only [Act.put, zA, zB, zC]
            refine wpB_take (i := 4) (by kernel_rfl) rfl (by kernel_rfl) (fun _ _ _ h => h) rfl (v_load (i := 0) (hE1.perm (pk4 ..)) rfl rfl rfl Try.underlying25 rfl (sz_of (n := 3) (by kernel_rfl) rfl)) ?_
            simp only [Act.put, zA, zB, zC]
            refine wpB_step (i := 5) (by kernel_rfl) rfl (st_gives hE1 rfl (run_call rfl Try.call10) (HSame5.out _ hE1) ?_)
            intro w2 hb2 hE2
            clear hE1
            refine ⟨fun _ => hb2, ?_⟩
            simp only [Act.put, zA, zB, zC]
            refine wpB_done (by kernel_rfl) ?_ _
            rcases hb : (m5.key == pk.key) with _ | _
            ·
             repeat ((fail_if_success (with_reducible show wpList _ _ _ (List.cons _ _) _ _)); (fail_if_success (with_reducible show Code.wp _ (Code.region _ _ true) _ _ _)); (fail_if_success (with_reducible show Code.wp _ (Code.cond _ _ _) _ _ _)); go_step)
             refine wp_cond_false (by first | rfl | exact congrArg Value.bool (decide_eq_false (by omega))) ?_
             skip
             repeat ((fail_if_success (with_reducible show wpList _ _ _ (List.cons _ _) _ _)); (fail_if_success (with_reducible show Code.wp _ (Code.region _ _ true) _ _ _)); go_step)
             (with_reducible refine' wl_valS ?_ ?_ ?_); rotate_left; exact rfl; exact (v_moveT (.inl rfl) rfl)
             simp only [Act.put, zA, zB, zC]
             (with_reducible refine' wl_valS ?_ ?_ ?_); rotate_left; exact rfl; exact (v_add (n := 1) rfl rfl rfl (w_i64 (by omega)))
             simp only [Act.put, zA, zB, zC]
             (with_reducible refine' wl_valS ?_ ?_ ?_); rotate_left; exact rfl; exact (v_moveT (.inr rfl) rfl)
             simp only [Act.put, zA, zB, zC]
             go_wp2
             go_roundw
             case rel => exact ⟨k + 1, by omega, rfl, by rw [Htt.out, Hu.out, hb]; rfl, hE2⟩
             case measure => simp [intOf]; omega
            ·
             repeat ((fail_if_success (with_reducible show wpList _ _ _ (List.cons _ _) _ _)); (fail_if_success (with_reducible show Code.wp _ (Code.region _ _ true) _ _ _)); (fail_if_success (with_reducible show Code.wp _ (Code.cond _ _ _) _ _ _)); go_step)
             refine wp_cond_true (by first | rfl | exact congrArg Value.bool (decide_eq_true (by omega))) ?_
             skip
             repeat ((fail_if_success (with_reducible show wpList _ _ _ (List.cons _ _) _ _)); (fail_if_success (with_reducible show Code.wp _ (Code.region _ _ true) _ _ _)); go_step)
             (with_reducible refine' wl_valS ?_ ?_ ?_); rotate_left; exact rfl; exact (v_moveT (.inl rfl) rfl)
             simp only [Act.put, zA, zB, zC]
             (with_reducible refine' wl_valS ?_ ?_ ?_); rotate_left; exact rfl; exact (v_add (n := 1) rfl rfl rfl (w_i64 (by omega)))
             simp only [Act.put, zA, zB, zC]
             (with_reducible refine' wl_valS ?_ ?_ ?_); rotate_left; exact rfl; exact (v_moveT (.inr rfl) rfl)
             simp only [Act.put, zA, zB, zC]
             repeat ((fail_if_success (with_reducible show wpList _ _ _ (List.cons _ _) _ _)); (fail_if_success (with_reducible show Code.wp _ (Code.region _ _ true) _ _ _)); go_step)
             (with_reducible refine' wl_valS ?_ ?_ ?_); rotate_left; exact rfl; exact (v_moveT (.inl rfl) rfl)
             simp only [Act.put, zA, zB, zC]
             (with_reducible refine' wl_valS ?_ ?_ ?_); rotate_left; exact rfl; exact (v_add (n := 1) rfl rfl rfl (w_i64 (by omega)))
             simp only [Act.put, zA, zB, zC]
             (with_reducible refine' wl_valS ?_ ?_ ?_); rotate_left; exact rfl; exact (v_moveT (.inr rfl) rfl)
             simp only [Act.put, zA, zB, zC]
             go_wp2
             go_roundw
             case rel => exact ⟨k + 1, by omega, rfl, by rw [Htt.out, Hu.out, hb]; rfl, hE2⟩
             case measure => simp [intOf]; omega
           ·
            have hk' : k = M2.length := by omega
            subst hk'
            have d3 := Lib.hid (decide_eq_false hkl)
            have hut : u = T2 := by
             rw [← hu, ← HT2.out, List.take_of_length_le (by omega)]
             exact times_keys HkX.out
            subst hut
            have d5 := Lib.hid (decide_eq_false (show ¬ 1 + q < M2.length by have := HF3.out.len; omega))
            clear hu
            repeat ((fail_if_success (with_reducible show wpList _ _ _ (List.cons _ _) _ _)); (fail_if_success (with_reducible show Code.wp _ (Code.region _ _ true) _ _ _)); go_step)
            (with_reducible refine' wl_valS ?_ ?_ ?_); rotate_left; exact rfl; exact (v_moveT (.inl rfl) rfl)
            simp only [Act.put, zA, zB, zC]
            (with_reducible refine' wl_valS ?_ ?_ ?_); rotate_left; exact rfl; exact (v_moveT (.inl rfl) rfl)
            simp only [Act.put, zA, zB, zC]
            (with_reducible refine' wl_valS ?_ ?_ ?_); rotate_left; exact rfl; exact (v_len rfl rfl Try.underlying33 hM63)
            simp only [Act.put, zA, zB, zC]
            (with_reducible refine' wl_valS ?_ ?_ ?_); rotate_left; exact rfl; exact (v_lss rfl rfl rfl)
            simp only [Act.put, zA, zB, zC]
            rw [d3.out]
            repeat ((fail_if_success (with_reducible show wpList _ _ _ (List.cons _ _) _ _)); (fail_if_success (with_reducible show Code.wp _ (Code.region _ _ true) _ _ _)); (fail_if_success (with_reducible show Code.wp _ (Code.cond _ _ _) _ _ _)); go_step)
            refine wp_cond_false (by first | rfl | exact congrArg Value.bool (decide_eq_false (by omega))) ?_
            skip
            repeat ((fail_if_success (with_reducible show wpList _ _ _ (List.cons _ _) _ _)); (fail_if_success (with_reducible show Code.wp _ (Code.region _ _ true) _ _ _)); go_step)
            (with_reducible refine' wl_valS ?_ ?_ ?_); rotate_left; exact rfl; exact (v_moveT (.inl rfl) rfl)
            simp only [Act.put, zA, zB, zC]
            (with_reducible refine' wl_valS ?_ ?_ ?_); rotate_left; exact rfl; exact (v_moveT (.inl rfl) rfl)
            simp only [Act.put, zA, zB, zC]
            (with_reducible refine' wl_valS ?_ ?_ ?_); rotate_left; exact rfl; exact (v_neqS rfl rfl rfl)
            simp only [Act.put, zA, zB, zC]
            (with_reducible refine' wl_valS ?_ ?_ ?_); rotate_left; exact rfl; exact (v_moveT (.inl rfl) rfl)
            simp only [Act.put, zA, zB, zC]
            (with_reducible refine' wl_valS ?_ ?_ ?_); rotate_left; exact rfl; exact (v_moveT (.inl rfl) rfl)
            simp only [Act.put, zA, zB, zC]
            (with_reducible refine' wl_valS ?_ ?_ ?_); rotate_left; exact rfl; exact (v_len rfl rfl Try.underlying33 hM63)
            simp only [Act.put, zA, zB, zC]
            (with_reducible refine' wl_valS ?_ ?_ ?_); rotate_left; exact rfl; exact (v_moveT (.inl rfl) rfl)
            simp only [Act.put, zA, zB, zC]
            (with_reducible refine' wl_valS ?_ ?_ ?_); rotate_left; exact rfl; exact (v_rem (n := 64) rfl rfl rfl (by omega))
            simp only [Act.put, zA, zB, zC]
            rw [HQ.out]
            (with_reducible refine' wl_valS ?_ ?_ ?_); rotate_left; exact rfl; exact (v_convInt rfl rfl Try.underlying5 Try.underlying3 (w_i64 (by omega)))
            simp only [Act.put, zA, zB, zC]
            (with_reducible refine' wl_valS ?_ ?_ ?_); rotate_left; exact rfl; exact (v_add (m := 1) rfl rfl rfl (w_i64 (by omega)))
            simp only [Act.put, zA, zB, zC]
            (with_reducible refine' wl_valS ?_ ?_ ?_); rotate_left; exact rfl; exact (v_gtr rfl rfl rfl)
            simp only [Act.put, zA, zB, zC]
            rw [d5.out]
            (with_reducible refine' wl_valS ?_ ?_ ?_); rotate_left; exact rfl; exact (v_orF rfl rfl rfl)
            simp only [Act.put, zA, zB, zC]
            repeat ((fail_if_success (with_reducible show wpList _ _ _ (List.cons _ _) _ _)); (fail_if_success (with_reducible show Code.wp _ (Code.region _ _ true) _ _ _)); (fail_if_success (with_reducible show Code.wp _ (Code.cond _ _ _) _ _ _)); go_step)
            refine wp_cond_false (by first | rfl | exact congrArg Value.bool (decide_eq_false (by omega))) ?_
            skip
            repeat ((fail_if_success (with_reducible show wpList _ _ _ (List.cons _ _) _ _)); (fail_if_success (with_reducible show Code.wp _ (Code.region _ _ true) _ _ _)); go_step)
            (with_reducible refine' wl_valS ?_ ?_ ?_); rotate_left; exact rfl; exact (v_moveT (.inl rfl) rfl)
            simp only [Act.put, zA, zB, zC]
            (with_reducible refine' wl_valS ?_ ?_ ?_); rotate_left; exact rfl; exact (v_add (n := 1) rfl rfl rfl (w_i64 (by omega)))
            simp only [Act.put, zA, zB, zC]
            (with_reducible refine' wl_valS ?_ ?_ ?_); rotate_left; exact rfl; exact (v_moveT (.inr rfl) rfl)
            simp only [Act.put, zA, zB, zC]
            go_wp2
            go_roundw
            case rel => exact ⟨j + 1, M2, v2, b2, RX, by omega, rfl, by rw [HT2.out], HF3.out, hE0⟩
            case measure => simp [intOf]; omega
        ·
         repeat ((fail_if_success (with_reducible show wpList _ _ _ (List.cons _ _) _ _)); (fail_if_success (with_reducible show Code.wp _ (Code.region _ _ true) _ _ _)); go_step)
         (with_reducible refine' wl_valS ?_ ?_ ?_); rotate_left; exact rfl; exact (v_moveT (.inl rfl) rfl)
         simp only [Act.put, zA, zB, zC]
         (with_reducible refine' wl_valS ?_ ?_ ?_); rotate_left; exact rfl; exact (v_fieldB (s := 0) rfl rfl Try.underlying36 rfl (by kernel_rfl) rfl)
         simp only [Act.put, zA, zB, zC]
         (with_reducible refine' wl_valS ?_ ?_ ?_); rotate_left; exact rfl; exact (v_cellB (v := .int .i64 o.i) (i := 0) (HO2.out _ _ _ _ hsR hE1) rfl rfl rfl Try.underlying3 rfl rfl)
         simp only [Act.put, zA, zB, zC]
         (with_reducible refine' wl_valS ?_ ?_ ?_); rotate_left; exact rfl; exact (v_fieldB (s := 0) rfl rfl Try.underlying36 rfl (by kernel_rfl) rfl)
         simp only [Act.put, zA, zB, zC]
         (with_reducible refine' wl_valS ?_ ?_ ?_); rotate_left; exact rfl; exact (v_cellB (v := .int .i64 o.k) (i := 0) (HO2.out _ _ _ _ hsR hE1) rfl rfl rfl Try.underlying3 rfl rfl)
         simp only [Act.put, zA, zB, zC]
         refine wl_step (st_gives hE1 rfl (run_call rfl Try.call12) (Swap_out (hE1.get (i := 0) rfl) hMl hin) ?_)
         intro w41 hb41 hE41
         clear hE1
         simp only [Act.put, zA, zB, zC]
         obtain ⟨M2, v2, b2, R2, T2, hEE, hFF, hTT, hTe⟩ : ∃ M2 v2 b2 R2 T2, KE w g1 g0 (1 + q) pk v2 b2 R2 w41 ∧ KF w g0 (1 + q) pk M2 v2 b2 R2 ∧ times pk.key M2 = T2 ∧ T2 = T := ⟨_, _, _, _, _, hE41, HF1'.out, HT.out, rfl⟩
         subst hTe
         have HF2 := Lib.hid hFF
         have HT2 := Lib.hid hTT
         clear hE41 hFF hTT
         repeat ((fail_if_success (with_reducible show wpList _ _ _ (List.cons _ _) _ _)); (fail_if_success (with_reducible show Code.wp _ (Code.region _ _ true) _ _ _)); go_step)
         (with_reducible refine' wl_valS ?_ ?_ ?_); rotate_left; exact rfl; exact (v_moveC (.inr rfl))
         simp only [Act.put, zA, zB, zC]
         repeat ((fail_if_success (with_reducible show wpList _ _ _ (List.cons _ _) _ _)); (fail_if_success (with_reducible show Code.wp _ (Code.region _ _ true) _ _ _)); go_step)
         (with_reducible refine' wl_valS ?_ ?_ ?_); rotate_left; exact rfl; exact (v_moveT (.inl rfl) rfl)
         simp only [Act.put, zA, zB, zC]
         refine wl_step (st_calls rfl (run_call rfl Try.call8) (HF2.out.list hEE hN2) ?_)
         rintro _ w61 ⟨pX, cX, NX, RX, rfl, hkX, hsX, hE61, hrX, hseX⟩
         skip
         refine ⟨_, rfl, ?_⟩
         clear hEE
         simp only [Act.put, zA, zB, zC]
         (with_reducible refine' wl_valS ?_ ?_ ?_); rotate_left; exact rfl; exact (v_moveT (.inr rfl) rfl)
         simp only [Act.put, zA, zB, zC]
         have HF3 := Lib.hid (HF2.out.more hsX)
         have HkX := Lib.hid hkX
         have HrX := Lib.hid hrX
         have HseX := Lib.hid hseX
         have hlX : NX.length = M2.length := keys_len hkX
         have hM64 : M2.length ≤ 64 := by have := HF3.out.len; omega
         have hM63 : M2.length < 9223372036854775808 := by omega
         have HdX := Lib.hid (keys_digs hkX HF3.out.digs)
         have hst := hE61
         clear hE61 hkX hsX hrX hseX
         repeat ((fail_if_success (with_reducible show wpList _ _ _ (List.cons _ _) _ _)); (fail_if_success (with_reducible show Code.wp _ (Code.region _ _ true) _ _ _)); go_step)
         (with_reducible refine' wl_valS ?_ ?_ ?_); rotate_left; exact rfl; exact (v_moveC (.inr rfl))
         simp only [Act.put, zA, zB, zC]
         go_wp2
         go_loopw [16, 18] (fun t i wr => ∃ k : Nat, k ≤ M2.length ∧ i = .int .i64 k ∧ t = .int .i64 ((times pk.key (NX.take k) : Nat) : Int) ∧ KE w g1 g0 (1 + q) pk v2 b2 RX wr) (fun _ i _ => M2.length - (intOf i).toNat)
         case atStart => exact ⟨0, Nat.zero_le _, rfl, by rw [List.take_zero]; rfl, hst⟩
         case round =>
          clear hst
          obtain ⟨k, hk, rfl, rfl, hE0⟩ := hrel
          obtain ⟨u, hu⟩ : ∃ u, times pk.key (NX.take k) = u := ⟨_, rfl⟩
          have hu64 : u ≤ 64 := by
           have := times_le pk.key (NX.take k)
           rw [hu, List.length_take] at this
           omega
          rw [hu]
          by_cases hkl : k < M2.length
          ·
           have d3 := Lib.hid (decide_eq_true hkl)
           have hgx : NX[k]? = some NX[k] := List.getElem?_eq_getElem (by omega)
           obtain ⟨m5, hme⟩ : ∃ m, NX[k] = m := ⟨_, rfl⟩
           rw [hme] at hgx
           have hm5 : m5 ∈ NX := List.mem_of_getElem? hgx
           obtain ⟨b5, off5, rfl, -⟩ := (HrX.out _ (KE.rest hE0)).elem hkl
           have hran5 : ∀ w', KE w g1 g0 (1 + q) pk v2 b2 RX w' → ∀ w1, Below w'.heap.size w' w1 → w1.rangeAt b5 (off5 + k * 3) [.int .i64 m5.fr, .int .i64 m5.to, m5.sl] := fun w' hE' w1 hb1 => by
            obtain ⟨b', off', he, hr⟩ := (HrX.out _ (KE.rest hE')).elem hkl
            injection he with he
            injection he with h1 h2 _
            subst h1 h2
            have := hr w1 hb1
            rwa [pcells_at hgx] at this
           have Hran5 := Lib.hid hran5
           have HSame5 : Hid (∀ w', KE w g1 g0 (1 + q) pk v2 b2 RX w' → Gives 10 #[pkv m5, pkv pk] w' (.bool (m5.key == pk.key))) := Lib.hid (fun w' hE' => by
            have h := Same_any (f1 := m5.fr) (t1 := m5.to) (f2 := pk.fr) (t2 := pk.to) (HseX.out m5 hm5 _ (KE.rest hE')) (HP.out.1.below hE'.below) (HdX.out m5 hm5).1 HP.out.2.1
            rwa [same_key] at h)
           have Htt := Lib.hid (times_take (k := pk.key) hgx)
           have Hu := Lib.hid hu
           clear hran5 hme hgx hu
           repeat ((fail_if_success (with_reducible show wpList _ _ _ (List.cons _ _) _ _)); (fail_if_success (with_reducible show Code.wp _ (Code.region _ _ true) _ _ _)); go_step)
           (with_reducible refine' wl_valS ?_ ?_ ?_); rotate_left; exact rfl; exact (v_moveT (.inl rfl) rfl)
           simp only [Act.put, zA, zB, zC]
           (with_reducible refine' wl_valS ?_ ?_ ?_); rotate_left; exact rfl; exact (v_moveT (.inl rfl) rfl)
           simp only [Act.put, zA, zB, zC]
           (with_reducible refine' wl_valS ?_ ?_ ?_); rotate_left; exact rfl; exact (v_len rfl rfl Try.underlying33 hM63)
           simp only [Act.put, zA, zB, zC]
           (with_reducible refine' wl_valS ?_ ?_ ?_); rotate_left; exact rfl; exact (v_lss rfl rfl rfl)
           simp only [Act.put, zA, zB, zC]
           rw [d3.out]
           repeat ((fail_if_success (with_reducible show wpList _ _ _ (List.cons _ _) _ _)); (fail_if_success (with_reducible show Code.wp _ (Code.region _ _ true) _ _ _)); (fail_if_success (with_reducible show Code.wp _ (Code.cond _ _ _) _ _ _)); go_step)
           refine wp_cond_true (by first | rfl | exact congrArg Value.bool (decide_eq_true (by omega))) ?_
           skip
           repeat ((fail_if_success (with_reducible show wpList _ _ _ (List.cons _ _) _ _)); (fail_if_success (with_reducible show Code.wp _ (Code.region _ _ true) _ _ _)); go_step)
           refine wp_region_B (n := 6) 6 (by kernel_rfl) rfl hE0 ?_
           intro w1 hb1 hE1
           clear hE0
           refine wpB_take (i := 0) (by kernel_rfl) rfl (by kernel_rfl) (fun _ _ _ h => h) rfl (v_moveT (.inl rfl) rfl) ?_
           simp only [Act.put, zA, zB, zC]
           refine wpB_take (i := 1) (by kernel_rfl) rfl (by kernel_rfl) (fun _ _ _ h => h) rfl (v_moveT (.inl rfl) rfl) ?_
           simp only [Act.put, zA, zB, zC]
           refine wpB_take (i := 2) (by kernel_rfl) rfl (by kernel_rfl) (fun _ _ _ h => h) rfl (v_indexSs (s := 3) rfl rfl rfl Try.underlying33 (by kernel_rfl) hkl) ?_
           simp only [Act.put, zA, zB, zC]
           refine wpB_take (i := 3) (by kernel_rfl) rfl (by kernel_rfl) (fun _ _ _ h => h) rfl (v_loadMid (cs := #[.int .i64 m5.fr, .int .i64 m5.to, m5.sl]) rfl rfl (Hran5.out _ hE1) Try.underlying25 rfl (by kernel_rfl)) ?_
           simp only [Act.put, zA, zB, zC]
           refine wpB_take (i := 4) (by kernel_rfl) rfl (by kernel_rfl) (fun _ _ _ h => h) rfl (v_load (i := 0) (hE1.perm (pk4 ..)) rfl rfl rfl Try.underlying25 rfl (sz_of (n := 3) (by kernel_rfl) rfl)) ?_
           simp only [Act.put, zA, zB, zC]
           refine wpB_step (i := 5) (by kernel_rfl) rfl (st_gives hE1 rfl (run_call rfl Try.call10) (HSame5.out _ hE1) ?_)
           intro w2 hb2 hE2
           clear hE1
           refine ⟨fun _ => hb2, ?_⟩
           simp only [Act.put, zA, zB, zC]
           refine wpB_done (by kernel_rfl) ?_ _
           rcases hb : (m5.key == pk.key) with _ | _
           ·
            repeat ((fail_if_success (with_reducible show wpList _ _ _ (List.cons _ _) _ _)); (fail_if_success (with_reducible show Code.wp _ (Code.region _ _ true) _ _ _)); (fail_if_success (with_reducible show Code.wp _ (Code.cond _ _ _) _ _ _)); go_step)
            refine wp_cond_false (by first | rfl | exact congrArg Value.bool (decide_eq_false (by omega))) ?_
            skip
            repeat ((fail_if_success (with_reducible show wpList _ _ _ (List.cons _ _) _ _)); (fail_if_success (with_reducible show Code.wp _ (Code.region _ _ true) _ _ _)); go_step)
            (with_reducible refine' wl_valS ?_ ?_ ?_); rotate_left; exact rfl; exact (v_moveT (.inl rfl) rfl)
            simp only [Act.put, zA, zB, zC]
            (with_reducible refine' wl_valS ?_ ?_ ?_); rotate_left; exact rfl; exact (v_add (n := 1) rfl rfl rfl (w_i64 (by omega)))
            simp only [Act.put, zA, zB, zC]
            (with_reducible refine' wl_valS ?_ ?_ ?_); rotate_left; exact rfl; exact (v_moveT (.inr rfl) rfl)
            simp only [Act.put, zA, zB, zC]
            go_wp2
            go_roundw
            case rel => exact ⟨k + 1, by omega, rfl, by rw [Htt.out, Hu.out, hb]; rfl, hE2⟩
            case measure => simp [intOf]; omega
           ·
            repeat ((fail_if_success (with_reducible show wpList _ _ _ (List.cons _ _) _ _)); (fail_if_success (with_reducible show Code.wp _ (Code.region _ _ true) _ _ _)); (fail_if_success (with_reducible show Code.wp _ (Code.cond _ _ _) _ _ _)); go_step)
            refine wp_cond_true (by first | rfl | exact congrArg Value.bool (decide_eq_true (by omega))) ?_
            skip
            repeat ((fail_if_success (with_reducible show wpList _ _ _ (List.cons _ _) _ _)); (fail_if_success (with_reducible show Code.wp _ (Code.region _ _ true) _ _ _)); go_step)
            (with_reducible refine' wl_valS ?_ ?_ ?_); rotate_left; exact rfl; exact (v_moveT (.inl rfl) rfl)
            simp only [Act.put, zA, zB, zC]
            (with_reducible refine' wl_valS ?_ ?_ ?_); rotate_left; exact rfl; exact (v_add (n := 1) rfl rfl rfl (w_i64 (by omega)))
            simp only [Act.put, zA, zB, zC]
            (with_reducible refine' wl_valS ?_ ?_ ?_); rotate_left; exact rfl; exact (v_moveT (.inr rfl) rfl)
            simp only [Act.put, zA, zB, zC]
            repeat ((fail_if_success (with_reducible show wpList _ _ _ (List.cons _ _) _ _)); (fail_if_success (with_reducible show Code.wp _ (Code.region _ _ true) _ _ _)); go_step)
            (with_reducible refine' wl_valS ?_ ?_ ?_); rotate_left; exact rfl; exact (v_moveT (.inl rfl) rfl)
            simp only [Act.put, zA, zB, zC]
            (with_reducible refine' wl_valS ?_ ?_ ?_); rotate_left; exact rfl; exact (v_add (n := 1) rfl rfl rfl (w_i64 (by omega)))
            simp only [Act.put, zA, zB, zC]
            (with_reducible refine' wl_valS ?_ ?_ ?_); rotate_left; exact rfl; exact (v_moveT (.inr rfl) rfl)
            simp only [Act.put, zA, zB, zC]
            go_wp2
            go_roundw
            case rel => exact ⟨k + 1, by omega, rfl, by rw [Htt.out, Hu.out, hb]; rfl, hE2⟩
            case measure => simp [intOf]; omega
          ·
           have hk' : k = M2.length := by omega
           subst hk'
           have d3 := Lib.hid (decide_eq_false hkl)
           have hut : u = T2 := by
            rw [← hu, ← HT2.out, List.take_of_length_le (by omega)]
            exact times_keys HkX.out
           subst hut
           have d5 := Lib.hid (decide_eq_false (show ¬ 1 + q < M2.length by have := HF3.out.len; omega))
           clear hu
           repeat ((fail_if_success (with_reducible show wpList _ _ _ (List.cons _ _) _ _)); (fail_if_success (with_reducible show Code.wp _ (Code.region _ _ true) _ _ _)); go_step)
           (with_reducible refine' wl_valS ?_ ?_ ?_); rotate_left; exact rfl; exact (v_moveT (.inl rfl) rfl)
           simp only [Act.put, zA, zB, zC]
           (with_reducible refine' wl_valS ?_ ?_ ?_); rotate_left; exact rfl; exact (v_moveT (.inl rfl) rfl)
           simp only [Act.put, zA, zB, zC]
           (with_reducible refine' wl_valS ?_ ?_ ?_); rotate_left; exact rfl; exact (v_len rfl rfl Try.underlying33 hM63)
           simp only [Act.put, zA, zB, zC]
           (with_reducible refine' wl_valS ?_ ?_ ?_); rotate_left; exact rfl; exact (v_lss rfl rfl rfl)
           simp only [Act.put, zA, zB, zC]
           rw [d3.out]
           repeat ((fail_if_success (with_reducible show wpList _ _ _ (List.cons _ _) _ _)); (fail_if_success (with_reducible show Code.wp _ (Code.region _ _ true) _ _ _)); (fail_if_success (with_reducible show Code.wp _ (Code.cond _ _ _) _ _ _)); go_step)
           refine wp_cond_false (by first | rfl | exact congrArg Value.bool (decide_eq_false (by omega))) ?_
           skip
           repeat ((fail_if_success (with_reducible show wpList _ _ _ (List.cons _ _) _ _)); (fail_if_success (with_reducible show Code.wp _ (Code.region _ _ true) _ _ _)); go_step)
           (with_reducible refine' wl_valS ?_ ?_ ?_); rotate_left; exact rfl; exact (v_moveT (.inl rfl) rfl)
           simp only [Act.put, zA, zB, zC]
           (with_reducible refine' wl_valS ?_ ?_ ?_); rotate_left; exact rfl; exact (v_moveT (.inl rfl) rfl)
           simp only [Act.put, zA, zB, zC]
           (with_reducible refine' wl_valS ?_ ?_ ?_); rotate_left; exact rfl; exact (v_neqS rfl rfl rfl)
           simp only [Act.put, zA, zB, zC]
           (with_reducible refine' wl_valS ?_ ?_ ?_); rotate_left; exact rfl; exact (v_moveT (.inl rfl) rfl)
           simp only [Act.put, zA, zB, zC]
           (with_reducible refine' wl_valS ?_ ?_ ?_); rotate_left; exact rfl; exact (v_moveT (.inl rfl) rfl)
           simp only [Act.put, zA, zB, zC]
           (with_reducible refine' wl_valS ?_ ?_ ?_); rotate_left; exact rfl; exact (v_len rfl rfl Try.underlying33 hM63)
           simp only [Act.put, zA, zB, zC]
           (with_reducible refine' wl_valS ?_ ?_ ?_); rotate_left; exact rfl; exact (v_moveT (.inl rfl) rfl)
           simp only [Act.put, zA, zB, zC]
           (with_reducible refine' wl_valS ?_ ?_ ?_); rotate_left; exact rfl; exact (v_rem (n := 64) rfl rfl rfl (by omega))
           simp only [Act.put, zA, zB, zC]
           rw [HQ.out]
           (with_reducible refine' wl_valS ?_ ?_ ?_); rotate_left; exact rfl; exact (v_convInt rfl rfl Try.underlying5 Try.underlying3 (w_i64 (by omega)))
           simp only [Act.put, zA, zB, zC]
           (with_reducible refine' wl_valS ?_ ?_ ?_); rotate_left; exact rfl; exact (v_add (m := 1) rfl rfl rfl (w_i64 (by omega)))
           simp only [Act.put, zA, zB, zC]
           (with_reducible refine' wl_valS ?_ ?_ ?_); rotate_left; exact rfl; exact (v_gtr rfl rfl rfl)
           simp only [Act.put, zA, zB, zC]
           rw [d5.out]
           (with_reducible refine' wl_valS ?_ ?_ ?_); rotate_left; exact rfl; exact (v_orF rfl rfl rfl)
           simp only [Act.put, zA, zB, zC]
           repeat ((fail_if_success (with_reducible show wpList _ _ _ (List.cons _ _) _ _)); (fail_if_success (with_reducible show Code.wp _ (Code.region _ _ true) _ _ _)); (fail_if_success (with_reducible show Code.wp _ (Code.cond _ _ _) _ _ _)); go_step)
           refine wp_cond_false (by first | rfl | exact congrArg Value.bool (decide_eq_false (by omega))) ?_
           skip
           repeat ((fail_if_success (with_reducible show wpList _ _ _ (List.cons _ _) _ _)); (fail_if_success (with_reducible show Code.wp _ (Code.region _ _ true) _ _ _)); go_step)
           (with_reducible refine' wl_valS ?_ ?_ ?_); rotate_left; exact rfl; exact (v_moveT (.inl rfl) rfl)
           simp only [Act.put, zA, zB, zC]
           (with_reducible refine' wl_valS ?_ ?_ ?_); rotate_left; exact rfl; exact (v_add (n := 1) rfl rfl rfl (w_i64 (by omega)))
           simp only [Act.put, zA, zB, zC]
           (with_reducible refine' wl_valS ?_ ?_ ?_); rotate_left; exact rfl; exact (v_moveT (.inr rfl) rfl)
           simp only [Act.put, zA, zB, zC]
           go_wp2
           go_roundw
           case rel => exact ⟨j + 1, M2, v2, b2, RX, by omega, rfl, by rw [HT2.out], HF3.out, hE0⟩
           case measure => simp [intOf]; omega
       ·
        have d8 := Lib.hid (decide_eq_false hk2)
        obtain ⟨pL, cL, hsl, -⟩ := Hro.out.2.1.len
        have hL12 := Hok.out.1
        have hL63 : o.L.length < 9223372036854775808 := by omega
        repeat ((fail_if_success (with_reducible show wpList _ _ _ (List.cons _ _) _ _)); (fail_if_success (with_reducible show Code.wp _ (Code.region _ _ true) _ _ _)); go_step)
        (with_reducible refine' wl_valS ?_ ?_ ?_); rotate_left; exact rfl; exact (v_eql (n := 2) rfl rfl rfl)
        simp only [Act.put, zA, zB, zC]
        rw [d8.out]
        (with_reducible refine' wl_valS ?_ ?_ ?_); rotate_left; exact rfl; exact (v_moveT (.inr rfl) rfl)
        simp only [Act.put, zA, zB, zC]
        repeat ((fail_if_success (with_reducible show wpList _ _ _ (List.cons _ _) _ _)); (fail_if_success (with_reducible show Code.wp _ (Code.region _ _ true) _ _ _)); (fail_if_success (with_reducible show Code.wp _ (Code.cond _ _ _) _ _ _)); go_step)
        refine wp_cond_false (by first | rfl | exact congrArg Value.bool (decide_eq_false (by omega))) ?_
        skip
        repeat ((fail_if_success (with_reducible show wpList _ _ _ (List.cons _ _) _ _)); (fail_if_success (with_reducible show Code.wp _ (Code.region _ _ true) _ _ _)); go_step)
        (with_reducible refine' wl_valS ?_ ?_ ?_); rotate_left; exact rfl; exact (v_moveT (.inl rfl) rfl)
        simp only [Act.put, zA, zB, zC]
        (with_reducible refine' wl_valS ?_ ?_ ?_); rotate_left; exact rfl; exact (v_fieldB (s := 0) rfl rfl Try.underlying36 rfl (by kernel_rfl) rfl)
        simp only [Act.put, zA, zB, zC]
        (with_reducible refine' wl_valS ?_ ?_ ?_); rotate_left; exact rfl; exact (v_cellB (v := o.sl) (i := 0) (HO2.out _ _ _ _ hsR hE1) rfl rfl rfl Try.underlying33 rfl rfl)
        simp only [Act.put, zA, zB, zC]
        refine wl_step (st_calls rfl (run_call rfl Try.call13) (HF1'.out.send hE1 hN2 Hro.out.2.1 Hro.out.2.2.1 Hok.out.2 hL12) ?_)
        rintro _ w41 ⟨v2', b2', M2', RC, rS, rfl, hk2', hs2, hF2, hE41⟩
        skip
        refine ⟨_, rfl, ?_⟩
        clear hE1
        simp only [Act.put, zA, zB, zC]
        have HF2' := Lib.hid hF2
        have Hk2 := Lib.hid hk2'
        obtain ⟨A, hA⟩ : ∃ A, min (1 + q - M.length) o.L.length = A := ⟨_, rfl⟩
        have hlen2 : M2'.length = M.length + A := by
         rw [keys_len hk2', List.length_append, List.length_take, hA]
        have htkA : o.L.take (1 + q - M.length) = o.L.take A := by
         rw [← hA]
         rcases Nat.le_total (1 + q - M.length) o.L.length with h | h
         ·
          rw [Nat.min_eq_left h]
         ·
          rw [Nat.min_eq_right h, List.take_length, List.take_of_length_le h]
        have hAL : A ≤ o.L.length := by omega
        have hTn : times pk.key M2' = T + times pk.key (o.L.take A) := by rw [times_keys hk2', htkA, times_append, HT.out]
        obtain ⟨p2, c2, hv2, -⟩ := hF2.oz.len
        subst hv2
        have hst := hE41
        clear hE41 hF2 hk2'
        repeat ((fail_if_success (with_reducible show wpList _ _ _ (List.cons _ _) _ _)); (fail_if_success (with_reducible show Code.wp _ (Code.region _ _ true) _ _ _)); go_step)
        (with_reducible refine' wl_valS ?_ ?_ ?_); rotate_left; exact rfl; exact (v_moveC (.inr rfl))
        simp only [Act.put, zA, zB, zC]
        go_wp2
        go_loopw [9, 15] (fun t i wr => ∃ k : Nat, k ≤ A ∧ i = .int .i64 k ∧ t = .int .i64 ((T + times pk.key (o.L.take k) : Nat) : Int) ∧ KE w g1 g0 (1 + q) pk (.slice p2 M2'.length c2) b2' RC wr) (fun _ i _ => A - (intOf i).toNat)
        case atStart => exact ⟨0, Nat.zero_le _, rfl, by rw [List.take_zero]; rfl, hst⟩
        case round =>
         clear hst
         obtain ⟨k, hk, rfl, rfl, hE0⟩ := hrel
         obtain ⟨u, hu⟩ : ∃ u, times pk.key (o.L.take k) = u := ⟨_, rfl⟩
         have hu12 : u ≤ 12 := by
          have := times_le pk.key (o.L.take k)
          rw [hu, List.length_take] at this
          omega
         rw [hu]
         have Hu := Lib.hid hu
         have hM263 : M2'.length < 9223372036854775808 := by have := HF2'.out.len; omega
         have hMm : M.length < 9223372036854775808 := by omega
         by_cases hkA : k < A
         ·
          have d9 := Lib.hid (decide_eq_true (show k < o.L.length by omega))
          have d10 := Lib.hid (decide_eq_true hkA)
          have hkl : k < o.L.length := by omega
          have hgm : o.L[k]? = some o.L[k] := List.getElem?_eq_getElem hkl
          obtain ⟨m3, hm3⟩ : ∃ m, o.L[k] = m := ⟨_, rfl⟩
          rw [hm3] at hgm
          have hmm3 : m3 ∈ o.L := List.mem_of_getElem? hgm
          have hrL := Hro.out.2.1
          rw [hsl] at hrL
          obtain ⟨bL, offL, hpL, -⟩ := hrL.elem hkl
          have hranL : ∀ w', Below w.heap.size w w' → ∀ w1, Below w'.heap.size w' w1 → w1.rangeAt bL (offL + k * 3) [.int .i64 m3.fr, .int .i64 m3.to, m3.sl] := fun w' hb w1 hb1 => by
           obtain ⟨b', off', he, hr⟩ := (hrL.below hb).elem hkl
           rw [hpL] at he
           injection he with he
           injection he with h1 h2 _
           subst h1 h2
           have := hr w1 hb1
           rwa [pcells_at hgm] at this
          have HranL := Lib.hid hranL
          subst hpL
          have HSame : Hid (∀ w', Below w.heap.size w w' → Gives 10 #[pkv m3, pkv pk] w' (.bool (m3.key == pk.key))) := Lib.hid (fun w' hb => by
           have hp3 := Hro.out.2.2.1 m3 hmm3
           have h1 := Same_any (f1 := m3.fr) (t1 := m3.to) (f2 := pk.fr) (t2 := pk.to) (hp3.1.below hb) (HP.out.1.below hb) hp3.2.1 HP.out.2.1
           rwa [same_key] at h1)
          have Htt := Lib.hid (times_take (k := pk.key) hgm)
          clear hranL hrL hm3 hgm hu
          repeat ((fail_if_success (with_reducible show wpList _ _ _ (List.cons _ _) _ _)); (fail_if_success (with_reducible show Code.wp _ (Code.region _ _ true) _ _ _)); go_step)
          (with_reducible refine' wl_valS ?_ ?_ ?_); rotate_left; exact rfl; exact (v_moveT (.inl rfl) rfl)
          simp only [Act.put, zA, zB, zC]
          (with_reducible refine' wl_valS ?_ ?_ ?_); rotate_left; exact rfl; exact (v_fieldB (s := 0) rfl rfl Try.underlying36 rfl (by kernel_rfl) rfl)
          simp only [Act.put, zA, zB, zC]
          (with_reducible refine' wl_valS ?_ ?_ ?_); rotate_left; exact rfl; exact (v_cellB (v := .slice (some ⟨bL, offL, none⟩) o.L.length cL) (i := 0) (HO2.out _ _ _ _ hs2 hE0) rfl rfl rfl Try.underlying33 rfl (congrArg some hsl))
          simp only [Act.put, zA, zB, zC]
          (with_reducible refine' wl_valS ?_ ?_ ?_); rotate_left; exact rfl; exact (v_len rfl rfl Try.underlying33 hL63)
          simp only [Act.put, zA, zB, zC]
          (with_reducible refine' wl_valS ?_ ?_ ?_); rotate_left; exact rfl; exact (v_lss rfl rfl rfl)
          simp only [Act.put, zA, zB, zC]
          rw [d9.out]
          (with_reducible refine' wl_valS ?_ ?_ ?_); rotate_left; exact rfl; exact (v_moveT (.inl rfl) rfl)
          simp only [Act.put, zA, zB, zC]
          (with_reducible refine' wl_valS ?_ ?_ ?_); rotate_left; exact rfl; exact (v_moveT (.inl rfl) rfl)
          simp only [Act.put, zA, zB, zC]
          (with_reducible refine' wl_valS ?_ ?_ ?_); rotate_left; exact rfl; exact (v_moveT (.inl rfl) rfl)
          simp only [Act.put, zA, zB, zC]
          refine wl_step (st_gives hE0 rfl (run_call rfl Try.call14) (Len_any (hE0.get (i := 0) rfl) hM263) ?_)
          intro w1 hb1 hE1
          clear hE0
          simp only [Act.put, zA, zB, zC]
          (with_reducible refine' wl_valS ?_ ?_ ?_); rotate_left; exact rfl; exact (v_moveT (.inl rfl) rfl)
          simp only [Act.put, zA, zB, zC]
          (with_reducible refine' wl_valS ?_ ?_ ?_); rotate_left; exact rfl; exact (v_len rfl rfl Try.underlying33 hMm)
          simp only [Act.put, zA, zB, zC]
          (with_reducible refine' wl_valS ?_ ?_ ?_); rotate_left; exact rfl; exact (v_sub (m := M2'.length) (n := M.length) (r := (A : Int)) rfl rfl rfl (by rw [IntKind.wrap_i64]; omega))
          simp only [Act.put, zA, zB, zC]
          (with_reducible refine' wl_valS ?_ ?_ ?_); rotate_left; exact rfl; exact (v_lss rfl rfl rfl)
          simp only [Act.put, zA, zB, zC]
          rw [d10.out]
          (with_reducible refine' wl_valS ?_ ?_ ?_); rotate_left; exact rfl; exact (v_andT rfl rfl rfl)
          simp only [Act.put, zA, zB, zC]
          repeat ((fail_if_success (with_reducible show wpList _ _ _ (List.cons _ _) _ _)); (fail_if_success (with_reducible show Code.wp _ (Code.region _ _ true) _ _ _)); (fail_if_success (with_reducible show Code.wp _ (Code.cond _ _ _) _ _ _)); go_step)
          refine wp_cond_true (by first | rfl | exact congrArg Value.bool (decide_eq_true (by omega))) ?_
          skip
          repeat ((fail_if_success (with_reducible show wpList _ _ _ (List.cons _ _) _ _)); (fail_if_success (with_reducible show Code.wp _ (Code.region _ _ true) _ _ _)); go_step)
          refine wp_region_B (n := 7) 7 (by kernel_rfl) rfl hE1 ?_
          intro w2 hb2 hE2
          clear hE1
          refine wpB_take (i := 0) (by kernel_rfl) rfl (by kernel_rfl) (fun _ _ _ h => h) rfl (v_fieldB (s := 0) rfl rfl Try.underlying36 rfl (by kernel_rfl) rfl) ?_
          simp only [Act.put, zA, zB, zC]
          refine wpB_take (i := 1) (by kernel_rfl) rfl (by kernel_rfl) (fun _ _ _ h => h) rfl (v_cellB (v := .slice (some ⟨bL, offL, none⟩) o.L.length cL) (i := 0) (HO2.out _ _ _ _ hs2 hE2) rfl rfl rfl Try.underlying33 rfl (congrArg some hsl)) ?_
          simp only [Act.put, zA, zB, zC]
          refine wpB_take (i := 2) (by kernel_rfl) rfl (by kernel_rfl) (fun _ _ _ h => h) rfl (v_moveT (.inl rfl) rfl) ?_
          simp only [Act.put, zA, zB, zC]
          refine wpB_take (i := 3) (by kernel_rfl) rfl (by kernel_rfl) (fun _ _ _ h => h) rfl (v_indexSs (s := 3) rfl rfl rfl Try.underlying33 (by kernel_rfl) hkl) ?_
          simp only [Act.put, zA, zB, zC]
          refine wpB_take (i := 4) (by kernel_rfl) rfl (by kernel_rfl) (fun _ _ _ h => h) rfl (v_loadMid (cs := #[.int .i64 m3.fr, .int .i64 m3.to, m3.sl]) rfl rfl (HranL.out _ hE2.below) Try.underlying25 rfl (by kernel_rfl)) ?_
          simp only [Act.put, zA, zB, zC]
          refine wpB_take (i := 5) (by kernel_rfl) rfl (by kernel_rfl) (fun _ _ _ h => h) rfl (v_load (i := 0) (hE2.perm (pk4 ..)) rfl rfl rfl Try.underlying25 rfl (sz_of (n := 3) (by kernel_rfl) rfl)) ?_
          simp only [Act.put, zA, zB, zC]
          refine wpB_step (i := 6) (by kernel_rfl) rfl (st_gives hE2 rfl (run_call rfl Try.call10) (HSame.out _ hE2.below) ?_)
          intro w3 hb3 hE3
          clear hE2
          refine ⟨fun _ => hb3, ?_⟩
          simp only [Act.put, zA, zB, zC]
          refine wpB_done (by kernel_rfl) ?_ _
          rcases hb : (m3.key == pk.key) with _ | _
          ·
           repeat ((fail_if_success (with_reducible show wpList _ _ _ (List.cons _ _) _ _)); (fail_if_success (with_reducible show Code.wp _ (Code.region _ _ true) _ _ _)); (fail_if_success (with_reducible show Code.wp _ (Code.cond _ _ _) _ _ _)); go_step)
           refine wp_cond_false (by first | rfl | exact congrArg Value.bool (decide_eq_false (by omega))) ?_
           skip
           repeat ((fail_if_success (with_reducible show wpList _ _ _ (List.cons _ _) _ _)); (fail_if_success (with_reducible show Code.wp _ (Code.region _ _ true) _ _ _)); go_step)
           (with_reducible refine' wl_valS ?_ ?_ ?_); rotate_left; exact rfl; exact (v_moveT (.inl rfl) rfl)
           simp only [Act.put, zA, zB, zC]
           (with_reducible refine' wl_valS ?_ ?_ ?_); rotate_left; exact rfl; exact (v_add (n := 1) rfl rfl rfl (w_i64 (by omega)))
           simp only [Act.put, zA, zB, zC]
           (with_reducible refine' wl_valS ?_ ?_ ?_); rotate_left; exact rfl; exact (v_moveT (.inr rfl) rfl)
           simp only [Act.put, zA, zB, zC]
           go_wp2
           go_roundw
           case rel => exact ⟨k + 1, by omega, rfl, by rw [Htt.out, Hu.out, hb]; rfl, hE3⟩
           case measure => simp [intOf]; omega
          ·
           repeat ((fail_if_success (with_reducible show wpList _ _ _ (List.cons _ _) _ _)); (fail_if_success (with_reducible show Code.wp _ (Code.region _ _ true) _ _ _)); (fail_if_success (with_reducible show Code.wp _ (Code.cond _ _ _) _ _ _)); go_step)
           refine wp_cond_true (by first | rfl | exact congrArg Value.bool (decide_eq_true (by omega))) ?_
           skip
           repeat ((fail_if_success (with_reducible show wpList _ _ _ (List.cons _ _) _ _)); (fail_if_success (with_reducible show Code.wp _ (Code.region _ _ true) _ _ _)); go_step)
           (with_reducible refine' wl_valS ?_ ?_ ?_); rotate_left; exact rfl; exact (v_moveT (.inl rfl) rfl)
           simp only [Act.put, zA, zB, zC]
           (with_reducible refine' wl_valS ?_ ?_ ?_); rotate_left; exact rfl; exact (v_add (n := 1) rfl rfl rfl (w_i64 (by omega)))
           simp only [Act.put, zA, zB, zC]
           (with_reducible refine' wl_valS ?_ ?_ ?_); rotate_left; exact rfl; exact (v_moveT (.inr rfl) rfl)
           simp only [Act.put, zA, zB, zC]
           repeat ((fail_if_success (with_reducible show wpList _ _ _ (List.cons _ _) _ _)); (fail_if_success (with_reducible show Code.wp _ (Code.region _ _ true) _ _ _)); go_step)
           (with_reducible refine' wl_valS ?_ ?_ ?_); rotate_left; exact rfl; exact (v_moveT (.inl rfl) rfl)
           simp only [Act.put, zA, zB, zC]
           (with_reducible refine' wl_valS ?_ ?_ ?_); rotate_left; exact rfl; exact (v_add (n := 1) rfl rfl rfl (w_i64 (by omega)))
           simp only [Act.put, zA, zB, zC]
           (with_reducible refine' wl_valS ?_ ?_ ?_); rotate_left; exact rfl; exact (v_moveT (.inr rfl) rfl)
           simp only [Act.put, zA, zB, zC]
           go_wp2
           go_roundw
           case rel => exact ⟨k + 1, by omega, rfl, by rw [Htt.out, Hu.out, hb]; rfl, hE3⟩
           case measure => simp [intOf]; omega
         ·
          have hkA' : k = A := by omega
          subst hkA'
          obtain ⟨T9, hT9⟩ : ∃ t, T + u = t := ⟨_, rfl⟩
          rw [hT9]
          have hTn9 : times pk.key M2' = T9 := by rw [hTn, hu]; exact hT9
          by_cases hkl : k < o.L.length
          ·
           have d9 := Lib.hid (decide_eq_true hkl)
           have d10 := Lib.hid (decide_eq_false (show ¬ k < k by omega))
           repeat ((fail_if_success (with_reducible show wpList _ _ _ (List.cons _ _) _ _)); (fail_if_success (with_reducible show Code.wp _ (Code.region _ _ true) _ _ _)); go_step)
           (with_reducible refine' wl_valS ?_ ?_ ?_); rotate_left; exact rfl; exact (v_moveT (.inl rfl) rfl)
           simp only [Act.put, zA, zB, zC]
           (with_reducible refine' wl_valS ?_ ?_ ?_); rotate_left; exact rfl; exact (v_fieldB (s := 0) rfl rfl Try.underlying36 rfl (by kernel_rfl) rfl)
           simp only [Act.put, zA, zB, zC]
           (with_reducible refine' wl_valS ?_ ?_ ?_); rotate_left; exact rfl; exact (v_cellB (v := .slice pL o.L.length cL) (i := 0) (HO2.out _ _ _ _ hs2 hE0) rfl rfl rfl Try.underlying33 rfl (congrArg some hsl))
           simp only [Act.put, zA, zB, zC]
           (with_reducible refine' wl_valS ?_ ?_ ?_); rotate_left; exact rfl; exact (v_len rfl rfl Try.underlying33 hL63)
           simp only [Act.put, zA, zB, zC]
           (with_reducible refine' wl_valS ?_ ?_ ?_); rotate_left; exact rfl; exact (v_lss rfl rfl rfl)
           simp only [Act.put, zA, zB, zC]
           rw [d9.out]
           (with_reducible refine' wl_valS ?_ ?_ ?_); rotate_left; exact rfl; exact (v_moveT (.inl rfl) rfl)
           simp only [Act.put, zA, zB, zC]
           (with_reducible refine' wl_valS ?_ ?_ ?_); rotate_left; exact rfl; exact (v_moveT (.inl rfl) rfl)
           simp only [Act.put, zA, zB, zC]
           (with_reducible refine' wl_valS ?_ ?_ ?_); rotate_left; exact rfl; exact (v_moveT (.inl rfl) rfl)
           simp only [Act.put, zA, zB, zC]
           refine wl_step (st_gives hE0 rfl (run_call rfl Try.call14) (Len_any (hE0.get (i := 0) rfl) hM263) ?_)
           intro w1 hb1 hE1
           clear hE0
           simp only [Act.put, zA, zB, zC]
           (with_reducible refine' wl_valS ?_ ?_ ?_); rotate_left; exact rfl; exact (v_moveT (.inl rfl) rfl)
           simp only [Act.put, zA, zB, zC]
           (with_reducible refine' wl_valS ?_ ?_ ?_); rotate_left; exact rfl; exact (v_len rfl rfl Try.underlying33 hMm)
           simp only [Act.put, zA, zB, zC]
           (with_reducible refine' wl_valS ?_ ?_ ?_); rotate_left; exact rfl; exact (v_sub (m := M2'.length) (n := M.length) (r := (k : Int)) rfl rfl rfl (by rw [IntKind.wrap_i64]; omega))
           simp only [Act.put, zA, zB, zC]
           (with_reducible refine' wl_valS ?_ ?_ ?_); rotate_left; exact rfl; exact (v_lssS rfl rfl rfl)
           simp only [Act.put, zA, zB, zC]
           (with_reducible refine' wl_valS ?_ ?_ ?_); rotate_left; exact rfl; exact (v_andT rfl rfl rfl)
           simp only [Act.put, zA, zB, zC]
           repeat ((fail_if_success (with_reducible show wpList _ _ _ (List.cons _ _) _ _)); (fail_if_success (with_reducible show Code.wp _ (Code.region _ _ true) _ _ _)); (fail_if_success (with_reducible show Code.wp _ (Code.cond _ _ _) _ _ _)); go_step)
           refine wp_cond_false (by first | rfl | exact congrArg Value.bool (decide_eq_false (by omega))) ?_
           skip
           obtain ⟨M2, v2, b2, R2, T2, hEE, hFF, hTT, hTe⟩ : ∃ M2 v2 b2 R2 T2, KE w g1 g0 (1 + q) pk v2 b2 R2 w1 ∧ KF w g0 (1 + q) pk M2 v2 b2 R2 ∧ times pk.key M2 = T2 ∧ T2 = T9 := ⟨_, _, _, _, _, hE1, HF2'.out, hTn9, rfl⟩
           subst hTe
           have HF2 := Lib.hid hFF
           have HT2 := Lib.hid hTT
           clear hE1 hFF hTT
           repeat ((fail_if_success (with_reducible show wpList _ _ _ (List.cons _ _) _ _)); (fail_if_success (with_reducible show Code.wp _ (Code.region _ _ true) _ _ _)); go_step)
           (with_reducible refine' wl_valS ?_ ?_ ?_); rotate_left; exact rfl; exact (v_moveC (.inr rfl))
           simp only [Act.put, zA, zB, zC]
           repeat ((fail_if_success (with_reducible show wpList _ _ _ (List.cons _ _) _ _)); (fail_if_success (with_reducible show Code.wp _ (Code.region _ _ true) _ _ _)); go_step)
           (with_reducible refine' wl_valS ?_ ?_ ?_); rotate_left; exact rfl; exact (v_moveT (.inl rfl) rfl)
           simp only [Act.put, zA, zB, zC]
           refine wl_step (st_calls rfl (run_call rfl Try.call8) (HF2.out.list hEE hN2) ?_)
           rintro _ w61 ⟨pX, cX, NX, RX, rfl, hkX, hsX, hE61, hrX, hseX⟩
           skip
           refine ⟨_, rfl, ?_⟩
           clear hEE
           simp only [Act.put, zA, zB, zC]
           (with_reducible refine' wl_valS ?_ ?_ ?_); rotate_left; exact rfl; exact (v_moveT (.inr rfl) rfl)
           simp only [Act.put, zA, zB, zC]
           have HF3 := Lib.hid (HF2.out.more hsX)
           have HkX := Lib.hid hkX
           have HrX := Lib.hid hrX
           have HseX := Lib.hid hseX
           have hlX : NX.length = M2.length := keys_len hkX
           have hM64 : M2.length ≤ 64 := by have := HF3.out.len; omega
           have hM63 : M2.length < 9223372036854775808 := by omega
           have HdX := Lib.hid (keys_digs hkX HF3.out.digs)
           have hst := hE61
           clear hE61 hkX hsX hrX hseX
           repeat ((fail_if_success (with_reducible show wpList _ _ _ (List.cons _ _) _ _)); (fail_if_success (with_reducible show Code.wp _ (Code.region _ _ true) _ _ _)); go_step)
           (with_reducible refine' wl_valS ?_ ?_ ?_); rotate_left; exact rfl; exact (v_moveC (.inr rfl))
           simp only [Act.put, zA, zB, zC]
           go_wp2
           go_loopw [16, 18] (fun t i wr => ∃ k : Nat, k ≤ M2.length ∧ i = .int .i64 k ∧ t = .int .i64 ((times pk.key (NX.take k) : Nat) : Int) ∧ KE w g1 g0 (1 + q) pk v2 b2 RX wr) (fun _ i _ => M2.length - (intOf i).toNat)
           case atStart => exact ⟨0, Nat.zero_le _, rfl, by rw [List.take_zero]; rfl, hst⟩
           case round =>
            clear hst
            obtain ⟨k, hk, rfl, rfl, hE0⟩ := hrel
            obtain ⟨u, hu⟩ : ∃ u, times pk.key (NX.take k) = u := ⟨_, rfl⟩
            have hu64 : u ≤ 64 := by
             have := times_le pk.key (NX.take k)
             rw [hu, List.length_take] at this
             omega
            rw [hu]
            by_cases hkl : k < M2.length
            ·
             have d3 := Lib.hid (decide_eq_true hkl)
             have hgx : NX[k]? = some NX[k] := List.getElem?_eq_getElem (by omega)
             obtain ⟨m5, hme⟩ : ∃ m, NX[k] = m := ⟨_, rfl⟩
             rw [hme] at hgx
             have hm5 : m5 ∈ NX := List.mem_of_getElem? hgx
             obtain ⟨b5, off5, rfl, -⟩ := (HrX.out _ (KE.rest hE0)).elem hkl
             have hran5 : ∀ w', KE w g1 g0 (1 + q) pk v2 b2 RX w' → ∀ w1, Below w'.heap.size w' w1 → w1.rangeAt b5 (off5 + k * 3) [.int .i64 m5.fr, .int .i64 m5.to, m5.sl] := fun w' hE' w1 hb1 => by
              obtain ⟨b', off', he, hr⟩ := (HrX.out _ (KE.rest hE')).elem hkl
              injection he with he
              injection he with h1 h2 _
              subst h1 h2
              have := hr w1 hb1
              rwa [pcells_at hgx] at this
             have Hran5 := Lib.hid hran5
             have HSame5 : Hid (∀ w', KE w g1 g0 (1 + q) pk v2 b2 RX w' → Gives 10 #[pkv m5, pkv pk] w' (.bool (m5.key == pk.key))) := Lib.hid (fun w' hE' => by
              have h := Same_any (f1 := m5.fr) (t1 := m5.to) (f2 := pk.fr) (t2 := pk.to) (HseX.out m5 hm5 _ (KE.rest hE')) (HP.out.1.below hE'.below) (HdX.out m5 hm5).1 HP.out.2.1
              rwa [same_key] at h)
             have Htt := Lib.hid (times_take (k := pk.key) hgx)
             have Hu := Lib.hid hu
             clear hran5 hme hgx hu
             repeat ((fail_if_success (with_reducible show wpList _ _ _ (List.cons _ _) _ _)); (fail_if_success (with_reducible show Code.wp _ (Code.region _ _ true) _ _ _)); go_step)
             (with_reducible refine' wl_valS ?_ ?_ ?_); rotate_left; exact rfl; exact (v_moveT (.inl rfl) rfl)
             simp only [Act.put, zA, zB, zC]
             (with_reducible refine' wl_valS ?_ ?_ ?_); rotate_left; exact rfl; exact (v_moveT (.inl rfl) rfl)
             simp only [Act.put, zA, zB, zC]
             (with_reducible refine' wl_valS ?_ ?_ ?_); rotate_left; exact rfl; exact (v_len rfl rfl Try.underlying33 hM63)
             simp only [Act.put, zA, zB, zC]
             (with_reducible refine' wl_valS ?_ ?_ ?_); rotate_left; exact rfl; exact (v_lss rfl rfl rfl)
             simp only [Act.put, zA, zB, zC]
             rw [d3.out]
             repeat ((fail_if_success (with_reducible show wpList _ _ _ (List.cons _ _) _ _)); (fail_if_success (with_reducible show Code.wp _ (Code.region _ _ true) _ _ _)); (fail_if_success (with_reducible show Code.wp _ (Code.cond _ _ _) _ _ _)); go_step)
             refine wp_cond_true (by first | rfl | exact congrArg Value.bool (decide_eq_true (by omega))) ?_
             skip
             repeat ((fail_if_success (with_reducible show wpList _ _ _ (List.cons _ _) _ _)); (fail_if_success (with_reducible show Code.wp _ (Code.region _ _ true) _ _ _)); go_step)
             refine wp_region_B (n := 6) 6 (by kernel_rfl) rfl hE0 ?_
             intro w1 hb1 hE1
             clear hE0
             refine wpB_take (i := 0) (by kernel_rfl) rfl (by kernel_rfl) (fun _ _ _ h => h) rfl (v_moveT (.inl rfl) rfl) ?_
             simp only [Act.put, zA, zB, zC]
             refine wpB_take (i := 1) (by kernel_rfl) rfl (by kernel_rfl) (fun _ _ _ h => h) rfl (v_moveT (.inl rfl) rfl) ?_
             simp only [Act.put, zA, zB, zC]
             refine wpB_take (i := 2) (by kernel_rfl) rfl (by kernel_rfl) (fun _ _ _ h => h) rfl (v_indexSs (s := 3) rfl rfl rfl Try.underlying33 (by kernel_rfl) hkl) ?_
             simp only [Act.put, zA, zB, zC]
             refine wpB_take (i := 3) (by kernel_rfl) rfl (by kernel_rfl) (fun _ _ _ h => h) rfl (v_loadMid (cs := #[.int .i64 m5.fr, .int .i64 m5.to, m5.sl]) rfl rfl (Hran5.out _ hE1) Try.underlying25 rfl (by kernel_rfl)) ?_
             simp only [Act.put, zA, zB, zC]
             refine wpB_take (i := 4) (by kernel_rfl) rfl (by kernel_rfl) (fun _ _ _ h => h) rfl (v_load (i := 0) (hE1.perm (pk4 ..)) rfl rfl rfl Try.underlying25 rfl (sz_of (n := 3) (by kernel_rfl) rfl)) ?_
             simp only [Act.put, zA, zB, zC]
             refine wpB_step (i := 5) (by kernel_rfl) rfl (st_gives hE1 rfl (run_call rfl Try.call10) (HSame5.out _ hE1) ?_)
             intro w2 hb2 hE2
             clear hE1
             refine ⟨fun _ => hb2, ?_⟩
             simp only [Act.put, zA, zB, zC]
             refine wpB_done (by kernel_rfl) ?_ _
             rcases hb : (m5.key == pk.key) with _ | _
             ·
              repeat ((fail_if_success (with_reducible show wpList _ _ _ (List.cons _ _) _ _)); (fail_if_success (with_reducible show Code.wp _ (Code.region _ _ true) _ _ _)); (fail_if_success (with_reducible show Code.wp _ (Code.cond _ _ _) _ _ _)); go_step)
              refine wp_cond_false (by first | rfl | exact congrArg Value.bool (decide_eq_false (by omega))) ?_
              skip
              repeat ((fail_if_success (with_reducible show wpList _ _ _ (List.cons _ _) _ _)); (fail_if_success (with_reducible show Code.wp _ (Code.region _ _ true) _ _ _)); go_step)
              (with_reducible refine' wl_valS ?_ ?_ ?_); rotate_left; exact rfl; exact (v_moveT (.inl rfl) rfl)
              simp only [Act.put, zA, zB, zC]
              (with_reducible refine' wl_valS ?_ ?_ ?_); rotate_left; exact rfl; exact (v_add (n := 1) rfl rfl rfl (w_i64 (by omega)))
              simp only [Act.put, zA, zB, zC]
              (with_reducible refine' wl_valS ?_ ?_ ?_); rotate_left; exact rfl; exact (v_moveT (.inr rfl) rfl)
              simp only [Act.put, zA, zB, zC]
              go_wp2
              go_roundw
              case rel => exact ⟨k + 1, by omega, rfl, by rw [Htt.out, Hu.out, hb]; rfl, hE2⟩
              case measure => simp [intOf]; omega
             ·
              repeat ((fail_if_success (with_reducible show wpList _ _ _ (List.cons _ _) _ _)); (fail_if_success (with_reducible show Code.wp _ (Code.region _ _ true) _ _ _)); (fail_if_success (with_reducible show Code.wp _ (Code.cond _ _ _) _ _ _)); go_step)
              refine wp_cond_true (by first | rfl | exact congrArg Value.bool (decide_eq_true (by omega))) ?_
              skip
              repeat ((fail_if_success (with_reducible show wpList _ _ _ (List.cons _ _) _ _)); (fail_if_success (with_reducible show Code.wp _ (Code.region _ _ true) _ _ _)); go_step)
              (with_reducible refine' wl_valS ?_ ?_ ?_); rotate_left; exact rfl; exact (v_moveT (.inl rfl) rfl)
              simp only [Act.put, zA, zB, zC]
              (with_reducible refine' wl_valS ?_ ?_ ?_); rotate_left; exact rfl; exact (v_add (n := 1) rfl rfl rfl (w_i64 (by omega)))
              simp only [Act.put, zA, zB, zC]
              (with_reducible refine' wl_valS ?_ ?_ ?_); rotate_left; exact rfl; exact (v_moveT (.inr rfl) rfl)
              simp only [Act.put, zA, zB, zC]
              repeat ((fail_if_success (with_reducible show wpList _ _ _ (List.cons _ _) _ _)); (fail_if_success (with_reducible show Code.wp _ (Code.region _ _ true) _ _ _)); go_step)
              (with_reducible refine' wl_valS ?_ ?_ ?_); rotate_left; exact rfl; exact (v_moveT (.inl rfl) rfl)
              simp only [Act.put, zA, zB, zC]
              (with_reducible refine' wl_valS ?_ ?_ ?_); rotate_left; exact rfl; exact (v_add (n := 1) rfl rfl rfl (w_i64 (by omega)))
              simp only [Act.put, zA, zB, zC]
              (with_reducible refine' wl_valS ?_ ?_ ?_); rotate_left; exact rfl; exact (v_moveT (.inr rfl) rfl)
              simp only [Act.put, zA, zB, zC]
              go_wp2
              go_roundw
              case rel => exact ⟨k + 1, by omega, rfl, by rw [Htt.out, Hu.out, hb]; rfl, hE2⟩
              case measure => simp [intOf]; omega
            ·
             have hk' : k = M2.length := by omega
             subst hk'
             have d3 := Lib.hid (decide_eq_false hkl)
             have hut : u = T2 := by
              rw [← hu, ← HT2.out, List.take_of_length_le (by omega)]
              exact times_keys HkX.out
             subst hut
             have d5 := Lib.hid (decide_eq_false (show ¬ 1 + q < M2.length by have := HF3.out.len; omega))
             clear hu
             repeat ((fail_if_success (with_reducible show wpList _ _ _ (List.cons _ _) _ _)); (fail_if_success (with_reducible show Code.wp _ (Code.region _ _ true) _ _ _)); go_step)
             (with_reducible refine' wl_valS ?_ ?_ ?_); rotate_left; exact rfl; exact (v_moveT (.inl rfl) rfl)
             simp only [Act.put, zA, zB, zC]
             (with_reducible refine' wl_valS ?_ ?_ ?_); rotate_left; exact rfl; exact (v_moveT (.inl rfl) rfl)
             simp only [Act.put, zA, zB, zC]
             (with_reducible refine' wl_valS ?_ ?_ ?_); rotate_left; exact rfl; exact (v_len rfl rfl Try.underlying33 hM63)
             simp only [Act.put, zA, zB, zC]
             (with_reducible refine' wl_valS ?_ ?_ ?_); rotate_left; exact rfl; exact (v_lss rfl rfl rfl)
             simp only [Act.put, zA, zB, zC]
             rw [d3.out]
             repeat ((fail_if_success (with_reducible show wpList _ _ _ (List.cons _ _) _ _)); (fail_if_success (with_reducible show Code.wp _ (Code.region _ _ true) _ _ _)); (fail_if_success (with_reducible show Code.wp _ (Code.cond _ _ _) _ _ _)); go_step)
             refine wp_cond_false (by first | rfl | exact congrArg Value.bool (decide_eq_false (by omega))) ?_
             skip
             repeat ((fail_if_success (with_reducible show wpList _ _ _ (List.cons _ _) _ _)); (fail_if_success (with_reducible show Code.wp _ (Code.region _ _ true) _ _ _)); go_step)
             (with_reducible refine' wl_valS ?_ ?_ ?_); rotate_left; exact rfl; exact (v_moveT (.inl rfl) rfl)
             simp only [Act.put, zA, zB, zC]
             (with_reducible refine' wl_valS ?_ ?_ ?_); rotate_left; exact rfl; exact (v_moveT (.inl rfl) rfl)
             simp only [Act.put, zA, zB, zC]
             (with_reducible refine' wl_valS ?_ ?_ ?_); rotate_left; exact rfl; exact (v_neqS rfl rfl rfl)
             simp only [Act.put, zA, zB, zC]
             (with_reducible refine' wl_valS ?_ ?_ ?_); rotate_left; exact rfl; exact (v_moveT (.inl rfl) rfl)
             simp only [Act.put, zA, zB, zC]
             (with_reducible refine' wl_valS ?_ ?_ ?_); rotate_left; exact rfl; exact (v_moveT (.inl rfl) rfl)
             simp only [Act.put, zA, zB, zC]
             (with_reducible refine' wl_valS ?_ ?_ ?_); rotate_left; exact rfl; exact (v_len rfl rfl Try.underlying33 hM63)
             simp only [Act.put, zA, zB, zC]
             (with_reducible refine' wl_valS ?_ ?_ ?_); rotate_left; exact rfl; exact (v_moveT (.inl rfl) rfl)
             simp only [Act.put, zA, zB, zC]
             (with_reducible refine' wl_valS ?_ ?_ ?_); rotate_left; exact rfl; exact (v_rem (n := 64) rfl rfl rfl (by omega))
             simp only [Act.put, zA, zB, zC]
             rw [HQ.out]
             (with_reducible refine' wl_valS ?_ ?_ ?_); rotate_left; exact rfl; exact (v_convInt rfl rfl Try.underlying5 Try.underlying3 (w_i64 (by omega)))
             simp only [Act.put, zA, zB, zC]
             (with_reducible refine' wl_valS ?_ ?_ ?_); rotate_left; exact rfl; exact (v_add (m := 1) rfl rfl rfl (w_i64 (by omega)))
             simp only [Act.put, zA, zB, zC]
             (with_reducible refine' wl_valS ?_ ?_ ?_); rotate_left; exact rfl; exact (v_gtr rfl rfl rfl)
             simp only [Act.put, zA, zB, zC]
             rw [d5.out]
             (with_reducible refine' wl_valS ?_ ?_ ?_); rotate_left; exact rfl; exact (v_orF rfl rfl rfl)
             simp only [Act.put, zA, zB, zC]
             repeat ((fail_if_success (with_reducible show wpList _ _ _ (List.cons _ _) _ _)); (fail_if_success (with_reducible show Code.wp _ (Code.region _ _ true) _ _ _)); (fail_if_success (with_reducible show Code.wp _ (Code.cond _ _ _) _ _ _)); go_step)
             refine wp_cond_false (by first | rfl | exact congrArg Value.bool (decide_eq_false (by omega))) ?_
             skip
             repeat ((fail_if_success (with_reducible show wpList _ _ _ (List.cons _ _) _ _)); (fail_if_success (with_reducible show Code.wp _ (Code.region _ _ true) _ _ _)); go_step)
             (with_reducible refine' wl_valS ?_ ?_ ?_); rotate_left; exact rfl; exact (v_moveT (.inl rfl) rfl)
             simp only [Act.put, zA, zB, zC]
             (with_reducible refine' wl_valS ?_ ?_ ?_); rotate_left; exact rfl; exact (v_add (n := 1) rfl rfl rfl (w_i64 (by omega)))
             simp only [Act.put, zA, zB, zC]
             (with_reducible refine' wl_valS ?_ ?_ ?_); rotate_left; exact rfl; exact (v_moveT (.inr rfl) rfl)
             simp only [Act.put, zA, zB, zC]
             go_wp2
             go_roundw
             case rel => exact ⟨j + 1, M2, v2, b2, RX, by omega, rfl, by rw [HT2.out], HF3.out, hE0⟩
             case measure => simp [intOf]; omega
          ·
           have d9 := Lib.hid (decide_eq_false hkl)
           repeat ((fail_if_success (with_reducible show wpList _ _ _ (List.cons _ _) _ _)); (fail_if_success (with_reducible show Code.wp _ (Code.region _ _ true) _ _ _)); go_step)
           (with_reducible refine' wl_valS ?_ ?_ ?_); rotate_left; exact rfl; exact (v_moveT (.inl rfl) rfl)
           simp only [Act.put, zA, zB, zC]
           (with_reducible refine' wl_valS ?_ ?_ ?_); rotate_left; exact rfl; exact (v_fieldB (s := 0) rfl rfl Try.underlying36 rfl (by kernel_rfl) rfl)
           simp only [Act.put, zA, zB, zC]
           (with_reducible refine' wl_valS ?_ ?_ ?_); rotate_left; exact rfl; exact (v_cellB (v := .slice pL o.L.length cL) (i := 0) (HO2.out _ _ _ _ hs2 hE0) rfl rfl rfl Try.underlying33 rfl (congrArg some hsl))
           simp only [Act.put, zA, zB, zC]
           (with_reducible refine' wl_valS ?_ ?_ ?_); rotate_left; exact rfl; exact (v_len rfl rfl Try.underlying33 hL63)
           simp only [Act.put, zA, zB, zC]
           (with_reducible refine' wl_valS ?_ ?_ ?_); rotate_left; exact rfl; exact (v_lss rfl rfl rfl)
           simp only [Act.put, zA, zB, zC]
           (with_reducible refine' wl_valS ?_ ?_ ?_); rotate_left; exact rfl; exact (v_moveT (.inl rfl) rfl)
           simp only [Act.put, zA, zB, zC]
           rw [d9.out]
           (with_reducible refine wl_skipS ?_ ?_); exact rfl
           simp only [Act.put, zA, zB, zC]
           (with_reducible refine wl_skipS ?_ ?_); exact rfl
           simp only [Act.put, zA, zB, zC]
           (with_reducible refine wl_skipS ?_ ?_); exact rfl
           simp only [Act.put, zA, zB, zC]
           (with_reducible refine wl_skipS ?_ ?_); exact rfl
           simp only [Act.put, zA, zB, zC]
           (with_reducible refine wl_skipS ?_ ?_); exact rfl
           simp only [Act.put, zA, zB, zC]
           (with_reducible refine wl_skipS ?_ ?_); exact rfl
           simp only [Act.put, zA, zB, zC]
           (with_reducible refine wl_skipS ?_ ?_); exact rfl
           simp only [Act.put, zA, zB, zC]
           (with_reducible refine' wl_valS ?_ ?_ ?_); rotate_left; exact rfl; exact (v_andF rfl rfl)
           simp only [Act.put, zA, zB, zC]
           repeat ((fail_if_success (with_reducible show wpList _ _ _ (List.cons _ _) _ _)); (fail_if_success (with_reducible show Code.wp _ (Code.region _ _ true) _ _ _)); (fail_if_success (with_reducible show Code.wp _ (Code.cond _ _ _) _ _ _)); go_step)
           refine wp_cond_false (by first | rfl | exact congrArg Value.bool (decide_eq_false (by omega))) ?_
           skip
           obtain ⟨M2, v2, b2, R2, T2, hEE, hFF, hTT, hTe⟩ : ∃ M2 v2 b2 R2 T2, KE w g1 g0 (1 + q) pk v2 b2 R2 wr ∧ KF w g0 (1 + q) pk M2 v2 b2 R2 ∧ times pk.key M2 = T2 ∧ T2 = T9 := ⟨_, _, _, _, _, hE0, HF2'.out, hTn9, rfl⟩
           subst hTe
           have HF2 := Lib.hid hFF
           have HT2 := Lib.hid hTT
           clear hE0 hFF hTT
           repeat ((fail_if_success (with_reducible show wpList _ _ _ (List.cons _ _) _ _)); (fail_if_success (with_reducible show Code.wp _ (Code.region _ _ true) _ _ _)); go_step)
           (with_reducible refine' wl_valS ?_ ?_ ?_); rotate_left; exact rfl; exact (v_moveC (.inr rfl))
           simp only [Act.put, zA, zB, zC]
           repeat ((fail_if_success (with_reducible show wpList _ _ _ (List.cons _ _) _ _)); (fail_if_success (with_reducible show Code.wp _ (Code.region _ _ true) _ _ _)); go_step)
           (with_reducible refine' wl_valS ?_ ?_ ?_); rotate_left; exact rfl; exact (v_moveT (.inl rfl) rfl)
           simp only [Act.put, zA, zB, zC]
           refine wl_step (st_calls rfl (run_call rfl Try.call8) (HF2.out.list hEE hN2) ?_)
           rintro _ w61 ⟨pX, cX, NX, RX, rfl, hkX, hsX, hE61, hrX, hseX⟩
           skip
           refine ⟨_, rfl, ?_⟩
           clear hEE
           simp only [Act.put, zA, zB, zC]
           (with_reducible refine' wl_valS ?_ ?_ ?_); rotate_left; exact rfl; exact (v_moveT (.inr rfl) rfl)
           simp only [Act.put, zA, zB, zC]
           have HF3 := Lib.hid (HF2.out.more hsX)
           have HkX := Lib.hid hkX
           have HrX := Lib.hid hrX
           have HseX := Lib.hid hseX
           have hlX : NX.length = M2.length := keys_len hkX
           have hM64 : M2.length ≤ 64 := by have := HF3.out.len; omega
           have hM63 : M2.length < 9223372036854775808 := by omega
           have HdX := Lib.hid (keys_digs hkX HF3.out.digs)
           have hst := hE61
           clear hE61 hkX hsX hrX hseX
           repeat ((fail_if_success (with_reducible show wpList _ _ _ (List.cons _ _) _ _)); (fail_if_success (with_reducible show Code.wp _ (Code.region _ _ true) _ _ _)); go_step)
           (with_reducible refine' wl_valS ?_ ?_ ?_); rotate_left; exact rfl; exact (v_moveC (.inr rfl))
           simp only [Act.put, zA, zB, zC]
           go_wp2
           go_loopw [16, 18] (fun t i wr => ∃ k : Nat, k ≤ M2.length ∧ i = .int .i64 k ∧ t = .int .i64 ((times pk.key (NX.take k) : Nat) : Int) ∧ KE w g1 g0 (1 + q) pk v2 b2 RX wr) (fun _ i _ => M2.length - (intOf i).toNat)
           case atStart => exact ⟨0, Nat.zero_le _, rfl, by rw [List.take_zero]; rfl, hst⟩
           case round =>
            clear hst
            obtain ⟨k, hk, rfl, rfl, hE0⟩ := hrel
            obtain ⟨u, hu⟩ : ∃ u, times pk.key (NX.take k) = u := ⟨_, rfl⟩
            have hu64 : u ≤ 64 := by
             have := times_le pk.key (NX.take k)
             rw [hu, List.length_take] at this
             omega
            rw [hu]
            by_cases hkl : k < M2.length
            ·
             have d3 := Lib.hid (decide_eq_true hkl)
             have hgx : NX[k]? = some NX[k] := List.getElem?_eq_getElem (by omega)
             obtain ⟨m5, hme⟩ : ∃ m, NX[k] = m := ⟨_, rfl⟩
             rw [hme] at hgx
             have hm5 : m5 ∈ NX := List.mem_of_getElem? hgx
             obtain ⟨b5, off5, rfl, -⟩ := (HrX.out _ (KE.rest hE0)).elem hkl
             have hran5 : ∀ w', KE w g1 g0 (1 + q) pk v2 b2 RX w' → ∀ w1, Below w'.heap.size w' w1 → w1.rangeAt b5 (off5 + k * 3) [.int .i64 m5.fr, .int .i64 m5.to, m5.sl] := fun w' hE' w1 hb1 => by
              obtain ⟨b', off', he, hr⟩ := (HrX.out _ (KE.rest hE')).elem hkl
              injection he with he
              injection he with h1 h2 _
              subst h1 h2
              have := hr w1 hb1
              rwa [pcells_at hgx] at this
             have Hran5 := Lib.hid hran5
             have HSame5 : Hid (∀ w', KE w g1 g0 (1 + q) pk v2 b2 RX w' → Gives 10 #[pkv m5, pkv pk] w' (.bool (m5.key == pk.key))) := Lib.hid (fun w' hE' => by
              have h := Same_any (f1 := m5.fr) (t1 := m5.to) (f2 := pk.fr) (t2 := pk.to) (HseX.out m5 hm5 _ (KE.rest hE')) (HP.out.1.below hE'.below) (HdX.out m5 hm5).1 HP.out.2.1
              rwa [same_key] at h)
             have Htt := Lib.hid (times_take (k := pk.key) hgx)
             have Hu := Lib.hid hu
             clear hran5 hme hgx hu
             repeat ((fail_if_success (with_reducible show wpList _ _ _ (List.cons _ _) _ _)); (fail_if_success (with_reducible show Code.wp _ (Code.region _ _ true) _ _ _)); go_step)
             (with_reducible refine' wl_valS ?_ ?_ ?_); rotate_left; exact rfl; exact (v_moveT (.inl rfl) rfl)
             simp only [Act.put, zA, zB, zC]
             (with_reducible refine' wl_valS ?_ ?_ ?_); rotate_left; exact rfl; exact (v_moveT (.inl rfl) rfl)
             simp only [Act.put, zA, zB, zC]
             (with_reducible refine' wl_valS ?_ ?_ ?_); rotate_left; exact rfl; exact (v_len rfl rfl Try.underlying33 hM63)
             simp only [Act.put, zA, zB, zC]
             (with_reducible refine' wl_valS ?_ ?_ ?_); rotate_left; exact rfl; exact (v_lss rfl rfl rfl)
             simp only [Act.put, zA, zB, zC]
             rw [d3.out]
             repeat ((fail_if_success (with_reducible show wpList _ _ _ (List.cons _ _) _ _)); (fail_if_success (with_reducible show Code.wp _ (Code.region _ _ true) _ _ _)); (fail_if_success (with_reducible show Code.wp _ (Code.cond _ _ _) _ _ _)); go_step)
             refine wp_cond_true (by first | rfl | exact congrArg Value.bool (decide_eq_true (by omega))) ?_
             skip
             repeat ((fail_if_success (with_reducible show wpList _ _ _ (List.cons _ _) _ _)); (fail_if_success (with_reducible show Code.wp _ (Code.region _ _ true) _ _ _)); go_step)
             refine wp_region_B (n := 6) 6 (by kernel_rfl) rfl hE0 ?_
             intro w1 hb1 hE1
             clear hE0
             refine wpB_take (i := 0) (by kernel_rfl) rfl (by kernel_rfl) (fun _ _ _ h => h) rfl (v_moveT (.inl rfl) rfl) ?_
             simp only [Act.put, zA, zB, zC]
             refine wpB_take (i := 1) (by kernel_rfl) rfl (by kernel_rfl) (fun _ _ _ h => h) rfl (v_moveT (.inl rfl) rfl) ?_
             simp only [Act.put, zA, zB, zC]
             refine wpB_take (i := 2) (by kernel_rfl) rfl (by kernel_rfl) (fun _ _ _ h => h) rfl (v_indexSs (s := 3) rfl rfl rfl Try.underlying33 (by kernel_rfl) hkl) ?_
             simp only [Act.put, zA, zB, zC]
             refine wpB_take (i := 3) (by kernel_rfl) rfl (by kernel_rfl) (fun _ _ _ h => h) rfl (v_loadMid (cs := #[.int .i64 m5.fr, .int .i64 m5.to, m5.sl]) rfl rfl (Hran5.out _ hE1) Try.underlying25 rfl (by kernel_rfl)) ?_
             simp only [Act.put, zA, zB, zC]
             refine wpB_take (i := 4) (by kernel_rfl) rfl (by kernel_rfl) (fun _ _ _ h => h) rfl (v_load (i := 0) (hE1.perm (pk4 ..)) rfl rfl rfl Try.underlying25 rfl (sz_of (n := 3) (by kernel_rfl) rfl)) ?_
             simp only [Act.put, zA, zB, zC]
             refine wpB_step (i := 5) (by kernel_rfl) rfl (st_gives hE1 rfl (run_call rfl Try.call10) (HSame5.out _ hE1) ?_)
             intro w2 hb2 hE2
             clear hE1
             refine ⟨fun _ => hb2, ?_⟩
             simp only [Act.put, zA, zB, zC]
             refine wpB_done (by kernel_rfl) ?_ _
             rcases hb : (m5.key == pk.key) with _ | _
             ·
              repeat ((fail_if_success (with_reducible show wpList _ _ _ (List.cons _ _) _ _)); (fail_if_success (with_reducible show Code.wp _ (Code.region _ _ true) _ _ _)); (fail_if_success (with_reducible show Code.wp _ (Code.cond _ _ _) _ _ _)); go_step)
              refine wp_cond_false (by first | rfl | exact congrArg Value.bool (decide_eq_false (by omega))) ?_
              skip
              repeat ((fail_if_success (with_reducible show wpList _ _ _ (List.cons _ _) _ _)); (fail_if_success (with_reducible show Code.wp _ (Code.region _ _ true) _ _ _)); go_step)
              (with_reducible refine' wl_valS ?_ ?_ ?_); rotate_left; exact rfl; exact (v_moveT (.inl rfl) rfl)
              simp only [Act.put, zA, zB, zC]
              (with_reducible refine' wl_valS ?_ ?_ ?_); rotate_left; exact rfl; exact (v_add (n := 1) rfl rfl rfl (w_i64 (by omega)))
              simp only [Act.put, zA, zB, zC]
              (with_reducible refine' wl_valS ?_ ?_ ?_); rotate_left; exact rfl; exact (v_moveT (.inr rfl) rfl)
              simp only [Act.put, zA, zB, zC]
              go_wp2
              go_roundw
              case rel => exact ⟨k + 1, by omega, rfl, by rw [Htt.out, Hu.out, hb]; rfl, hE2⟩
              case measure => simp [intOf]; omega
             ·
              repeat ((fail_if_success (with_reducible show wpList _ _ _ (List.cons _ _) _ _)); (fail_if_success (with_reducible show Code.wp _ (Code.region _ _ true) _ _ _)); (fail_if_success (with_reducible show Code.wp _ (Code.cond _ _ _) _ _ _)); go_step)
              refine wp_cond_true (by first | rfl | exact congrArg Value.bool (decide_eq_true (by omega))) ?_
              skip
              repeat ((fail_if_success (with_reducible show wpList _ _ _ (List.cons _ _) _ _)); (fail_if_success (with_reducible show Code.wp _ (Code.region _ _ true) _ _ _)); go_step)
              (with_reducible refine' wl_valS ?_ ?_ ?_); rotate_left; exact rfl; exact (v_moveT (.inl rfl) rfl)
              simp only [Act.put, zA, zB, zC]
              (with_reducible refine' wl_valS ?_ ?_ ?_); rotate_left; exact rfl; exact (v_add (n := 1) rfl rfl rfl (w_i64 (by omega)))
              simp only [Act.put, zA, zB, zC]
              (with_reducible refine' wl_valS ?_ ?_ ?_); rotate_left; exact rfl; exact (v_moveT (.inr rfl) rfl)
              simp only [Act.put, zA, zB, zC]
              repeat ((fail_if_success (with_reducible show wpList _ _ _ (List.cons _ _) _ _)); (fail_if_success (with_reducible show Code.wp _ (Code.region _ _ true) _ _ _)); go_step)
              (with_reducible refine' wl_valS ?_ ?_ ?_); rotate_left; exact rfl; exact (v_moveT (.inl rfl) rfl)
              simp only [Act.put, zA, zB, zC]
              (with_reducible refine' wl_valS ?_ ?_ ?_); rotate_left; exact rfl; exact (v_add (n := 1) rfl rfl rfl (w_i64 (by omega)))
              simp only [Act.put, zA, zB, zC]
              (with_reducible refine' wl_valS ?_ ?_ ?_); rotate_left; exact rfl; exact (v_moveT (.inr rfl) rfl)
              simp only [Act.put, zA, zB, zC]
              go_wp2
              go_roundw
              case rel => exact ⟨k + 1, by omega, rfl, by rw [Htt.out, Hu.out, hb]; rfl, hE2⟩
              case measure => simp [intOf]; omega
            ·
             have hk' : k = M2.length := by omega
             subst hk'
             have d3 := Lib.hid (decide_eq_false hkl)
             have hut : u = T2 := by
              rw [← hu, ← HT2.out, List.take_of_length_le (by omega)]
              exact times_keys HkX.out
             subst hut
             have d5 := Lib.hid (decide_eq_false (show ¬ 1 + q < M2.length by have := HF3.out.len; omega))
             clear hu
             repeat ((fail_if_success (with_reducible show wpList _ _ _ (List.cons _ _) _ _)); (fail_if_success (with_reducible show Code.wp _ (Code.region _ _ true) _ _ _)); go_step)
             (with_reducible refine' wl_valS ?_ ?_ ?_); rotate_left; exact rfl; exact (v_moveT (.inl rfl) rfl)
             simp only [Act.put, zA, zB, zC]
             (with_reducible refine' wl_valS ?_ ?_ ?_); rotate_left; exact rfl; exact (v_moveT (.inl rfl) rfl)
             simp only [Act.put, zA, zB, zC]
             (with_reducible refine' wl_valS ?_ ?_ ?_); rotate_left; exact rfl; exact (v_len rfl rfl Try.underlying33 hM63)
             simp only [Act.put, zA, zB, zC]
             (with_reducible refine' wl_valS ?_ ?_ ?_); rotate_left; exact rfl; exact (v_lss rfl rfl rfl)
             simp only [Act.put, zA, zB, zC]
             rw [d3.out]
             repeat ((fail_if_success (with_reducible show wpList _ _ _ (List.cons _ _) _ _)); (fail_if_success (with_reducible show Code.wp _ (Code.region _ _ true) _ _ _)); (fail_if_success (with_reducible show Code.wp _ (Code.cond _ _ _) _ _ _)); go_step)
             refine wp_cond_false (by first | rfl | exact congrArg Value.bool (decide_eq_false (by omega))) ?_
             skip
             repeat ((fail_if_success (with_reducible show wpList _ _ _ (List.cons _ _) _ _)); (fail_if_success (with_reducible show Code.wp _ (Code.region _ _ true) _ _ _)); go_step)
             (with_reducible refine' wl_valS ?_ ?_ ?_); rotate_left; exact rfl; exact (v_moveT (.inl rfl) rfl)
             simp only [Act.put, zA, zB, zC]
             (with_reducible refine' wl_valS ?_ ?_ ?_); rotate_left; exact rfl; exact (v_moveT (.inl rfl) rfl)
             simp only [Act.put, zA, zB, zC]
             (with_reducible refine' wl_valS ?_ ?_ ?_); rotate_left; exact rfl; exact (v_neqS rfl rfl rfl)
             simp only [Act.put, zA, zB, zC]
             (with_reducible refine' wl_valS ?_ ?_ ?_); rotate_left; exact rfl; exact (v_moveT (.inl rfl) rfl)
             simp only [Act.put, zA, zB, zC]
             (with_reducible refine' wl_valS ?_ ?_ ?_); rotate_left; exact rfl; exact (v_moveT (.inl rfl) rfl)
             simp only [Act.put, zA, zB, zC]
             (with_reducible refine' wl_valS ?_ ?_ ?_); rotate_left; exact rfl; exact (v_len rfl rfl Try.underlying33 hM63)
             simp only [Act.put, zA, zB, zC]
             (with_reducible refine' wl_valS ?_ ?_ ?_); rotate_left; exact rfl; exact (v_moveT (.inl rfl) rfl)
             simp only [Act.put, zA, zB, zC]
             (with_reducible refine' wl_valS ?_ ?_ ?_); rotate_left; exact rfl; exact (v_rem (n := 64) rfl rfl rfl (by omega))
             simp only [Act.put, zA, zB, zC]
             rw [HQ.out]
             (with_reducible refine' wl_valS ?_ ?_ ?_); rotate_left; exact rfl; exact (v_convInt rfl rfl Try.underlying5 Try.underlying3 (w_i64 (by omega)))
             simp only [Act.put, zA, zB, zC]
             (with_reducible refine' wl_valS ?_ ?_ ?_); rotate_left; exact rfl; exact (v_add (m := 1) rfl rfl rfl (w_i64 (by omega)))
             simp only [Act.put, zA, zB, zC]
             (with_reducible refine' wl_valS ?_ ?_ ?_); rotate_left; exact rfl; exact (v_gtr rfl rfl rfl)
             simp only [Act.put, zA, zB, zC]
             rw [d5.out]
             (with_reducible refine' wl_valS ?_ ?_ ?_); rotate_left; exact rfl; exact (v_orF rfl rfl rfl)
             simp only [Act.put, zA, zB, zC]
             repeat ((fail_if_success (with_reducible show wpList _ _ _ (List.cons _ _) _ _)); (fail_if_success (with_reducible show Code.wp _ (Code.region _ _ true) _ _ _)); (fail_if_success (with_reducible show Code.wp _ (Code.cond _ _ _) _ _ _)); go_step)
             refine wp_cond_false (by first | rfl | exact congrArg Value.bool (decide_eq_false (by omega))) ?_
             skip
             repeat ((fail_if_success (with_reducible show wpList _ _ _ (List.cons _ _) _ _)); (fail_if_success (with_reducible show Code.wp _ (Code.region _ _ true) _ _ _)); go_step)
             (with_reducible refine' wl_valS ?_ ?_ ?_); rotate_left; exact rfl; exact (v_moveT (.inl rfl) rfl)
             simp only [Act.put, zA, zB, zC]
             (with_reducible refine' wl_valS ?_ ?_ ?_); rotate_left; exact rfl; exact (v_add (n := 1) rfl rfl rfl (w_i64 (by omega)))
             simp only [Act.put, zA, zB, zC]
             (with_reducible refine' wl_valS ?_ ?_ ?_); rotate_left; exact rfl; exact (v_moveT (.inr rfl) rfl)
             simp only [Act.put, zA, zB, zC]
             go_wp2
             go_roundw
             case rel => exact ⟨j + 1, M2, v2, b2, RX, by omega, rfl, by rw [HT2.out], HF3.out, hE0⟩
             case measure => simp [intOf]; omega
    ·
     have hj' : j = O.length := by omega
     subst hj'
     have d2 := Lib.hid (decide_eq_false hjl)
     repeat ((fail_if_success (with_reducible show wpList _ _ _ (List.cons _ _) _ _)); (fail_if_success (with_reducible show Code.wp _ (Code.region _ _ true) _ _ _)); go_step)
     (with_reducible refine' wl_valS ?_ ?_ ?_); rotate_left; exact rfl; exact (v_moveT (.inl rfl) rfl)
     simp only [Act.put, zA, zB, zC]
     (with_reducible refine' wl_valS ?_ ?_ ?_); rotate_left; exact rfl; exact (v_moveT (.inl rfl) rfl)
     simp only [Act.put, zA, zB, zC]
     (with_reducible refine' wl_valS ?_ ?_ ?_); rotate_left; exact rfl; exact (v_len rfl rfl Try.underlying22 hm63)
     simp only [Act.put, zA, zB, zC]
     (with_reducible refine' wl_valS ?_ ?_ ?_); rotate_left; exact rfl; exact (v_lss rfl rfl rfl)
     simp only [Act.put, zA, zB, zC]
     rw [d2.out]
     repeat ((fail_if_success (with_reducible show wpList _ _ _ (List.cons _ _) _ _)); (fail_if_success (with_reducible show Code.wp _ (Code.region _ _ true) _ _ _)); (fail_if_success (with_reducible show Code.wp _ (Code.cond _ _ _) _ _ _)); go_step)
     refine wp_cond_false (by first | rfl | exact congrArg Value.bool (decide_eq_false (by omega))) ?_
     skip
     repeat ((fail_if_success (with_reducible show wpList _ _ _ (List.cons _ _) _ _)); (fail_if_success (with_reducible show Code.wp _ (Code.region _ _ true) _ _ _)); go_step)
     refine wl_step (st_gives hE0 rfl (run_call rfl Try.call6) (HW.out _) ?_)
     intro w1 hb1 hE1
     clear hE0
     simp only [Act.put, zA, zB, zC]
     (with_reducible refine' wl_valS ?_ ?_ ?_); rotate_left; exact rfl; exact (v_moveT (.inr rfl) rfl)
     simp only [Act.put, zA, zB, zC]
     repeat ((fail_if_success (with_reducible show wpList _ _ _ (List.cons _ _) _ _)); (fail_if_success (with_reducible show Code.wp _ (Code.region _ _ true) _ _ _)); go_step)
     go_returns
     exact ⟨rfl, hE1.below⟩
 ·
  have HGr : Hid (∀ w1, Below w.heap.size w w1 → Gives 5 #[.slice p O.length c] w1 (.bool true)) := Lib.hid (fun w1 hb => great_any (hv.below hb) (fun o ho => (hO o ho).below hb) hm (by simp [hall]))
  clear hv hO hall
  have hE0 := Env.nil w
  go_enter Try.func3, Try.ntmps3
  repeat ((fail_if_success (with_reducible show wpList _ _ _ (List.cons _ _) _ _)); (fail_if_success (with_reducible show Code.wp _ (Code.region _ _ true) _ _ _)); go_step)
  refine wl_step (st_boxA hE0 rfl rfl rfl ?_)
  intro g0 w1 hb1 hE1
  clear hE0
  simp only [Act.put, zA, zB, zC]
  (with_reducible refine' wl_valS ?_ ?_ ?_); rotate_left; exact rfl; exact (v_moveC (.inr rfl))
  simp only [Act.put, zA, zB, zC]
  repeat ((fail_if_success (with_reducible show wpList _ _ _ (List.cons _ _) _ _)); (fail_if_success (with_reducible show Code.wp _ (Code.region _ _ true) _ _ _)); go_step)
  (with_reducible refine' wl_valS ?_ ?_ ?_); rotate_left; exact rfl; exact (v_moveT (.inl rfl) rfl)
  simp only [Act.put, zA, zB, zC]
  refine wl_step (st_gives hE1 rfl (run_call rfl Try.call5) (HGr.out _ hE1.below) ?_)
  intro w2 hb2 hE2
  clear hE1
  simp only [Act.put, zA, zB, zC]
  (with_reducible refine' wl_valS ?_ ?_ ?_); rotate_left; exact rfl; exact (v_moveT (.inl rfl) rfl)
  simp only [Act.put, zA, zB, zC]
  (with_reducible refine wl_skipS ?_ ?_); exact rfl
  simp only [Act.put, zA, zB, zC]
  (with_reducible refine wl_skipS ?_ ?_); exact rfl
  simp only [Act.put, zA, zB, zC]
  (with_reducible refine wl_skipS ?_ ?_); exact rfl
  simp only [Act.put, zA, zB, zC]
  (with_reducible refine wl_skipS ?_ ?_); exact rfl
  simp only [Act.put, zA, zB, zC]
  (with_reducible refine' wl_valS ?_ ?_ ?_); rotate_left; exact rfl; exact (v_orT rfl rfl)
  simp only [Act.put, zA, zB, zC]
  repeat ((fail_if_success (with_reducible show wpList _ _ _ (List.cons _ _) _ _)); (fail_if_success (with_reducible show Code.wp _ (Code.region _ _ true) _ _ _)); (fail_if_success (with_reducible show Code.wp _ (Code.cond _ _ _) _ _ _)); go_step)
  refine wp_cond_true (by first | rfl | exact congrArg Value.bool (decide_eq_true (by omega))) ?_
  skip
  repeat ((fail_if_success (with_reducible show wpList _ _ _ (List.cons _ _) _ _)); (fail_if_success (with_reducible show Code.wp _ (Code.region _ _ true) _ _ _)); go_step)
  refine wl_step (st_gives hE2 rfl (run_call rfl Try.call6) (HW.out _) ?_)
  intro w3 hb3 hE3
  clear hE2
  simp only [Act.put, zA, zB, zC]
  (with_reducible refine' wl_valS ?_ ?_ ?_); rotate_left; exact rfl; exact (v_moveT (.inr rfl) rfl)
  simp only [Act.put, zA, zB, zC]
  repeat ((fail_if_success (with_reducible show wpList _ _ _ (List.cons _ _) _ _)); (fail_if_success (with_reducible show Code.wp _ (Code.region _ _ true) _ _ _)); go_step)
  go_returns
  exact ⟨rfl, hE3.below⟩
theorem netKeeps_walk {a0 : Int} {O : List OV} {pk : PV} {v u : Value} {w : World} (wf : (Lit.int .u8 a0).wf = true) (hv : RdZ 4 O.length (ocells O) v w) (hO : ∀ o ∈ O, RdOv w o) (hm : O.length ≤ maxLen) (hu : u = .agg #[.int .i64 pk.fr, .int .i64 pk.to, pk.sl]) (hp : RdPk w pk) :
  Gives 3 #[.int .u8 a0, v, u] w (.bool true) := by
 have hb := bounds_u8 wf
 obtain ⟨mo, rfl⟩ : ∃ n : Nat, a0 = (n : Int) := ⟨a0.toNat, by omega⟩
 subst hu
 exact netKeeps_walk0 (by omega) hv hO hm hp
set_option maxRecDepth 100000 in
theorem netKeeps_lifted (os : Os) (started : os.Started) (H : Type) (enc : TypeId × Value → H) :
  ReturnsInHanded {} Try.checked os 3 .any (Rows.netKeepsSpec.pre6 enc Try.prog Try.f3 Rows.netKeepsRow.domain false) (Rows.netKeepsSpec.post enc Try.prog Try.f3 false true false false) := by
 refine returnsInHanded_of_change (C := Try.checked) own started (by kernel_rfl) Try.func3
  (ChangeSpec.witness6 (enc := enc) (C := Try.checked) false ⟨#[], #[.int .u8 0, .slice none 0 0, .agg #[.int .i64 0, .int .i64 0, .slice none 0 0]], []⟩ 8 (by kernel_rfl) (by kernel_rfl) (by kernel_rfl) (by kernel_rfl)) ?_
 intro W base args ds gs before hval0 hW hcnd _
 have hval : ∀ (j : Nat) t v, Try.f3.params[j]? = some t → args[j]? = some v → Value.okWide Try.prog W .any base t v := hval0
 have hW' := hW
 obtain ⟨p, q, hA0, hV, rfl, hfz, hnd⟩ := hW
 have hA : DataW.TrodAll enc Try.prog W 0 (fun _ => true) true Try.f3.params.toList args.toList ds p := hA0
 rw [Try.params3] at hA hval
 obtain ⟨v0, vs0, d0, ds0, p0, q0, hargs, rfl, rfl, h0, r0⟩ := trodAll_cons hA
 obtain ⟨v1, vs1, d1, ds1, p1, q1, rfl, rfl, rfl, h1, r1⟩ := trodAll_cons r0
 obtain ⟨v2, vs2, d2, ds2, p2, q2, rfl, rfl, rfl, h2, r2⟩ := trodAll_cons r1
 obtain ⟨rfl, rfl, rfl⟩ := trodAll_nil r2
 obtain rfl : args = #[v0, v1, v2] := by cases args; simp_all
 obtain ⟨rfl, rfl⟩ := trodVars_none hV
 have k0 := h0
 have lt0 : ∀ x ∈ p0, x.block < W.heap.size := by obtain ⟨m, hm⟩ := k0; exact DataW.trod_lt m _ _ _ hm
 have k1 := h1
 have lt1 : ∀ x ∈ p1, x.block < W.heap.size := by obtain ⟨m, hm⟩ := k1; exact DataW.trod_lt m _ _ _ hm
 have k2 := h2
 have lt2 : ∀ x ∈ p2, x.block < W.heap.size := by obtain ⟨m, hm⟩ := k2; exact DataW.trod_lt m _ _ _ hm
 obtain ⟨a0, rfl, rfl, rfl, wf0⟩ := open_int Try.underlying5 (hval 0 5 v0 rfl rfl) h0
 obtain ⟨O1, ho1, ho2, ho3⟩ := open_ops (hval 1 22 v1 rfl rfl) h1
 obtain ⟨pk2, hpv, hpr⟩ := open_packet (hval 2 25 v2 rfl rfl) h2
 clear hA0 hval0
 refine (netKeeps_walk wf0 ho1 ho2 ho3 hpv hpr).mono fun e W' ⟨he, bel⟩ => ?_
 subst he
 exact ⟨_, rfl, _, _, _, [], _, [], hW', trodAll_mk1 (shut_bool Try.underlying4 _), (trodAll_cons_mk (Below.trod laidOut (by kernel_rfl) (of_decide_eq_true (by kernel_rfl)) k0 bel lt0) (trodAll_cons_mk (Below.trod laidOut (by kernel_rfl) (of_decide_eq_true (by kernel_rfl)) k1 bel lt1) (trodAll_cons_mk (Below.trod laidOut (by kernel_rfl) (of_decide_eq_true (by kernel_rfl)) k2 bel lt2) trodAll_mk0))), rfl, bel.frame _, fun h => by cases h⟩

theorem netKeeps_over : Rows.netKeepsRow.holds Try.pinned (OpenSpec.ofChange Rows.netKeepsSpec) :=
 OpenClaim.holds_of_wide 3 Try.f3 rfl rfl rfl rfl rfl rfl rfl ⟨rfl, rfl, rfl, rfl, rfl⟩ rfl rfl rfl rfl rfl (by kernel_rfl) Try.func3 (by kernel_rfl)
  (of_decide_eq_true (by kernel_rfl)) (by unfold Func.isWrapper; first | (rw [if_pos (by decide +kernel)]; kernel_rfl) | (rw [if_neg (by decide +kernel)]; exact ⟨rfl, rfl⟩))
  (fun os started H enc _ => netKeeps_lifted os started H enc)

theorem netKeeps_holds : Rows.NetKeepsSaid := netKeeps_over

#print axioms netKeeps_holds
end Go.Proofs.Ytnbbehgcnodfbaa
