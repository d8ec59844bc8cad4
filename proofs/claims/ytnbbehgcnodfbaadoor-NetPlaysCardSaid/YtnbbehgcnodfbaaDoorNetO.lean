/-
  Layer 28: both nets' memories side by side; what each call makes of them. No condition.
-/
import Derived.Test.YtnbbehgcnodfbaaDoorNetN
namespace Go.Proofs.YtnbbehgcnodfbaaDoor
open Go.RowKit
set_option maxRecDepth 100000
set_option linter.unusedVariables false
set_option linter.unusedSimpArgs false

abbrev ntv (g : Nat) (v : Value) (most : Nat) : Blk := ⟨g, 56, #[v, .int .i64 (most : Int)]⟩
abbrev pkw (m : PV) : Value := .agg #[.int .i64 m.fr, .int .i64 m.to, m.sl]
/-- The program's packets, whatever the world. -/
structure PS (w0 : World) (most : Nat) (M : List PV) (v : Value) (bs R : List Blk) : Prop where
  len : M.length ≤ most
  see : ∀ m ∈ M, Sees w0 R m
  digs : ∀ m ∈ M, Digs 256 m.by' ∧ m.by'.length ≤ 60
  oz : Oz 3 43 M.length (pcells M) v bs
/-- The document's packets. -/
structure RS (w0 : World) (M : List PV) (v : Value) (bs R : List Blk) : Prop where
  see : ∀ m ∈ M, Sees w0 R m
  oz : Oz 3 43 M.length (pcells M) v bs
/-- Both memories, behind some blocks. -/
abbrev CE (w0 : World) (X : List Blk) (gN gR most : Nat) (v : Value) (bs : List Blk) (vR : Value) (bR R : List Blk) (w : World) : Prop := Env w0 (X ++ (ntv gN v most :: (bs ++ (rnb gR vR most :: (bR ++ R))))) w
theorem cp1 (n r : Blk) (X y z R : List Blk) : (X ++ (n :: (y ++ (r :: (z ++ R))))).Perm (n :: (y ++ (X ++ (r :: (z ++ R))))) := by
  classical
  exact List.perm_iff_count.2 fun c => by simp only [List.count_append, List.count_cons]; omega
theorem cp2 (n r : Blk) (X y z R : List Blk) : (X ++ (n :: (y ++ (r :: (z ++ R))))).Perm (r :: (z ++ (X ++ (n :: (y ++ R))))) := by
  classical
  exact List.perm_iff_count.2 fun c => by simp only [List.count_append, List.count_cons]; omega
theorem cp3 (n r : Blk) (X y z B R : List Blk) : (n :: (y ++ (B ++ (X ++ (r :: (z ++ R)))))).Perm (X ++ (n :: (y ++ (r :: (z ++ (B ++ R)))))) := by
  classical
  exact List.perm_iff_count.2 fun c => by simp only [List.count_append, List.count_cons]; omega
theorem sb1 (r : Blk) (X z R : List Blk) : R.Sublist (X ++ (r :: (z ++ R))) := ((List.sublist_append_right z R).trans (List.sublist_cons_self _ _)).trans (List.sublist_append_right _ _)
section
variable {w0 w : World} {X R bs bR : List Blk} {gN gR most i k : Nat} {v vR : Value} {M MR : List PV} {m mi mk : PV}
theorem CE.net (h : CE w0 X gN gR most v bs vR bR R w) : w.heap[gN]? = some (.cells #[v, .int .i64 (most : Int)] 56 (0, 0)) := (h.perm (cp1 ..)).get (i := 0) rfl
theorem CE.ref (h : CE w0 X gN gR most v bs vR bR R w) : w.heap[gR]? = some (.cells #[vR, .int .i64 (most : Int)] 33 (0, 0)) := (h.perm (cp2 ..)).get (i := 0) rfl
theorem CE.rest (h : CE w0 X gN gR most v bs vR bR R w) : Env w0 R w := h.sub ((sb1 _ bs bR R).trans ((List.sublist_cons_self _ _).trans (List.sublist_append_right _ _)))
theorem PS.more {R' : List Blk} (h : PS w0 most M v bs R) (hs : R.Sublist R') : PS w0 most M v bs R' := ⟨h.len, fun m hm => (h.see m hm).mono hs, h.digs, h.oz⟩
theorem RS.more {R' : List Blk} (h : RS w0 MR vR bR R) (hs : R.Sublist R') : RS w0 MR vR bR R' := ⟨fun m hm => (h.see m hm).mono hs, h.oz⟩
theorem keys_digsN {N M : List PV} (h : N.map PV.key = M.map PV.key) (hd : ∀ m ∈ M, Digs 256 m.by' ∧ m.by'.length ≤ 60) : ∀ m ∈ N, Digs 256 m.by' ∧ m.by'.length ≤ 60 := fun m hm => by
  have h1 : m.key ∈ M.map PV.key := by rw [← h]; exact List.mem_map_of_mem hm
  obtain ⟨m', h2, h3⟩ := List.mem_map.1 h1
  have : m'.by' = m.by' := congrArg (fun z => z.2.2) h3
  rw [← this]
  exact hd m' h2
theorem PS.take (h : PS w0 most M v bs R) (hE : CE w0 X gN gR most v bs vR bR R w) (hmo : most ≤ 64) (hm : M[i]? = some m) : Calls Tryd.prog 16 #[.pointer (some ⟨gN, 0, none⟩), .int .i64 (i : Int)] w fun e w' => ∃ v' bs', e = .returned (.tuple #[pkw m, .nilIface]) ∧ PS w0 most (M.eraseIdx i) v' bs' R ∧ CE w0 X gN gR most v' bs' vR bR R w' := by
  have hl := h.len
  refine (Take_any h.oz (fun m hm => (h.see m hm).mono (sb1 (rnb gR vR most) X bR R)) (hE.perm (cp1 ..)) hm (by omega)).mono ?_
  rintro e w' ⟨v', bo, rfl, hO, hE'⟩
  refine ⟨v', bo, rfl, ⟨?_, fun m hm => h.see m (List.mem_of_mem_eraseIdx hm), fun m hm => h.digs m (List.mem_of_mem_eraseIdx hm), hO⟩, hE'.perm (cp1 ..).symm⟩
  have := List.length_eraseIdx_le M i
  omega
theorem PS.swap (h : PS w0 most M v bs R) (hE : CE w0 X gN gR most v bs vR bR R w) (hmo : most ≤ 64) (hi : M[i]? = some mi) (hk : M[k]? = some mk) : Calls Tryd.prog 19 #[.pointer (some ⟨gN, 0, none⟩), .int .i64 (i : Int), .int .i64 (k : Int)] w fun e w' => ∃ bs', e = .returned .nilIface ∧ PS w0 most ((M.set i mk).set k mi) v bs' R ∧ CE w0 X gN gR most v bs' vR bR R w' := by
  have hl := h.len
  refine (Swap_any h.oz (fun m hm => (h.see m hm).mono (sb1 (rnb gR vR most) X bR R)) hi hk (by omega) (hE.perm (cp1 ..))).mono ?_
  rintro e w' ⟨rfl, bo, hO, hE'⟩
  have hmem : ∀ m ∈ (M.set i mk).set k mi, m ∈ M := fun m hm => by
    rcases List.mem_or_eq_of_mem_set hm with hm | rfl
    · rcases List.mem_or_eq_of_mem_set hm with hm | rfl
      · exact hm
      · exact List.mem_of_getElem? hk
    · exact List.mem_of_getElem? hi
  exact ⟨bo, rfl, ⟨by rw [List.length_set, List.length_set]; exact h.len, fun m hm => h.see m (hmem m hm), fun m hm => h.digs m (hmem m hm), hO⟩, hE'.perm (cp1 ..).symm⟩
theorem PS.copy (h : PS w0 most M v bs R) (hE : CE w0 X gN gR most v bs vR bR R w) (hmo : most ≤ 64) (hi : M[i]? = some m) : Calls Tryd.prog 18 #[.pointer (some ⟨gN, 0, none⟩), .int .i64 (i : Int)] w fun e w' => ∃ (v' : Value) (bs' : List Blk) (M' : List PV) (R' : List Blk), e = .returned (if 1 ≤ most - M.length then .nilIface else errV 12) ∧ M'.map PV.key = (M ++ [m].take (most - M.length)).map PV.key ∧ R.Sublist R' ∧ PS w0 most M' v' bs' R' ∧ CE w0 X gN gR most v' bs' vR bR R' w' := by
  have hmd := h.digs m (List.mem_of_getElem? hi)
  have hl := h.len
  refine (Copy_any h.oz (fun m hm => (h.see m hm).mono (sb1 (rnb gR vR most) X bR R)) hi hl hmo (by omega) (hE.perm (cp1 ..))).mono ?_
  rintro e w' ⟨rfl, v', bo, N, hk, hown, hO, hE'⟩
  have hk' : (M ++ fsts N).map PV.key = (M ++ [m].take (most - M.length)).map PV.key := by rw [List.map_append, hk, ← List.map_append]
  have hlen := keys_lenN hk'
  refine ⟨v', bo, M ++ fsts N, blks N ++ R, rfl, hk', List.sublist_append_right _ _, ⟨?_, fun q hq => ?_, keys_digsN hk' (fun q hq => ?_), hO⟩, hE'.perm (cp3 ..)⟩
  · rw [hlen, List.length_append, List.length_take]; omega
  · rcases List.mem_append.1 hq with hq | hq
    · exact (h.see q hq).mono (List.sublist_append_right _ _)
    · exact (OwnP.sees hown q hq).mono (List.sublist_append_left _ _)
  · rcases List.mem_append.1 hq with hq | hq
    · exact h.digs q hq
    · rw [List.mem_singleton.1 (List.mem_of_mem_take hq)]; exact hmd
theorem PS.send {L : List PV} {x : Value} (h : PS w0 most M v bs R) (hE : CE w0 X gN gR most v bs vR bR R w) (hmo : most ≤ 64) (hx : RdZ 3 L.length (pcells L) x w0) (hL : ∀ m ∈ L, RdPk w0 m) (hb : ∀ m ∈ L, m.by'.length ≤ 60) (hl12 : L.length ≤ 12) : Calls Tryd.prog 17 #[.pointer (some ⟨gN, 0, none⟩), x] w fun e w' => ∃ (v' : Value) (bs' : List Blk) (M' : List PV) (R' : List Blk), e = .returned (if L.length ≤ most - M.length then .nilIface else errV 12) ∧ M'.map PV.key = (M ++ L.take (most - M.length)).map PV.key ∧ R.Sublist R' ∧ PS w0 most M' v' bs' R' ∧ CE w0 X gN gR most v' bs' vR bR R' w' := by
  have hl := h.len
  refine (Send_any h.oz (fun m hm => (h.see m hm).mono (sb1 (rnb gR vR most) X bR R)) (hE.perm (cp1 ..)) hl hmo (fun w' h' => hx.below h'.below) (fun m hm w' h' => (hL m hm).1.below h'.below) (fun m hm => by have := hb m hm; omega) (by omega)).mono ?_
  rintro e w' ⟨v', bo, N, rfl, hk, hown, hO, hE'⟩
  have hk' : (M ++ fsts N).map PV.key = (M ++ L.take (most - M.length)).map PV.key := by rw [List.map_append, hk, ← List.map_append]
  have hlen := keys_lenN hk'
  refine ⟨v', bo, M ++ fsts N, blks N ++ R, rfl, hk', List.sublist_append_right _ _, ⟨?_, fun q hq => ?_, keys_digsN hk' (fun q hq => ?_), hO⟩, hE'.perm (cp3 ..)⟩
  · rw [hlen, List.length_append, List.length_take]; omega
  · rcases List.mem_append.1 hq with hq | hq
    · exact (h.see q hq).mono (List.sublist_append_right _ _)
    · exact (OwnP.sees hown q hq).mono (List.sublist_append_left _ _)
  · rcases List.mem_append.1 hq with hq | hq
    · exact h.digs q hq
    · exact ⟨(hL q (List.mem_of_mem_take hq)).2.1, hb q (List.mem_of_mem_take hq)⟩
theorem RS.ones (h : RS w0 MR vR bR R) (hE : Env w0 R w) : ∀ u ∈ pcells MR, u.oneCell' = true := Sees.cells h.see hE
theorem RS.take (h : RS w0 MR vR bR R) (hE : CE w0 X gN gR most v bs vR bR R w) (hM : MR.length < 1000000) (hm : MR[i]? = some m) : Calls Tryd.prog 22 #[.pointer (some ⟨gR, 0, none⟩), .int .i64 (i : Int)] w fun e w' => ∃ v' b', e = .returned (pkw m) ∧ RS w0 (MR.eraseIdx i) v' b' R ∧ CE w0 X gN gR most v bs v' b' R w' := by
  refine (rTake_any h.oz (h.ones hE.rest) (hE.perm (cp2 ..)) hm hM).mono ?_
  rintro e w' ⟨rfl, v', bo, hO, hE'⟩
  exact ⟨v', bo, rfl, ⟨fun m hm => h.see m (List.mem_of_mem_eraseIdx hm), hO⟩, hE'.perm (cp2 ..).symm⟩
theorem RS.swap (h : RS w0 MR vR bR R) (hE : CE w0 X gN gR most v bs vR bR R w) (hM : MR.length < 1000000) (hi : MR[i]? = some mi) (hk : MR[k]? = some mk) : Calls Tryd.prog 24 #[.pointer (some ⟨gR, 0, none⟩), .int .i64 (i : Int), .int .i64 (k : Int)] w fun e w' => ∃ v' b', e = .returned (.tuple #[]) ∧ RS w0 ((MR.set i mk).set k mi) v' b' R ∧ CE w0 X gN gR most v bs v' b' R w' := by
  refine (rSwap_any h.oz (h.ones hE.rest) hi hk hM (hE.perm (cp2 ..))).mono ?_
  rintro e w' ⟨rfl, v', bo, hO, hE'⟩
  have hmem : ∀ m ∈ (MR.set i mk).set k mi, m ∈ MR := fun m hm => by
    rcases List.mem_or_eq_of_mem_set hm with hm | rfl
    · rcases List.mem_or_eq_of_mem_set hm with hm | rfl
      · exact hm
      · exact List.mem_of_getElem? hk
    · exact List.mem_of_getElem? hi
  exact ⟨v', bo, rfl, ⟨fun m hm => h.see m (hmem m hm), hO⟩, hE'.perm (cp2 ..).symm⟩
theorem RS.send (h : RS w0 MR vR bR R) (hE : CE w0 X gN gR most v bs vR bR R w) (hs : Sees w0 R m) (hM : MR.length < most) (hmo : most ≤ 64) : Calls Tryd.prog 23 #[.pointer (some ⟨gR, 0, none⟩), pkw m] w fun e w' => ∃ v' b', e = .returned (.bool true) ∧ RS w0 (MR ++ [m]) v' b' R ∧ CE w0 X gN gR most v bs v' b' R w' := by
  refine (rSend_yes h.oz (h.ones hE.rest) (hs.one hE.rest) (hE.perm (cp2 ..)) hM hmo).mono ?_
  rintro e w' ⟨rfl, v', bo, hO, hE'⟩
  refine ⟨v', bo, rfl, ⟨fun q hq => ?_, hO⟩, hE'.perm (cp2 ..).symm⟩
  rcases List.mem_append.1 hq with hq | hq
  · exact h.see q hq
  · rw [List.mem_singleton.1 hq]; exact hs
theorem RS.sendNo (h : RS w0 MR vR bR R) (hE : CE w0 X gN gR most v bs vR bR R w) (hs : Sees w0 R m) (hM : most ≤ MR.length) (hl : MR.length < 1000000) : Calls Tryd.prog 23 #[.pointer (some ⟨gR, 0, none⟩), pkw m] w fun e w' => e = .returned (.bool false) ∧ CE w0 X gN gR most v bs vR bR R w' := by
  refine (rSend_no h.oz (hs.one hE.rest) (hE.perm (cp2 ..)) hM hl).mono ?_
  rintro e w' ⟨rfl, hE'⟩
  exact ⟨rfl, hE'.perm (cp2 ..).symm⟩
end
end Go.Proofs.YtnbbehgcnodfbaaDoor
