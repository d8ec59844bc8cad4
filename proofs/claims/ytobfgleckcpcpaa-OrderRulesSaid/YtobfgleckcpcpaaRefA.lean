/-
  Layer 5, the document's answer: digits of bytes; a digit, 0 beyond the last one.
-/
import Derived.Test.YtobfgleckcpcpaaOrdG
import Derived.Test.YtobfgleckcpcpaaOwn
namespace Go.Proofs.Ytobfgleckcpcpaa
open Go.RowKit
set_option linter.unusedVariables false
set_option linter.unusedSimpArgs false

/-- Numbers as values. -/
def nums (l : List Nat) : List Value := l.map fun d : Nat => Value.int .i64 (d : Int)

theorem nums_length (l : List Nat) : (nums l).length = l.length := List.length_map ..
theorem nums_snoc {l : List Nat} {k : Nat} (h : k < l.length) : nums (l.take (k + 1)) = nums (l.take k) ++ [Value.int .i64 ((l[k] : Nat) : Int)] := by
  rw [List.take_succ_eq_append_getElem h, nums, List.map_append]
  rfl

theorem info_int : ∃ i, Try.prog.info? 3 = some i ∧ i.zero = some (.int .i64 0) ∧ i.size = 1 ∧ i.bytes = 8 := info_parts (P := Try.prog) (by kernel_rfl)

set_option maxHeartbeats 1000000 in
theorem Digits_any (g : Nat) (l : List Nat) (T : TypeId) (n : Nat) (hl : l.length = n) (hn : n ≤ 65536) (dl : Digs 256 l) (w : World) (hg : w.heap[g]? = some (.cells (ints .u8 l) T (0, 0))) :
    Calls Try.prog 26 #[.slice (some ⟨g, 0, none⟩) n n] w fun e w' => ∃ v, e = .returned v ∧ Sl w [] 3 (nums l) v w' := by
  have hlt : g < w.heap.size := (Array.getElem?_eq_some_iff.1 hg).1
  obtain ⟨i0, hi, hz, hs, hb⟩ := info_int
  have Hl := Lib.hid hl
  clear hl
  have Hg := Lib.hid hg
  clear hg
  go_enter Try.func26, Try.ntmps26
  go_wp2
  go_loopw [3, 4] (fun v i wr => ∃ k : Nat, k ≤ n ∧ i = .int .i64 k ∧ Sl w [] 3 (nums (l.take k)) v wr) (fun _ i _ => n - (intOf i).toNat)
  case atStart => exact ⟨0, Nat.zero_le _, rfl, Sl.nil (Env.nil w)⟩
  case round =>
    obtain ⟨k, hk, rfl, hS⟩ := hrel
    by_cases hkn : k < n
    · have hkl : k < l.length := by rw [Hl.out]; exact hkn
      have ca := cell_of_row wr g k _ _ _ ((hS.env.below.block g hlt).trans Hg.out)
      rw [ints_get? _ _ _ hkl] at ca
      have hw : IntKind.i64.wrap ((l[k] : Nat) : Int) = ((l[k] : Nat) : Int) := by have := dl.getElem hkl; rw [IntKind.wrap_i64]; omega
      go_wp2_with (first
        | (at_builtin; refine wl_append (hS.call ((Below.refl _ _).alloc (Nat.le_refl _) _)) rfl rfl Try.underlying45 hi hz hs rfl hb rfl (ad := ⟨wr.heap.size, 0, none⟩) (m := 1) (c := 1) (news := [.int .i64 ((l[k] : Nat) : Int)]) rfl rfl (by decide) ?c1 ?c2 ?c3 ?c4 ?_)
        | go_in)
      case c1 =>
        intro j u hj
        match j, hj with
        | 0, hj => simp at hj; subst hj; simp [Addr.add]
      case c2 => intro u hu; simp at hu; subst hu; rfl
      case c3 => rw [nums_length, List.length_take]; simp only [maxLen]; omega
      case c4 => rw [nums_length, List.length_take]; omega
      · intro v' w1 hS1
        go_wp2
        go_roundw
        case rel =>
          refine ⟨k + 1, by omega, by go_num, ?_⟩
          rw [nums_snoc hkl]
          exact hS1
        case measure => simp [intOf]; omega
    · have hke : k = n := by omega
      subst hke
      have hfin := Hl.out
      go_wp2
      rw [List.take_of_length_le (by omega)] at hS
      go_returns
      exact ⟨_, rfl, hS⟩
end Go.Proofs.Ytobfgleckcpcpaa
