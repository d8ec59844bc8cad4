/-
  How the arguments of a statement are read: arrays of bytes, and slices of such.
  No program in sight.
-/
import Derived.Test.YtnbbehgcnodfbaaDoorRows
import Derived.Test.YtnbbehgcnodfbaaDoorStep
import Derived.Test.YtnbbehgcnodfbaaDoorEnv
import Derived.Test.YtnbbehgcnodfbaaDoorNum
import Derived.WalkKit
import Derived.ProofKit
import Derived.OpenShut
import Derived.ShutString
import Derived.ChangeOld
import Derived.Below
namespace Go.Proofs.YtnbbehgcnodfbaaDoor
open Go.ChangeShapes Go.WideShapes Go.ChangeAt Go.RowKit
set_option maxRecDepth 100000
set_option linter.unusedVariables false

theorem own : ownKnob Tryd.prog.godebug = none := by kernel_rfl
theorem laidOut : laidOutB Tryd.prog = true := by kernel_rfl

section
variable {H : Type} {enc : TypeId × Value → H} {P : Program} {w : World} {base : Nat} {spare : Nat → Bool} {held : Bool}

theorem trod_u8s {t e n : Nat} {fuel : Nat} {cs : List Value} {x : DataW H × List MemPlace} (ht : P.underlying t = some (.array n e)) (he : P.underlying e = some (.int .u8)) (hce : P.cellsOf e = 1) (hct : P.cellsOf t = n)
    (h : DataW.trod enc P w base spare held fuel t cs = some x) : ∃ l : List Nat, cs = (ints .u8 l).toList ∧ l.length = n ∧ Digs 256 l := by
  obtain ⟨xs, m, -, -, hlen, hl, hel⟩ := DataW.trod_array ht h
  rw [hct] at hlen
  have key : ∀ i, i < n → ∃ d : Nat, d < 256 ∧ cs[i]? = some (.int .u8 (d : Int)) := fun i hi => by
    have h1 := hel i hi
    rw [hce, Nat.mul_one, List.getElem?_eq_getElem (by omega)] at h1
    obtain ⟨z, e1, -, hw⟩ := DataW.trod_int he h1
    simp [Lit.wf, IntKind.min, IntKind.max, IntKind.signed, IntKind.bits] at hw
    refine ⟨z.toNat, by omega, ?_⟩
    have h2 : ((cs.drop i).take 1)[0]? = some (.int .u8 z) := by rw [e1]; rfl
    have h3 : cs[i]? = some (.int .u8 z) := by simpa using h2
    rw [h3]
    congr 2
    omega
  have : ∀ (cs : List Value), (∀ i, i < cs.length → ∃ d : Nat, d < 256 ∧ cs[i]? = some (.int .u8 (d : Int))) → ∃ l : List Nat, cs = (ints .u8 l).toList ∧ l.length = cs.length ∧ Digs 256 l := by
    intro cs
    induction cs with
    | nil => intro _; exact ⟨[], rfl, rfl, Digs.nil⟩
    | cons c cs ih =>
      intro h
      obtain ⟨d, hd, hc⟩ := h 0 (by simp)
      obtain ⟨l, h1, h2, h3⟩ := ih (fun i hi => by have := h (i + 1) (by simp; omega); simpa using this)
      refine ⟨d :: l, ?_, by simp [h2], Digs.cons hd h3⟩
      simp at hc
      rw [hc, h1]
      simp [ints]
  obtain ⟨l, h1, h2, h3⟩ := this cs (fun i hi => key i (by omega))
  exact ⟨l, h1, by omega, h3⟩

theorem open_u8s {t e n : Nat} {v : Value} {d : DataW H} {p : List MemPlace} (ht : P.underlying t = some (.array n e)) (he : P.underlying e = some (.int .u8)) (hce : P.cellsOf e = 1) (hct : P.cellsOf t = n)
    {b0 : Nat} (hv : Value.okWide P w .any b0 t v) (h : DataW.Trod enc P w base spare held t v d p) : ∃ l : List Nat, v = .agg (ints .u8 l) ∧ l.length = n ∧ Digs 256 l := by
  obtain ⟨cs, rfl, -, -⟩ : ∃ cs, v = .agg cs ∧ cs.size = P.cellsOf t ∧ Row.okWide P w .any b0 t cs := by
    simpa [Value.okWide, ht] using hv
  obtain ⟨fuel, hf⟩ := h
  obtain ⟨l, h1, h2, h3⟩ := trod_u8s ht he hce hct hf
  refine ⟨l, ?_, h2, h3⟩
  have : cs.toList = (ints .u8 l).toList := h1
  rw [Array.toList_inj.1 this]

theorem cells_range {a : Addr} {n : Nat} {cs : List Value} (h : w.cells? base a n = some cs) (hn : 0 < n) : ∃ b off, a = ⟨b, off, none⟩ ∧ w.rangeAt b off cs := by
  obtain ⟨h1, h2, h3⟩ := World.cells?_some h
  have h0 := h3 0 hn
  have hsp : a.spot = none := by
    have : a.add 0 = a := rfl
    rw [this, List.getElem?_eq_getElem (by omega)] at h0
    exact World.cell?_spot h0
  obtain ⟨b, off, sp⟩ := a
  simp only at hsp
  subst hsp
  refine ⟨b, off, rfl, fun j v hv => ?_⟩
  have hj : j < cs.length := (List.getElem?_eq_some_iff.1 hv).1
  rw [← addr_add, h3 j (by omega), hv]

theorem open_rows {t e u : Nat} {v : Value} {d : DataW H} {p : List MemPlace} (ht : P.underlying t = some (.slice e)) (he : P.underlying e = some (.array 32 u)) (hu : P.underlying u = some (.int .u8)) (hce : P.cellsOf u = 1) (hct : P.cellsOf e = 32)
    {b0 : Nat} (hv : Value.okWide P w .any b0 t v) (h : DataW.Trod enc P w base spare held t v d p) : ∃ rows : List (List Nat), RdRows rows v w ∧ (∀ r ∈ rows, IsB32 r) ∧ rows.length ≤ maxLen := by
  obtain ⟨a0, len0, cap0, rfl⟩ := okWide_slice ht hv
  obtain ⟨fuel, hf⟩ := h
  rcases DataW.trod_slice ht hf with ⟨h0, -⟩ | ⟨a, len, cap, elems, rest, n, -, hcs, -, hb, hl, hm, hlen, hel, -, -⟩
  · simp [Value.cells] at h0
    obtain ⟨rfl, rfl, rfl⟩ := h0
    exact ⟨[], .inl ⟨⟨_, _, rfl⟩, rfl⟩, (fun r hr => by cases hr), Nat.zero_le _⟩
  · simp [Value.cells] at hcs
    obtain ⟨rfl, rfl, rfl⟩ := hcs
    have key : ∀ i, i < len0 → ∃ l : List Nat, (∃ b off, a.add (i * 32) = ⟨b, off, none⟩ ∧ w.rangeAt b off (ints .u8 l).toList) ∧ IsB32 l := fun i hi => by
      have h1 := hel i hi
      rw [hct, List.getElem?_eq_getElem (by omega), Option.bind_eq_some_iff] at h1
      obtain ⟨cs, hc, h2⟩ := h1
      obtain ⟨l, rfl, h3, h4⟩ := trod_u8s he hu hce hct h2
      obtain ⟨b, off, h5, h6⟩ := cells_range hc (by decide)
      exact ⟨l, ⟨b, off, h5, h6⟩, h3, h4⟩
    rcases Nat.eq_zero_or_pos len0 with rfl | hpos
    · exact ⟨[], .inl ⟨⟨_, _, rfl⟩, rfl⟩, (fun r hr => by cases hr), Nat.zero_le _⟩
    · obtain ⟨b, off, ha⟩ : ∃ b off, a = ⟨b, off, none⟩ := by
        obtain ⟨l, ⟨b, off, h1, -⟩, -⟩ := key 0 hpos
        exact ⟨b, off, by rw [Nat.zero_mul] at h1; exact h1⟩
      subst ha
      have all : ∀ n, n ≤ len0 → ∃ rows : List (List Nat), rows.length = n ∧ (∀ j, (h : j < rows.length) → w.rangeAt b (off + j * 32) (ints .u8 rows[j]).toList) ∧ ∀ r ∈ rows, IsB32 r := by
        intro n
        induction n with
        | zero => intro _; exact ⟨[], rfl, fun j h => by simp at h, fun r hr => by cases hr⟩
        | succ n ih =>
          intro hn
          obtain ⟨rows, h1, h2, h3⟩ := ih (by omega)
          obtain ⟨l, ⟨b', off', h4, h5⟩, h6⟩ := key n (by omega)
          rw [addr_add] at h4
          injection h4 with h4 h4' _
          subst h4 h4'
          refine ⟨rows ++ [l], by simp [h1], fun j hj => ?_, fun r hr => ?_⟩
          · rcases Nat.lt_or_ge j rows.length with hlt | hge
            · rw [List.getElem_append_left hlt]
              exact h2 j hlt
            · have : j = n := by simp at hj; omega
              subst this
              rw [List.getElem_append_right hge]
              simp only [h1, Nat.sub_self, List.getElem_cons_zero]
              exact h5
          · rcases List.mem_append.1 hr with hr | hr
            · exact h3 r hr
            · rw [List.mem_singleton.1 hr]; exact h6
      obtain ⟨rows, h1, h2, h3⟩ := all len0 (Nat.le_refl _)
      subst h1
      exact ⟨rows, .inr ⟨b, off, _, rfl, h2⟩, h3, by omega⟩
end
end Go.Proofs.YtnbbehgcnodfbaaDoor
