/-
  How the arguments of a statement are read: arrays of bytes, and slices of such. No program in sight.
-/
import Derived.Test.YthddoelflmoedaaGreatJ01
import Derived.Test.YthddoelflmoedaaGreatJ05
import Derived.Test.YthddoelflmoedaaGreatJ07
import Derived.Test.YthddoelflmoedaaGreatRows
import Derived.WalkKit
import Derived.ProofKit
import Derived.OpenShut
import Derived.ShutString
import Derived.ChangeOld
import Derived.Below
set_option linter.unusedVariables false
set_option linter.unusedSimpArgs false
namespace Go.Proofs.YthddoelflmoedaaGreat
open Go.ChangeShapes Go.WideShapes Go.ChangeAt Go.RowKit
set_option maxRecDepth 100000

theorem own : ownKnob Tryz.prog.godebug = none := by kernel_rfl
theorem laidOut : laidOutB Tryz.prog = true := by kernel_rfl

section
variable {H : Type} {enc : TypeId × Value → H} {P : Program} {w : World} {base : Nat} {spare : Nat → Bool} {held : Bool}

theorem trod_u8s {t e n : Nat} {fuel : Nat} {cs : List Value} {x : DataW H × List MemPlace} (ht : P.underlying t = some (.array n e)) (he : P.underlying e = some (.int .u8)) (hce : P.cellsOf e = 1) (hct : P.cellsOf t = n)
  (h : DataW.trod enc P w base spare held fuel t cs = some x) : ∃ l : List Nat, cs = (ints .u8 l).toList ∧ l.length = n ∧ Digs 256 l := by
 obtain ⟨xs, m, -, -, hlen, hl, hel⟩ := DataW.trod_array ht h
 rw [hct] at hlen
 have key : ∀ i, i < n → ∃ d : Nat, d < 256 ∧ cs[i]? = some (.int .u8 (d : Int)) := fun i hi => by
  have h1 := hel i hi
  rw [hce, Nat.mul_one, List.getElem?_eq_getElem (by omega)] at h1
  obtain ⟨z, e1, -, hw⟩ := DataW.trod_int he h1
  simp [Lit.wf, IntKind.min, IntKind.max, IntKind.signed, IntKind.bits] at hw
  refine ⟨z.toNat, by omega, ?_⟩
  have h2 : ((cs.drop i).take 1)[0]? = some (.int .u8 z) := by rw [e1]; rfl
  have h3 : cs[i]? = some (.int .u8 z) := by simpa using h2
  rw [h3]
  congr 2
  omega
 have : ∀ (cs : List Value), (∀ i, i < cs.length → ∃ d : Nat, d < 256 ∧ cs[i]? = some (.int .u8 (d : Int))) → ∃ l : List Nat, cs = (ints .u8 l).toList ∧ l.length = cs.length ∧ Digs 256 l := by
  intro cs
  induction cs with
  | nil => intro _; exact ⟨[], rfl, rfl, Digs.nil⟩
  | cons c cs ih =>
   intro h
   obtain ⟨d, hd, hc⟩ := h 0 (by simp)
   obtain ⟨l, h1, h2, h3⟩ := ih (fun i hi => by have := h (i + 1) (by simp; omega); simpa using this)
   refine ⟨d :: l, ?_, by simp [h2], Digs.cons hd h3⟩
   simp at hc
   rw [hc, h1]
   simp [ints]
 obtain ⟨l, h1, h2, h3⟩ := this cs (fun i hi => key i (by omega))
 exact ⟨l, h1, by omega, h3⟩

theorem open_u8s {t e n : Nat} {v : Value} {d : DataW H} {p : List MemPlace} (ht : P.underlying t = some (.array n e)) (he : P.underlying e = some (.int .u8)) (hce : P.cellsOf e = 1) (hct : P.cellsOf t = n)
  {b0 : Nat} (hv : Value.okWide P w .any b0 t v) (h : DataW.Trod enc P w base spare held t v d p) : ∃ l : List Nat, v = .agg (ints .u8 l) ∧ l.length = n ∧ Digs 256 l := by
 obtain ⟨cs, rfl, -, -⟩ : ∃ cs, v = .agg cs ∧ cs.size = P.cellsOf t ∧ Row.okWide P w .any b0 t cs := by
  simpa [Value.okWide, ht] using hv
 obtain ⟨fuel, hf⟩ := h
 obtain ⟨l, h1, h2, h3⟩ := trod_u8s ht he hce hct hf
 refine ⟨l, ?_, h2, h3⟩
 have : cs.toList = (ints .u8 l).toList := h1
 rw [Array.toList_inj.1 this]

end
end Go.Proofs.YthddoelflmoedaaGreat
