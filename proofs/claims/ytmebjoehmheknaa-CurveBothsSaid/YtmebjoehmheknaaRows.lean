/-
  No cell of these rows narrows 'for every input' (looked for: loops, veiled, ifaces, maps, wideKeys, modest, calm, conditions, laid).
  DERIVED. THE GIVEN ROWS OF THIS SEAT. 5 by the template 'for every input the law returns true; each argument reads behind the call as it read before'; 0 by the template 'total and deterministic' (their statements: YtmebjoehmheknaaTotals.lean).
  GIVEN WITH THE SEED: the statements are not yours to turn. If you find one false, say at which input.
  Laid BY PROGRAM, IN A SANDBOX (cutbox-rows.mjs): the forced cells as the released guide's own fill.sh prints them over the translation dce91555f80c7c79… (all of the seat's roots in one cut). By AI agents, Wed Nov 11 2026. No macro, syntax, notation, axiom, sorry.
-/
import Derived.Test.YtmebjoehmheknaaChecked
import GoSem.Claim
import GoSem.ClaimJoined
import GoSem.ClaimMapViews
import Derived.JoinedTies
import Derived.KernelRfl
namespace Go.Proofs.Ytmebjoehmheknaa
/- THE CELL 'sum', in the pinned program and in every row, IS THE sha256 OF THE DUMP (.gsa) THAT YtmebjoehmheknaaProg.lean LOADS. Nothing in Lean hashes anything: it is a label: what it is worth is what the hold of that sum in a sandbox is worth. -/
noncomputable def Try.pinned : Pinned := { name := "ytmebjoehmheknaa", sum := "dce91555f80c7c792e727d539929296ef746b310113b51a3fc1b40cbc1d4c725", checked := Try.checked }
namespace Rows
def none {H : Type} : Left H := { results := [], args := [] }

/-- 'dioptrelaw06.CurveGroup': WHATEVER THE INPUT: true; the input reads as it did. -/
def curveGroupSpec : ChangeSpec := { name := "curveGroup", fn := fun _ => fun
  | [d1, d2, d3] => { results := [.lit (.bool true)], args := [d1, d2, d3] }
  | _ => none }
def curveGroupRow : OpenClaim := { program := "ytmebjoehmheknaa", sum := "dce91555f80c7c792e727d539929296ef746b310113b51a3fc1b40cbc1d4c725", func := "dioptre/dioptrelaw06.CurveGroup", spec := "curveGroup", inPlace := ["math/bits.Add64"], unfollowed := true, recurses := true, apart := false }
def CurveGroupSaid : Prop := curveGroupRow.holds Try.pinned (OpenSpec.ofChange curveGroupSpec)

/-- ITS FALSE NEIGHBOUR: 'it returns false'. Refute it at one input. -/
def curveGroupWrong : ChangeSpec := { name := "curveGroup", fn := fun _ => fun
  | [d1, d2, d3] => { results := [.lit (.bool false)], args := [d1, d2, d3] }
  | _ => none }
def CurveGroupWrongFalsely : Prop := curveGroupRow.holds Try.pinned (OpenSpec.ofChange curveGroupWrong)

/-- 'dioptrelaw06.CurveDecodes': WHATEVER THE INPUT: true; the input reads as it did. -/
def curveDecodesSpec : ChangeSpec := { name := "curveDecodes", fn := fun _ => fun
  | [d] => { results := [.lit (.bool true)], args := [d] }
  | _ => none }
def curveDecodesRow : OpenClaim := { program := "ytmebjoehmheknaa", sum := "dce91555f80c7c792e727d539929296ef746b310113b51a3fc1b40cbc1d4c725", func := "dioptre/dioptrelaw06.CurveDecodes", spec := "curveDecodes", inPlace := ["math/bits.Add64"], unfollowed := true, recurses := true, apart := false }
def CurveDecodesSaid : Prop := curveDecodesRow.holds Try.pinned (OpenSpec.ofChange curveDecodesSpec)

/-- ITS FALSE NEIGHBOUR: 'it returns false'. Refute it at one input. -/
def curveDecodesWrong : ChangeSpec := { name := "curveDecodes", fn := fun _ => fun
  | [d] => { results := [.lit (.bool false)], args := [d] }
  | _ => none }
def CurveDecodesWrongFalsely : Prop := curveDecodesRow.holds Try.pinned (OpenSpec.ofChange curveDecodesWrong)

/-- 'dioptrelaw06.CurveAdds': WHATEVER THE INPUT: true; the input reads as it did. -/
def curveAddsSpec : ChangeSpec := { name := "curveAdds", fn := fun _ => fun
  | [d1, d2, d3] => { results := [.lit (.bool true)], args := [d1, d2, d3] }
  | _ => none }
def curveAddsRow : OpenClaim := { program := "ytmebjoehmheknaa", sum := "dce91555f80c7c792e727d539929296ef746b310113b51a3fc1b40cbc1d4c725", func := "dioptre/dioptrelaw06.CurveAdds", spec := "curveAdds", inPlace := ["math/bits.Add64"], unfollowed := true, recurses := true, apart := false }
def CurveAddsSaid : Prop := curveAddsRow.holds Try.pinned (OpenSpec.ofChange curveAddsSpec)

/-- ITS FALSE NEIGHBOUR: 'it returns false'. Refute it at one input. -/
def curveAddsWrong : ChangeSpec := { name := "curveAdds", fn := fun _ => fun
  | [d1, d2, d3] => { results := [.lit (.bool false)], args := [d1, d2, d3] }
  | _ => none }
def CurveAddsWrongFalsely : Prop := curveAddsRow.holds Try.pinned (OpenSpec.ofChange curveAddsWrong)

/-- 'dioptrelaw06.CurveMuls': WHATEVER THE INPUT: true; the input reads as it did. -/
def curveMulsSpec : ChangeSpec := { name := "curveMuls", fn := fun _ => fun
  | [d] => { results := [.lit (.bool true)], args := [d] }
  | _ => none }
def curveMulsRow : OpenClaim := { program := "ytmebjoehmheknaa", sum := "dce91555f80c7c792e727d539929296ef746b310113b51a3fc1b40cbc1d4c725", func := "dioptre/dioptrelaw06.CurveMuls", spec := "curveMuls", inPlace := ["math/bits.Add64"], unfollowed := true, recurses := true, apart := false }
def CurveMulsSaid : Prop := curveMulsRow.holds Try.pinned (OpenSpec.ofChange curveMulsSpec)

/-- ITS FALSE NEIGHBOUR: 'it returns false'. Refute it at one input. -/
def curveMulsWrong : ChangeSpec := { name := "curveMuls", fn := fun _ => fun
  | [d] => { results := [.lit (.bool false)], args := [d] }
  | _ => none }
def CurveMulsWrongFalsely : Prop := curveMulsRow.holds Try.pinned (OpenSpec.ofChange curveMulsWrong)

/-- 'dioptrelaw06.CurveBoths': WHATEVER THE INPUT: true; the input reads as it did. -/
def curveBothsSpec : ChangeSpec := { name := "curveBoths", fn := fun _ => fun
  | [d1, d2, d3] => { results := [.lit (.bool true)], args := [d1, d2, d3] }
  | _ => none }
def curveBothsRow : OpenClaim := { program := "ytmebjoehmheknaa", sum := "dce91555f80c7c792e727d539929296ef746b310113b51a3fc1b40cbc1d4c725", func := "dioptre/dioptrelaw06.CurveBoths", spec := "curveBoths", inPlace := ["math/bits.Add64"], unfollowed := true, recurses := true, apart := false }
def CurveBothsSaid : Prop := curveBothsRow.holds Try.pinned (OpenSpec.ofChange curveBothsSpec)

/-- ITS FALSE NEIGHBOUR: 'it returns false'. Refute it at one input. -/
def curveBothsWrong : ChangeSpec := { name := "curveBoths", fn := fun _ => fun
  | [d1, d2, d3] => { results := [.lit (.bool false)], args := [d1, d2, d3] }
  | _ => none }
def CurveBothsWrongFalsely : Prop := curveBothsRow.holds Try.pinned (OpenSpec.ofChange curveBothsWrong)

/- THE SECOND FORM. 'bulk': how many values and letters a reading holds, each counted each time it is reached (what is shared counts as often as it is met; a slice's spare places count too). A statement '..UptoSaid' is the law's where the arguments, and the package variables that the reading takes, are together of bulk at most 1048576: NARROWER than '..Said'. Prove '..Said' where nothing that the law and all that it calls make is longer than what came in: it says more and counts as full. Else prove '..UptoSaid'. A law counts once. -/
mutual
def uptoBulk {H : Type} : DataW H → Nat
  | .lit (.string bytes) => bytes.length + 1
  | .lit _ => 1
  | .nil => 1
  | .ptr d => uptoBulk d + 1
  | .slice elems spare => uptoBulkAll elems + uptoBulkAll spare + 1
  | .agg parts => uptoBulkAll parts + 1
  | .iface _ d => uptoBulk d + 1
  | .map entries => uptoBulkEntries entries + 1
  | .held _ => 1
def uptoBulkAll {H : Type} : List (DataW H) → Nat
  | [] => 0
  | d :: r => uptoBulk d + uptoBulkAll r
def uptoBulkEntries {H : Type} : List (Lit × DataW H) → Nat
  | [] => 0
  | x :: r => uptoBulkEntry x + uptoBulkEntries r
def uptoBulkEntry {H : Type} : Lit × DataW H → Nat
  | (.string bytes, d) => bytes.length + uptoBulk d + 1
  | (_, d) => uptoBulk d + 1
 end
def uptoSmall : (H : Type) → List (DataW H) → Bool := fun _ ds => decide (uptoBulkAll ds ≤ 1048576)
def OpenSpec.upto (s : _root_.Go.ChangeSpec) : _root_.Go.OpenSpec := { _root_.Go.OpenSpec.ofChange s with cond := some uptoSmall }

/-- 'dioptrelaw06.CurveGroup', WHERE WHAT IT READS IS OF BULK AT MOST 1048576: true; the input reads as it did. -/
def curveGroupUptoRow : OpenClaim := { program := "ytmebjoehmheknaa", sum := "dce91555f80c7c792e727d539929296ef746b310113b51a3fc1b40cbc1d4c725", func := "dioptre/dioptrelaw06.CurveGroup", spec := "curveGroup", inPlace := ["math/bits.Add64"], unfollowed := true, recurses := true, apart := false, narrowed := true }
def CurveGroupUptoSaid : Prop := curveGroupUptoRow.holds Try.pinned (OpenSpec.upto curveGroupSpec)

/-- 'dioptrelaw06.CurveDecodes', WHERE WHAT IT READS IS OF BULK AT MOST 1048576: true; the input reads as it did. -/
def curveDecodesUptoRow : OpenClaim := { program := "ytmebjoehmheknaa", sum := "dce91555f80c7c792e727d539929296ef746b310113b51a3fc1b40cbc1d4c725", func := "dioptre/dioptrelaw06.CurveDecodes", spec := "curveDecodes", inPlace := ["math/bits.Add64"], unfollowed := true, recurses := true, apart := false, narrowed := true }
def CurveDecodesUptoSaid : Prop := curveDecodesUptoRow.holds Try.pinned (OpenSpec.upto curveDecodesSpec)

/-- 'dioptrelaw06.CurveAdds', WHERE WHAT IT READS IS OF BULK AT MOST 1048576: true; the input reads as it did. -/
def curveAddsUptoRow : OpenClaim := { program := "ytmebjoehmheknaa", sum := "dce91555f80c7c792e727d539929296ef746b310113b51a3fc1b40cbc1d4c725", func := "dioptre/dioptrelaw06.CurveAdds", spec := "curveAdds", inPlace := ["math/bits.Add64"], unfollowed := true, recurses := true, apart := false, narrowed := true }
def CurveAddsUptoSaid : Prop := curveAddsUptoRow.holds Try.pinned (OpenSpec.upto curveAddsSpec)

/-- 'dioptrelaw06.CurveMuls', WHERE WHAT IT READS IS OF BULK AT MOST 1048576: true; the input reads as it did. -/
def curveMulsUptoRow : OpenClaim := { program := "ytmebjoehmheknaa", sum := "dce91555f80c7c792e727d539929296ef746b310113b51a3fc1b40cbc1d4c725", func := "dioptre/dioptrelaw06.CurveMuls", spec := "curveMuls", inPlace := ["math/bits.Add64"], unfollowed := true, recurses := true, apart := false, narrowed := true }
def CurveMulsUptoSaid : Prop := curveMulsUptoRow.holds Try.pinned (OpenSpec.upto curveMulsSpec)

/-- 'dioptrelaw06.CurveBoths', WHERE WHAT IT READS IS OF BULK AT MOST 1048576: true; the input reads as it did. -/
def curveBothsUptoRow : OpenClaim := { program := "ytmebjoehmheknaa", sum := "dce91555f80c7c792e727d539929296ef746b310113b51a3fc1b40cbc1d4c725", func := "dioptre/dioptrelaw06.CurveBoths", spec := "curveBoths", inPlace := ["math/bits.Add64"], unfollowed := true, recurses := true, apart := false, narrowed := true }
def CurveBothsUptoSaid : Prop := curveBothsUptoRow.holds Try.pinned (OpenSpec.upto curveBothsSpec)

end Rows
end Go.Proofs.Ytmebjoehmheknaa
