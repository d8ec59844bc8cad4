/-
  No cell of these rows narrows 'for every input' (looked for: loops, veiled, ifaces, maps, wideKeys, modest, calm, conditions, laid).
  DERIVED. THE GIVEN ROWS OF THIS SEAT. 6 by the template 'for every input the law returns true; each argument reads behind the call as it read before'; 0 by the template 'total and deterministic' (their statements: YtlejdddhgnfkdaaTotals.lean).
  GIVEN WITH THE SEED: the statements are not yours to turn. If you find one false, say at which input.
  Laid BY PROGRAM, IN A SANDBOX (cutbox-rows.mjs): the forced cells as the released guide's own fill.sh prints them over the translation f7ee55fa56ef13a9… (all of the seat's roots in one cut). By AI agents, Wed Nov 11 2026. No macro, syntax, notation, axiom, sorry.
-/
import Derived.Test.YtlejdddhgnfkdaaChecked
import GoSem.Claim
import GoSem.ClaimJoined
import GoSem.ClaimMapViews
import Derived.JoinedTies
import Derived.KernelRfl
namespace Go.Proofs.Ytlejdddhgnfkdaa
/- THE CELL 'sum', in the pinned program and in every row, IS THE sha256 OF THE DUMP (.gsa) THAT YtlejdddhgnfkdaaProg.lean LOADS. Nothing in Lean hashes anything: it is a label: what it is worth is what the hold of that sum in a sandbox is worth. -/
noncomputable def Try.pinned : Pinned := { name := "ytlejdddhgnfkdaa", sum := "f7ee55fa56ef13a9705f9b1147e7b34f0a3aa9f33318e24a89f1515c64776452", checked := Try.checked }
namespace Rows
def none {H : Type} : Left H := { results := [], args := [] }

/-- 'dioptrelaw04.FieldRules': WHATEVER THE INPUT: true; the input reads as it did. -/
def fieldRulesSpec : ChangeSpec := { name := "fieldRules", fn := fun _ => fun
  | [d1, d2, d3] => { results := [.lit (.bool true)], args := [d1, d2, d3] }
  | _ => none }
def fieldRulesRow : OpenClaim := { program := "ytlejdddhgnfkdaa", sum := "f7ee55fa56ef13a9705f9b1147e7b34f0a3aa9f33318e24a89f1515c64776452", func := "dioptre/dioptrelaw04.FieldRules", spec := "fieldRules", inPlace := ["math/bits.Add64"], unfollowed := true, recurses := true, apart := false }
def FieldRulesSaid : Prop := fieldRulesRow.holds Try.pinned (OpenSpec.ofChange fieldRulesSpec)

/-- ITS FALSE NEIGHBOUR: 'it returns false'. Refute it at one input. -/
def fieldRulesWrong : ChangeSpec := { name := "fieldRules", fn := fun _ => fun
  | [d1, d2, d3] => { results := [.lit (.bool false)], args := [d1, d2, d3] }
  | _ => none }
def FieldRulesWrongFalsely : Prop := fieldRulesRow.holds Try.pinned (OpenSpec.ofChange fieldRulesWrong)

/-- 'dioptrelaw04.FieldRoots': WHATEVER THE INPUT: true; the input reads as it did. -/
def fieldRootsSpec : ChangeSpec := { name := "fieldRoots", fn := fun _ => fun
  | [d1, d2] => { results := [.lit (.bool true)], args := [d1, d2] }
  | _ => none }
def fieldRootsRow : OpenClaim := { program := "ytlejdddhgnfkdaa", sum := "f7ee55fa56ef13a9705f9b1147e7b34f0a3aa9f33318e24a89f1515c64776452", func := "dioptre/dioptrelaw04.FieldRoots", spec := "fieldRoots", inPlace := ["math/bits.Add64"], unfollowed := true, recurses := true, apart := false }
def FieldRootsSaid : Prop := fieldRootsRow.holds Try.pinned (OpenSpec.ofChange fieldRootsSpec)

/-- ITS FALSE NEIGHBOUR: 'it returns false'. Refute it at one input. -/
def fieldRootsWrong : ChangeSpec := { name := "fieldRoots", fn := fun _ => fun
  | [d1, d2] => { results := [.lit (.bool false)], args := [d1, d2] }
  | _ => none }
def FieldRootsWrongFalsely : Prop := fieldRootsRow.holds Try.pinned (OpenSpec.ofChange fieldRootsWrong)

/-- 'dioptrelaw04.FieldReads': WHATEVER THE INPUT: true; the input reads as it did. -/
def fieldReadsSpec : ChangeSpec := { name := "fieldReads", fn := fun _ => fun
  | [d1, d2] => { results := [.lit (.bool true)], args := [d1, d2] }
  | _ => none }
def fieldReadsRow : OpenClaim := { program := "ytlejdddhgnfkdaa", sum := "f7ee55fa56ef13a9705f9b1147e7b34f0a3aa9f33318e24a89f1515c64776452", func := "dioptre/dioptrelaw04.FieldReads", spec := "fieldReads", inPlace := ["math/bits.Add64"], unfollowed := true, recurses := true, apart := false }
def FieldReadsSaid : Prop := fieldReadsRow.holds Try.pinned (OpenSpec.ofChange fieldReadsSpec)

/-- ITS FALSE NEIGHBOUR: 'it returns false'. Refute it at one input. -/
def fieldReadsWrong : ChangeSpec := { name := "fieldReads", fn := fun _ => fun
  | [d1, d2] => { results := [.lit (.bool false)], args := [d1, d2] }
  | _ => none }
def FieldReadsWrongFalsely : Prop := fieldReadsRow.holds Try.pinned (OpenSpec.ofChange fieldReadsWrong)

/-- 'dioptrelaw04.FieldPowers': WHATEVER THE INPUT: true; the input reads as it did. -/
def fieldPowersSpec : ChangeSpec := { name := "fieldPowers", fn := fun _ => fun
  | [d1, d2, d3] => { results := [.lit (.bool true)], args := [d1, d2, d3] }
  | _ => none }
def fieldPowersRow : OpenClaim := { program := "ytlejdddhgnfkdaa", sum := "f7ee55fa56ef13a9705f9b1147e7b34f0a3aa9f33318e24a89f1515c64776452", func := "dioptre/dioptrelaw04.FieldPowers", spec := "fieldPowers", inPlace := ["math/bits.Add64"], unfollowed := true, recurses := true, apart := false }
def FieldPowersSaid : Prop := fieldPowersRow.holds Try.pinned (OpenSpec.ofChange fieldPowersSpec)

/-- ITS FALSE NEIGHBOUR: 'it returns false'. Refute it at one input. -/
def fieldPowersWrong : ChangeSpec := { name := "fieldPowers", fn := fun _ => fun
  | [d1, d2, d3] => { results := [.lit (.bool false)], args := [d1, d2, d3] }
  | _ => none }
def FieldPowersWrongFalsely : Prop := fieldPowersRow.holds Try.pinned (OpenSpec.ofChange fieldPowersWrong)

/-- 'dioptrelaw04.FieldReckons': WHATEVER THE INPUT: true; the input reads as it did. -/
def fieldReckonsSpec : ChangeSpec := { name := "fieldReckons", fn := fun _ => fun
  | [d1, d2] => { results := [.lit (.bool true)], args := [d1, d2] }
  | _ => none }
def fieldReckonsRow : OpenClaim := { program := "ytlejdddhgnfkdaa", sum := "f7ee55fa56ef13a9705f9b1147e7b34f0a3aa9f33318e24a89f1515c64776452", func := "dioptre/dioptrelaw04.FieldReckons", spec := "fieldReckons", inPlace := ["math/bits.Add64"], unfollowed := true, recurses := true, apart := false }
def FieldReckonsSaid : Prop := fieldReckonsRow.holds Try.pinned (OpenSpec.ofChange fieldReckonsSpec)

/-- ITS FALSE NEIGHBOUR: 'it returns false'. Refute it at one input. -/
def fieldReckonsWrong : ChangeSpec := { name := "fieldReckons", fn := fun _ => fun
  | [d1, d2] => { results := [.lit (.bool false)], args := [d1, d2] }
  | _ => none }
def FieldReckonsWrongFalsely : Prop := fieldReckonsRow.holds Try.pinned (OpenSpec.ofChange fieldReckonsWrong)

/-- 'dioptrelaw04.FieldChains': WHATEVER THE INPUT: true; the input reads as it did. -/
def fieldChainsSpec : ChangeSpec := { name := "fieldChains", fn := fun _ => fun
  | [d1, d2, d3] => { results := [.lit (.bool true)], args := [d1, d2, d3] }
  | _ => none }
def fieldChainsRow : OpenClaim := { program := "ytlejdddhgnfkdaa", sum := "f7ee55fa56ef13a9705f9b1147e7b34f0a3aa9f33318e24a89f1515c64776452", func := "dioptre/dioptrelaw04.FieldChains", spec := "fieldChains", inPlace := ["math/bits.Add64"], unfollowed := true, recurses := true, apart := false }
def FieldChainsSaid : Prop := fieldChainsRow.holds Try.pinned (OpenSpec.ofChange fieldChainsSpec)

/-- ITS FALSE NEIGHBOUR: 'it returns false'. Refute it at one input. -/
def fieldChainsWrong : ChangeSpec := { name := "fieldChains", fn := fun _ => fun
  | [d1, d2, d3] => { results := [.lit (.bool false)], args := [d1, d2, d3] }
  | _ => none }
def FieldChainsWrongFalsely : Prop := fieldChainsRow.holds Try.pinned (OpenSpec.ofChange fieldChainsWrong)

/- THE SECOND FORM. 'bulk': how many values and letters a reading holds, each counted each time it is reached (what is shared counts as often as it is met; a slice's spare places count too). A statement '..UptoSaid' is the law's where the arguments, and the package variables that the reading takes, are together of bulk at most 1048576: NARROWER than '..Said'. Prove '..Said' where nothing that the law and all that it calls make is longer than what came in: it says more and counts as full. Else prove '..UptoSaid'. A law counts once. -/
mutual
def uptoBulk {H : Type} : DataW H → Nat
  | .lit (.string bytes) => bytes.length + 1
  | .lit _ => 1
  | .nil => 1
  | .ptr d => uptoBulk d + 1
  | .slice elems spare => uptoBulkAll elems + uptoBulkAll spare + 1
  | .agg parts => uptoBulkAll parts + 1
  | .iface _ d => uptoBulk d + 1
  | .map entries => uptoBulkEntries entries + 1
  | .held _ => 1
def uptoBulkAll {H : Type} : List (DataW H) → Nat
  | [] => 0
  | d :: r => uptoBulk d + uptoBulkAll r
def uptoBulkEntries {H : Type} : List (Lit × DataW H) → Nat
  | [] => 0
  | x :: r => uptoBulkEntry x + uptoBulkEntries r
def uptoBulkEntry {H : Type} : Lit × DataW H → Nat
  | (.string bytes, d) => bytes.length + uptoBulk d + 1
  | (_, d) => uptoBulk d + 1
 end
def uptoSmall : (H : Type) → List (DataW H) → Bool := fun _ ds => decide (uptoBulkAll ds ≤ 1048576)
def OpenSpec.upto (s : _root_.Go.ChangeSpec) : _root_.Go.OpenSpec := { _root_.Go.OpenSpec.ofChange s with cond := some uptoSmall }

/-- 'dioptrelaw04.FieldRules', WHERE WHAT IT READS IS OF BULK AT MOST 1048576: true; the input reads as it did. -/
def fieldRulesUptoRow : OpenClaim := { program := "ytlejdddhgnfkdaa", sum := "f7ee55fa56ef13a9705f9b1147e7b34f0a3aa9f33318e24a89f1515c64776452", func := "dioptre/dioptrelaw04.FieldRules", spec := "fieldRules", inPlace := ["math/bits.Add64"], unfollowed := true, recurses := true, apart := false, narrowed := true }
def FieldRulesUptoSaid : Prop := fieldRulesUptoRow.holds Try.pinned (OpenSpec.upto fieldRulesSpec)

/-- 'dioptrelaw04.FieldRoots', WHERE WHAT IT READS IS OF BULK AT MOST 1048576: true; the input reads as it did. -/
def fieldRootsUptoRow : OpenClaim := { program := "ytlejdddhgnfkdaa", sum := "f7ee55fa56ef13a9705f9b1147e7b34f0a3aa9f33318e24a89f1515c64776452", func := "dioptre/dioptrelaw04.FieldRoots", spec := "fieldRoots", inPlace := ["math/bits.Add64"], unfollowed := true, recurses := true, apart := false, narrowed := true }
def FieldRootsUptoSaid : Prop := fieldRootsUptoRow.holds Try.pinned (OpenSpec.upto fieldRootsSpec)

/-- 'dioptrelaw04.FieldReads', WHERE WHAT IT READS IS OF BULK AT MOST 1048576: true; the input reads as it did. -/
def fieldReadsUptoRow : OpenClaim := { program := "ytlejdddhgnfkdaa", sum := "f7ee55fa56ef13a9705f9b1147e7b34f0a3aa9f33318e24a89f1515c64776452", func := "dioptre/dioptrelaw04.FieldReads", spec := "fieldReads", inPlace := ["math/bits.Add64"], unfollowed := true, recurses := true, apart := false, narrowed := true }
def FieldReadsUptoSaid : Prop := fieldReadsUptoRow.holds Try.pinned (OpenSpec.upto fieldReadsSpec)

/-- 'dioptrelaw04.FieldPowers', WHERE WHAT IT READS IS OF BULK AT MOST 1048576: true; the input reads as it did. -/
def fieldPowersUptoRow : OpenClaim := { program := "ytlejdddhgnfkdaa", sum := "f7ee55fa56ef13a9705f9b1147e7b34f0a3aa9f33318e24a89f1515c64776452", func := "dioptre/dioptrelaw04.FieldPowers", spec := "fieldPowers", inPlace := ["math/bits.Add64"], unfollowed := true, recurses := true, apart := false, narrowed := true }
def FieldPowersUptoSaid : Prop := fieldPowersUptoRow.holds Try.pinned (OpenSpec.upto fieldPowersSpec)

/-- 'dioptrelaw04.FieldReckons', WHERE WHAT IT READS IS OF BULK AT MOST 1048576: true; the input reads as it did. -/
def fieldReckonsUptoRow : OpenClaim := { program := "ytlejdddhgnfkdaa", sum := "f7ee55fa56ef13a9705f9b1147e7b34f0a3aa9f33318e24a89f1515c64776452", func := "dioptre/dioptrelaw04.FieldReckons", spec := "fieldReckons", inPlace := ["math/bits.Add64"], unfollowed := true, recurses := true, apart := false, narrowed := true }
def FieldReckonsUptoSaid : Prop := fieldReckonsUptoRow.holds Try.pinned (OpenSpec.upto fieldReckonsSpec)

/-- 'dioptrelaw04.FieldChains', WHERE WHAT IT READS IS OF BULK AT MOST 1048576: true; the input reads as it did. -/
def fieldChainsUptoRow : OpenClaim := { program := "ytlejdddhgnfkdaa", sum := "f7ee55fa56ef13a9705f9b1147e7b34f0a3aa9f33318e24a89f1515c64776452", func := "dioptre/dioptrelaw04.FieldChains", spec := "fieldChains", inPlace := ["math/bits.Add64"], unfollowed := true, recurses := true, apart := false, narrowed := true }
def FieldChainsUptoSaid : Prop := fieldChainsUptoRow.holds Try.pinned (OpenSpec.upto fieldChainsSpec)

end Rows
end Go.Proofs.Ytlejdddhgnfkdaa
