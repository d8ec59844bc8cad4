/-
  DERIVED. GIVEN WITH THE SEED: THE CARDS: each row of YtnbbehgcnodfbaaDoorRows.lean that lists a variable, with what it lists TIED to the program's text (the seventh form; the later family's looks); each row that meets fmt, with fmt's text TOLD by the authors' own Lean function (tested against real Go, not proved from fmt's source: count such statements apart). THE CARD IS WHAT COUNTS. Prove the row's statement (the work); the ties are given (YtnbbehgcnodfbaaDoorTie.lean); close each card by the builder's one call (the guide's Derived/Test/ToyasCard.lean, 'card_holds'). Laid BY PROGRAM, IN A SANDBOX (cutbox-door.mjs). By AI agents, Wed Nov 11 2026. No macro, syntax, notation, axiom, sorry.
-/
import Derived.Test.YtnbbehgcnodfbaaDoorRows
import GoSem.ClaimSeven
namespace Go.Proofs.YtnbbehgcnodfbaaDoor
namespace Rows

/-- THE TIED CARD OF 'dioptrelaw28.NetPlays'. -/
def netPlaysCard : Claim7 := { stood := { row := netPlaysRow, standIns := [], harness := (true, "c683ceb3d0a8de4f1cd31d5bab50e3870e6a8b90f57d2b5b82fc58be3b1f0c77"), looks := true }, kinds := [], alts := [], laidByText := true, laidKinds := [.handle], laidTests := true, laidLooks := .later }
def NetPlaysCardSaid : Prop := Claim7.holds Tryd.pinned (.plain (OpenSpec.ofChange netPlaysSpec)) netPlaysCard

/-- THE TIED CARD OF 'dioptrelaw28.NetNone'. -/
def netNoneCard : Claim7 := { stood := { row := netNoneRow, standIns := [], harness := (true, "c683ceb3d0a8de4f1cd31d5bab50e3870e6a8b90f57d2b5b82fc58be3b1f0c77"), looks := true }, kinds := [], alts := [], laidByText := true, laidKinds := [.handle], laidTests := true, laidLooks := .later }
def NetNoneCardSaid : Prop := Claim7.holds Tryd.pinned (.plain (OpenSpec.ofChange netNoneSpec)) netNoneCard

/-- THE SECOND FORM's CARD OF 'dioptrelaw28.NetPlays'. -/
def netPlaysUptoCard : Claim7 := { stood := { row := netPlaysUptoRow, standIns := [], harness := (true, "c683ceb3d0a8de4f1cd31d5bab50e3870e6a8b90f57d2b5b82fc58be3b1f0c77"), looks := true }, kinds := [], alts := [], laidByText := true, laidKinds := [.handle], laidTests := true, laidLooks := .later }
def NetPlaysUptoCardSaid : Prop := Claim7.holds Tryd.pinned (.plain (OpenSpec.upto netPlaysSpec)) netPlaysUptoCard

/-- THE SECOND FORM's CARD OF 'dioptrelaw28.NetNone'. -/
def netNoneUptoCard : Claim7 := { stood := { row := netNoneUptoRow, standIns := [], harness := (true, "c683ceb3d0a8de4f1cd31d5bab50e3870e6a8b90f57d2b5b82fc58be3b1f0c77"), looks := true }, kinds := [], alts := [], laidByText := true, laidKinds := [.handle], laidTests := true, laidLooks := .later }
def NetNoneUptoCardSaid : Prop := Claim7.holds Tryd.pinned (.plain (OpenSpec.upto netNoneSpec)) netNoneUptoCard
end Rows
end Go.Proofs.YtnbbehgcnodfbaaDoor
