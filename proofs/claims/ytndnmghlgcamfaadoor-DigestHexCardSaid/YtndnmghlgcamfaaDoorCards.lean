/-
  DERIVED. GIVEN WITH THE SEED: THE CARDS: each row of YtndnmghlgcamfaaDoorRows.lean that lists a variable, with what it lists TIED to the program's text (the seventh form; the later family's looks); each row that meets fmt, with fmt's text TOLD by the authors' own Lean function (tested against real Go, not proved from fmt's source: count such statements apart). THE CARD IS WHAT COUNTS. Prove the row's statement (the work); the ties are given (YtndnmghlgcamfaaDoorTie.lean); close each card by the builder's one call (the guide's Derived/Test/ToyasCard.lean, 'card_holds'). Laid BY PROGRAM, IN A SANDBOX (cutbox-door.mjs). By AI agents, Wed Nov 11 2026. No macro, syntax, notation, axiom, sorry.
-/
import Derived.Test.YtndnmghlgcamfaaDoorRows
import GoSem.ClaimSeven
namespace Go.Proofs.YtndnmghlgcamfaaDoor
namespace Rows

/-- THE TIED CARD OF 'dioptrelaw03.DigestHex'. -/
def digestHexCard : Claim7 := { stood := { row := digestHexRow, standIns := [], harness := (true, "1f894dac08670e1ab81186fcbf6dad6141aa6f3a83b7e88db053411718926105"), looks := true }, kinds := [], alts := [], laidByText := true, laidKinds := [.handle], laidTests := true, laidLooks := .later }
def DigestHexCardSaid : Prop := Claim7.holds Tryd.pinned (.plain (OpenSpec.ofChange digestHexSpec)) digestHexCard

/-- THE SECOND FORM's CARD OF 'dioptrelaw03.DigestHex'. -/
def digestHexUptoCard : Claim7 := { stood := { row := digestHexUptoRow, standIns := [], harness := (true, "1f894dac08670e1ab81186fcbf6dad6141aa6f3a83b7e88db053411718926105"), looks := true }, kinds := [], alts := [], laidByText := true, laidKinds := [.handle], laidTests := true, laidLooks := .later }
def DigestHexUptoCardSaid : Prop := Claim7.holds Tryd.pinned (.plain (OpenSpec.upto digestHexSpec)) digestHexUptoCard
end Rows
end Go.Proofs.YtndnmghlgcamfaaDoor
