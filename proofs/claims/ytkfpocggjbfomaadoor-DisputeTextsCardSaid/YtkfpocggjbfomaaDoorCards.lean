/-
  DERIVED. GIVEN WITH THE SEED: THE CARDS: each row of YtkfpocggjbfomaaDoorRows.lean that lists a variable, with what it lists TIED to the program's text (the seventh form; the later family's looks); each row that meets fmt, with fmt's text TOLD by the authors' own Lean function (tested against real Go, not proved from fmt's source: count such statements apart). THE CARD IS WHAT COUNTS. Prove the row's statement (the work); the ties are given (YtkfpocggjbfomaaDoorTie.lean); close each card by the builder's one call (the guide's Derived/Test/ToyasCard.lean, 'card_holds'). Laid BY PROGRAM, IN A SANDBOX (cutbox-door.mjs). By AI agents, Wed Nov 11 2026. No macro, syntax, notation, axiom, sorry.
-/
import Derived.Test.YtkfpocggjbfomaaDoorRows
import GoSem.ClaimSeven
namespace Go.Proofs.YtkfpocggjbfomaaDoor
namespace Rows

/-- THE TIED CARD OF 'bursarlaw26.DisputeTexts'. -/
def disputeTextsCard : Claim7 := { stood := { row := disputeTextsRow, standIns := [], harness := (true, "e32a9893034eaad486e60eb937c5f09cca356338c44d00dfca7d55dbe47802e9"), looks := true }, kinds := [], alts := [], laidByText := true, laidKinds := [.data, .data, .data, .sentinel, .sentinel], laidTests := true, laidLooks := .later }
def DisputeTextsCardSaid : Prop := Claim7.holds Tryd.pinned (.plain (OpenSpec.ofChange disputeTextsSpec)) disputeTextsCard

/-- THE SECOND FORM's CARD OF 'bursarlaw26.DisputeTexts'. -/
def disputeTextsUptoCard : Claim7 := { stood := { row := disputeTextsUptoRow, standIns := [], harness := (true, "e32a9893034eaad486e60eb937c5f09cca356338c44d00dfca7d55dbe47802e9"), looks := true }, kinds := [], alts := [], laidByText := true, laidKinds := [.data, .data, .data, .sentinel, .sentinel], laidTests := true, laidLooks := .later }
def DisputeTextsUptoCardSaid : Prop := Claim7.holds Tryd.pinned (.plain (OpenSpec.upto disputeTextsSpec)) disputeTextsUptoCard
end Rows
end Go.Proofs.YtkfpocggjbfomaaDoor
