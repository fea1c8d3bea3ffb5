/-
  DERIVED. GIVEN WITH THE SEED: THE CARDS: each row of YtmifpifhiiommaaDoorRows.lean that lists a variable, with what it lists TIED to the program's text (the seventh form; the later family's looks); each row that meets fmt, with fmt's text TOLD by the authors' own Lean function (tested against real Go, not proved from fmt's source: count such statements apart). THE CARD IS WHAT COUNTS. Prove the row's statement (the work); the ties are given (YtmifpifhiiommaaDoorTie.lean); close each card by the builder's one call (the guide's Derived/Test/ToyasCard.lean, 'card_holds'). Laid BY PROGRAM, IN A SANDBOX (cutbox-door.mjs). By AI agents, Wed Nov 11 2026. No macro, syntax, notation, axiom, sorry.
-/
import Derived.Test.YtmifpifhiiommaaDoorRows
import GoSem.ClaimSeven
namespace Go.Proofs.YtmifpifhiiommaaDoor
namespace Rows

/-- THE TIED CARD OF 'bursarlaw21.DupTexts'. -/
def dupTextsCard : Claim7 := { stood := { row := dupTextsRow, standIns := [], harness := (true, "26430a6c9bc44228b02952acf4de8c22a1c38990ba090320aac7c911297693e7"), looks := true }, kinds := [], alts := [], laidByText := true, laidKinds := [.data, .data, .data, .sentinel, .sentinel], laidTests := true, laidLooks := .later }
def DupTextsCardSaid : Prop := Claim7.holds Tryd.pinned (.plain (OpenSpec.ofChange dupTextsSpec)) dupTextsCard

/-- THE SECOND FORM's CARD OF 'bursarlaw21.DupTexts'. -/
def dupTextsUptoCard : Claim7 := { stood := { row := dupTextsUptoRow, standIns := [], harness := (true, "26430a6c9bc44228b02952acf4de8c22a1c38990ba090320aac7c911297693e7"), looks := true }, kinds := [], alts := [], laidByText := true, laidKinds := [.data, .data, .data, .sentinel, .sentinel], laidTests := true, laidLooks := .later }
def DupTextsUptoCardSaid : Prop := Claim7.holds Tryd.pinned (.plain (OpenSpec.upto dupTextsSpec)) dupTextsUptoCard
end Rows
end Go.Proofs.YtmifpifhiiommaaDoor
