/-
  DERIVED. GIVEN WITH THE SEED: THE CARDS: each row of YtnelnmlhlmocdaaGreatDoorRows.lean that lists a variable, with what it lists TIED to the program's text (the seventh form; the later family's looks); each row that meets fmt, with fmt's text TOLD by the authors' own Lean function (tested against real Go, not proved from fmt's source: count such statements apart). THE CARD IS WHAT COUNTS. Prove the row's statement (the work); the ties are given (YtnelnmlhlmocdaaGreatDoorTie.lean); close each card by the builder's one call (the guide's Derived/Test/ToyasCard.lean, 'card_holds'). Laid BY PROGRAM, IN A SANDBOX (cutbox-door.mjs). By AI agents, Wed Nov 11 2026. No macro, syntax, notation, axiom, sorry.
-/
import Derived.Test.YtnelnmlhlmocdaaGreatDoorRows
import GoSem.ClaimSeven
namespace Go.Proofs.YtnelnmlhlmocdaaGreatDoor
namespace Rows

/-- THE TIED CARD OF 'bursartop.BursarAsks'. -/
def bursarAsksCard : Claim7 := { stood := { row := bursarAsksRow, standIns := [], harness := (true, "31f46ca7c249928639b8c2814b4f1ff1299ad879e4525fcfdd46184b434df011"), looks := true }, kinds := [], alts := [], laidByText := true, laidKinds := [.data, .data, .data, .data, .sentinel, .sentinel, .listed, .data, .pinned], laidTests := true, laidLooks := .later }
def BursarAsksCardSaid : Prop := Claim7.holds Tryz.pinned (.plain (OpenSpec.ofChange bursarAsksSpec)) bursarAsksCard

/-- THE SECOND FORM's CARD OF 'bursartop.BursarAsks'. -/
def bursarAsksUptoCard : Claim7 := { stood := { row := bursarAsksUptoRow, standIns := [], harness := (true, "31f46ca7c249928639b8c2814b4f1ff1299ad879e4525fcfdd46184b434df011"), looks := true }, kinds := [], alts := [], laidByText := true, laidKinds := [.data, .data, .data, .data, .sentinel, .sentinel, .listed, .data, .pinned], laidTests := true, laidLooks := .later }
def BursarAsksUptoCardSaid : Prop := Claim7.holds Tryz.pinned (.plain (OpenSpec.upto bursarAsksSpec)) bursarAsksUptoCard
end Rows
end Go.Proofs.YtnelnmlhlmocdaaGreatDoor
