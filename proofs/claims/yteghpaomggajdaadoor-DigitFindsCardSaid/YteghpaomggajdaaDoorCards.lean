/-
  DERIVED. GIVEN WITH THE SEED: THE CARDS: each row of YteghpaomggajdaaDoorRows.lean that lists a variable, with what it lists TIED to the program's text (the seventh form; the later family's looks); each row that meets fmt, with fmt's text TOLD by the authors' own Lean function (tested against real Go, not proved from fmt's source: count such statements apart). THE CARD IS WHAT COUNTS. Prove the row's statement (the work); the ties are given (YteghpaomggajdaaDoorTie.lean); close each card by the builder's one call (the guide's Derived/Test/ToyasCard.lean, 'card_holds'). Laid BY PROGRAM, IN A SANDBOX (cutbox-door.mjs). By AI agents, Wed Nov 11 2026. No macro, syntax, notation, axiom, sorry.
-/
import Derived.Test.YteghpaomggajdaaDoorRows
import GoSem.ClaimSeven
namespace Go.Proofs.YteghpaomggajdaaDoor
namespace Rows

/-- THE TIED CARD OF 'bursarlaw02.DigitPuts'. -/
def digitPutsCard : Claim7 := { stood := { row := digitPutsRow, standIns := [], harness := (true, "803de129b36e224fc7c290a695c2b67f734b4ab52d96ea14b8e66d6f15b9e28c"), looks := true }, kinds := [], alts := [], laidByText := true, laidKinds := [.data, .data, .data, .sentinel, .sentinel], laidTests := true, laidLooks := .later }
def DigitPutsCardSaid : Prop := Claim7.holds Tryd.pinned (.plain (OpenSpec.ofChange digitPutsSpec)) digitPutsCard

/-- THE TIED CARD OF 'bursarlaw02.DigitGets'. -/
def digitGetsCard : Claim7 := { stood := { row := digitGetsRow, standIns := [], harness := (true, "803de129b36e224fc7c290a695c2b67f734b4ab52d96ea14b8e66d6f15b9e28c"), looks := true }, kinds := [], alts := [], laidByText := true, laidKinds := [.data, .data, .data, .sentinel, .sentinel], laidTests := true, laidLooks := .later }
def DigitGetsCardSaid : Prop := Claim7.holds Tryd.pinned (.plain (OpenSpec.ofChange digitGetsSpec)) digitGetsCard

/-- THE TIED CARD OF 'bursarlaw02.DigitSounds'. -/
def digitSoundsCard : Claim7 := { stood := { row := digitSoundsRow, standIns := [], harness := (true, "803de129b36e224fc7c290a695c2b67f734b4ab52d96ea14b8e66d6f15b9e28c"), looks := true }, kinds := [], alts := [], laidByText := true, laidKinds := [.data, .data, .data, .sentinel, .sentinel], laidTests := true, laidLooks := .later }
def DigitSoundsCardSaid : Prop := Claim7.holds Tryd.pinned (.plain (OpenSpec.ofChange digitSoundsSpec)) digitSoundsCard

/-- THE TIED CARD OF 'bursarlaw02.DigitFinds'. -/
def digitFindsCard : Claim7 := { stood := { row := digitFindsRow, standIns := [], harness := (true, "803de129b36e224fc7c290a695c2b67f734b4ab52d96ea14b8e66d6f15b9e28c"), looks := true }, kinds := [], alts := [], laidByText := true, laidKinds := [.data, .data, .data, .sentinel, .sentinel], laidTests := true, laidLooks := .later }
def DigitFindsCardSaid : Prop := Claim7.holds Tryd.pinned (.plain (OpenSpec.ofChange digitFindsSpec)) digitFindsCard

/-- THE TIED CARD OF 'bursarlaw02.DigitOrder'. -/
def digitOrderCard : Claim7 := { stood := { row := digitOrderRow, standIns := [], harness := (true, "803de129b36e224fc7c290a695c2b67f734b4ab52d96ea14b8e66d6f15b9e28c"), looks := true }, kinds := [], alts := [], laidByText := true, laidKinds := [.data, .data, .data, .sentinel, .sentinel], laidTests := true, laidLooks := .later }
def DigitOrderCardSaid : Prop := Claim7.holds Tryd.pinned (.plain (OpenSpec.ofChange digitOrderSpec)) digitOrderCard

/-- THE SECOND FORM's CARD OF 'bursarlaw02.DigitPuts'. -/
def digitPutsUptoCard : Claim7 := { stood := { row := digitPutsUptoRow, standIns := [], harness := (true, "803de129b36e224fc7c290a695c2b67f734b4ab52d96ea14b8e66d6f15b9e28c"), looks := true }, kinds := [], alts := [], laidByText := true, laidKinds := [.data, .data, .data, .sentinel, .sentinel], laidTests := true, laidLooks := .later }
def DigitPutsUptoCardSaid : Prop := Claim7.holds Tryd.pinned (.plain (OpenSpec.upto digitPutsSpec)) digitPutsUptoCard

/-- THE SECOND FORM's CARD OF 'bursarlaw02.DigitGets'. -/
def digitGetsUptoCard : Claim7 := { stood := { row := digitGetsUptoRow, standIns := [], harness := (true, "803de129b36e224fc7c290a695c2b67f734b4ab52d96ea14b8e66d6f15b9e28c"), looks := true }, kinds := [], alts := [], laidByText := true, laidKinds := [.data, .data, .data, .sentinel, .sentinel], laidTests := true, laidLooks := .later }
def DigitGetsUptoCardSaid : Prop := Claim7.holds Tryd.pinned (.plain (OpenSpec.upto digitGetsSpec)) digitGetsUptoCard

/-- THE SECOND FORM's CARD OF 'bursarlaw02.DigitSounds'. -/
def digitSoundsUptoCard : Claim7 := { stood := { row := digitSoundsUptoRow, standIns := [], harness := (true, "803de129b36e224fc7c290a695c2b67f734b4ab52d96ea14b8e66d6f15b9e28c"), looks := true }, kinds := [], alts := [], laidByText := true, laidKinds := [.data, .data, .data, .sentinel, .sentinel], laidTests := true, laidLooks := .later }
def DigitSoundsUptoCardSaid : Prop := Claim7.holds Tryd.pinned (.plain (OpenSpec.upto digitSoundsSpec)) digitSoundsUptoCard

/-- THE SECOND FORM's CARD OF 'bursarlaw02.DigitFinds'. -/
def digitFindsUptoCard : Claim7 := { stood := { row := digitFindsUptoRow, standIns := [], harness := (true, "803de129b36e224fc7c290a695c2b67f734b4ab52d96ea14b8e66d6f15b9e28c"), looks := true }, kinds := [], alts := [], laidByText := true, laidKinds := [.data, .data, .data, .sentinel, .sentinel], laidTests := true, laidLooks := .later }
def DigitFindsUptoCardSaid : Prop := Claim7.holds Tryd.pinned (.plain (OpenSpec.upto digitFindsSpec)) digitFindsUptoCard

/-- THE SECOND FORM's CARD OF 'bursarlaw02.DigitOrder'. -/
def digitOrderUptoCard : Claim7 := { stood := { row := digitOrderUptoRow, standIns := [], harness := (true, "803de129b36e224fc7c290a695c2b67f734b4ab52d96ea14b8e66d6f15b9e28c"), looks := true }, kinds := [], alts := [], laidByText := true, laidKinds := [.data, .data, .data, .sentinel, .sentinel], laidTests := true, laidLooks := .later }
def DigitOrderUptoCardSaid : Prop := Claim7.holds Tryd.pinned (.plain (OpenSpec.upto digitOrderSpec)) digitOrderUptoCard
end Rows
end Go.Proofs.YteghpaomggajdaaDoor
