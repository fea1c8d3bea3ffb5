/-
  No cell of these rows narrows 'for every input' (looked for: loops, veiled, ifaces, maps, wideKeys, modest, calm, conditions, laid).
  DERIVED. THE GIVEN ROWS OF THIS SEAT. 12 by the template 'for every input the law returns true; each argument reads behind the call as it read before'; 0 by the template 'total and deterministic' (their statements: YtddlmcaclbkopaaTotals.lean).
  GIVEN WITH THE SEED: the statements are not yours to turn. If you find one false, say at which input.
  Laid BY PROGRAM, IN A SANDBOX (cutbox-rows.mjs): the forced cells as the released guide's own fill.sh prints them over the translation fb19fd3e8c46c8b7… (all of the seat's roots in one cut). By AI agents, Wed Nov 11 2026. No macro, syntax, notation, axiom, sorry.
-/
import Derived.Test.YtddlmcaclbkopaaChecked
import GoSem.Claim
import GoSem.ClaimJoined
import GoSem.ClaimMapViews
import Derived.JoinedTies
import Derived.KernelRfl
namespace Go.Proofs.Ytddlmcaclbkopaa
/- THE CELL 'sum', in the pinned program and in every row, IS THE sha256 OF THE DUMP (.gsa) THAT YtddlmcaclbkopaaProg.lean LOADS. Nothing in Lean hashes anything: it is a label: what it is worth is what the hold of that sum in a sandbox is worth. -/
noncomputable def Try.pinned : Pinned := { name := "ytddlmcaclbkopaa", sum := "fb19fd3e8c46c8b7b888e624d6634766ea33f1ae735a94ea19999f25ef454fc8", checked := Try.checked }
namespace Rows
def none {H : Type} : Left H := { results := [], args := [] }

/-- 'bursarlaw26.DisputeOnce': WHATEVER THE INPUT: true; the input reads as it did. -/
def disputeOnceSpec : ChangeSpec := { name := "disputeOnce", fn := fun _ => fun
  | [d] => { results := [.lit (.bool true)], args := [d] }
  | _ => none }
def disputeOnceRow : OpenClaim := { program := "ytddlmcaclbkopaa", sum := "fb19fd3e8c46c8b7b888e624d6634766ea33f1ae735a94ea19999f25ef454fc8", func := "bursar/bursarlaw26.DisputeOnce", spec := "disputeOnce", unfollowed := true, recurses := true, apart := false }
def DisputeOnceSaid : Prop := disputeOnceRow.holds Try.pinned (OpenSpec.ofChange disputeOnceSpec)

/-- ITS FALSE NEIGHBOUR: 'it returns false'. Refute it at one input. -/
def disputeOnceWrong : ChangeSpec := { name := "disputeOnce", fn := fun _ => fun
  | [d] => { results := [.lit (.bool false)], args := [d] }
  | _ => none }
def DisputeOnceWrongFalsely : Prop := disputeOnceRow.holds Try.pinned (OpenSpec.ofChange disputeOnceWrong)

/-- 'bursarlaw26.DisputeDecides': WHATEVER THE INPUT: true; the input reads as it did. -/
def disputeDecidesSpec : ChangeSpec := { name := "disputeDecides", fn := fun _ => fun
  | [d1, d2, d3] => { results := [.lit (.bool true)], args := [d1, d2, d3] }
  | _ => none }
def disputeDecidesRow : OpenClaim := { program := "ytddlmcaclbkopaa", sum := "fb19fd3e8c46c8b7b888e624d6634766ea33f1ae735a94ea19999f25ef454fc8", func := "bursar/bursarlaw26.DisputeDecides", spec := "disputeDecides", unfollowed := true, recurses := true, apart := false }
def DisputeDecidesSaid : Prop := disputeDecidesRow.holds Try.pinned (OpenSpec.ofChange disputeDecidesSpec)

/-- ITS FALSE NEIGHBOUR: 'it returns false'. Refute it at one input. -/
def disputeDecidesWrong : ChangeSpec := { name := "disputeDecides", fn := fun _ => fun
  | [d1, d2, d3] => { results := [.lit (.bool false)], args := [d1, d2, d3] }
  | _ => none }
def DisputeDecidesWrongFalsely : Prop := disputeDecidesRow.holds Try.pinned (OpenSpec.ofChange disputeDecidesWrong)

/-- 'bursarlaw26.DisputeGoes': WHATEVER THE INPUT: true; the input reads as it did. -/
def disputeGoesSpec : ChangeSpec := { name := "disputeGoes", fn := fun _ => fun
  | [d1, d2, d3] => { results := [.lit (.bool true)], args := [d1, d2, d3] }
  | _ => none }
def disputeGoesRow : OpenClaim := { program := "ytddlmcaclbkopaa", sum := "fb19fd3e8c46c8b7b888e624d6634766ea33f1ae735a94ea19999f25ef454fc8", func := "bursar/bursarlaw26.DisputeGoes", spec := "disputeGoes", unfollowed := true, recurses := true, apart := false }
def DisputeGoesSaid : Prop := disputeGoesRow.holds Try.pinned (OpenSpec.ofChange disputeGoesSpec)

/-- ITS FALSE NEIGHBOUR: 'it returns false'. Refute it at one input. -/
def disputeGoesWrong : ChangeSpec := { name := "disputeGoes", fn := fun _ => fun
  | [d1, d2, d3] => { results := [.lit (.bool false)], args := [d1, d2, d3] }
  | _ => none }
def DisputeGoesWrongFalsely : Prop := disputeGoesRow.holds Try.pinned (OpenSpec.ofChange disputeGoesWrong)

/-- 'bursarlaw26.DisputeCycle': WHATEVER THE INPUT: true; the input reads as it did. -/
def disputeCycleSpec : ChangeSpec := { name := "disputeCycle", fn := fun _ => fun
  | [d1, d2, d3] => { results := [.lit (.bool true)], args := [d1, d2, d3] }
  | _ => none }
def disputeCycleRow : OpenClaim := { program := "ytddlmcaclbkopaa", sum := "fb19fd3e8c46c8b7b888e624d6634766ea33f1ae735a94ea19999f25ef454fc8", func := "bursar/bursarlaw26.DisputeCycle", spec := "disputeCycle", unfollowed := true, recurses := true, apart := false }
def DisputeCycleSaid : Prop := disputeCycleRow.holds Try.pinned (OpenSpec.ofChange disputeCycleSpec)

/-- ITS FALSE NEIGHBOUR: 'it returns false'. Refute it at one input. -/
def disputeCycleWrong : ChangeSpec := { name := "disputeCycle", fn := fun _ => fun
  | [d1, d2, d3] => { results := [.lit (.bool false)], args := [d1, d2, d3] }
  | _ => none }
def DisputeCycleWrongFalsely : Prop := disputeCycleRow.holds Try.pinned (OpenSpec.ofChange disputeCycleWrong)

/-- 'bursarlaw23.CaptureDecides': WHATEVER THE INPUT: true; the input reads as it did. -/
def captureDecidesSpec : ChangeSpec := { name := "captureDecides", fn := fun _ => fun
  | [d] => { results := [.lit (.bool true)], args := [d] }
  | _ => none }
def captureDecidesRow : OpenClaim := { program := "ytddlmcaclbkopaa", sum := "fb19fd3e8c46c8b7b888e624d6634766ea33f1ae735a94ea19999f25ef454fc8", func := "bursar/bursarlaw23.CaptureDecides", spec := "captureDecides", unfollowed := true, recurses := true, apart := false }
def CaptureDecidesSaid : Prop := captureDecidesRow.holds Try.pinned (OpenSpec.ofChange captureDecidesSpec)

/-- ITS FALSE NEIGHBOUR: 'it returns false'. Refute it at one input. -/
def captureDecidesWrong : ChangeSpec := { name := "captureDecides", fn := fun _ => fun
  | [d] => { results := [.lit (.bool false)], args := [d] }
  | _ => none }
def CaptureDecidesWrongFalsely : Prop := captureDecidesRow.holds Try.pinned (OpenSpec.ofChange captureDecidesWrong)

/-- 'bursarlaw23.CaptureTakes': WHATEVER THE INPUT: true; the input reads as it did. -/
def captureTakesSpec : ChangeSpec := { name := "captureTakes", fn := fun _ => fun
  | [d] => { results := [.lit (.bool true)], args := [d] }
  | _ => none }
def captureTakesRow : OpenClaim := { program := "ytddlmcaclbkopaa", sum := "fb19fd3e8c46c8b7b888e624d6634766ea33f1ae735a94ea19999f25ef454fc8", func := "bursar/bursarlaw23.CaptureTakes", spec := "captureTakes", unfollowed := true, recurses := true, apart := false }
def CaptureTakesSaid : Prop := captureTakesRow.holds Try.pinned (OpenSpec.ofChange captureTakesSpec)

/-- ITS FALSE NEIGHBOUR: 'it returns false'. Refute it at one input. -/
def captureTakesWrong : ChangeSpec := { name := "captureTakes", fn := fun _ => fun
  | [d] => { results := [.lit (.bool false)], args := [d] }
  | _ => none }
def CaptureTakesWrongFalsely : Prop := captureTakesRow.holds Try.pinned (OpenSpec.ofChange captureTakesWrong)

/-- 'bursarlaw23.CaptureParts': WHATEVER THE INPUT: true; the input reads as it did. -/
def capturePartsSpec : ChangeSpec := { name := "captureParts", fn := fun _ => fun
  | [d1, d2] => { results := [.lit (.bool true)], args := [d1, d2] }
  | _ => none }
def capturePartsRow : OpenClaim := { program := "ytddlmcaclbkopaa", sum := "fb19fd3e8c46c8b7b888e624d6634766ea33f1ae735a94ea19999f25ef454fc8", func := "bursar/bursarlaw23.CaptureParts", spec := "captureParts", unfollowed := true, recurses := true, apart := false }
def CapturePartsSaid : Prop := capturePartsRow.holds Try.pinned (OpenSpec.ofChange capturePartsSpec)

/-- ITS FALSE NEIGHBOUR: 'it returns false'. Refute it at one input. -/
def capturePartsWrong : ChangeSpec := { name := "captureParts", fn := fun _ => fun
  | [d1, d2] => { results := [.lit (.bool false)], args := [d1, d2] }
  | _ => none }
def CapturePartsWrongFalsely : Prop := capturePartsRow.holds Try.pinned (OpenSpec.ofChange capturePartsWrong)

/-- 'bursarlaw23.CaptureOnce': WHATEVER THE INPUT: true; the input reads as it did. -/
def captureOnceSpec : ChangeSpec := { name := "captureOnce", fn := fun _ => fun
  | [d1, d2] => { results := [.lit (.bool true)], args := [d1, d2] }
  | _ => none }
def captureOnceRow : OpenClaim := { program := "ytddlmcaclbkopaa", sum := "fb19fd3e8c46c8b7b888e624d6634766ea33f1ae735a94ea19999f25ef454fc8", func := "bursar/bursarlaw23.CaptureOnce", spec := "captureOnce", unfollowed := true, recurses := true, apart := false }
def CaptureOnceSaid : Prop := captureOnceRow.holds Try.pinned (OpenSpec.ofChange captureOnceSpec)

/-- ITS FALSE NEIGHBOUR: 'it returns false'. Refute it at one input. -/
def captureOnceWrong : ChangeSpec := { name := "captureOnce", fn := fun _ => fun
  | [d1, d2] => { results := [.lit (.bool false)], args := [d1, d2] }
  | _ => none }
def CaptureOnceWrongFalsely : Prop := captureOnceRow.holds Try.pinned (OpenSpec.ofChange captureOnceWrong)

/-- 'bursarlaw22.AuthDecides': WHATEVER THE INPUT: true; the input reads as it did. -/
def authDecidesSpec : ChangeSpec := { name := "authDecides", fn := fun _ => fun
  | [d] => { results := [.lit (.bool true)], args := [d] }
  | _ => none }
def authDecidesRow : OpenClaim := { program := "ytddlmcaclbkopaa", sum := "fb19fd3e8c46c8b7b888e624d6634766ea33f1ae735a94ea19999f25ef454fc8", func := "bursar/bursarlaw22.AuthDecides", spec := "authDecides", inPlace := ["math/bits.Add64"], unfollowed := true, recurses := true, apart := false }
def AuthDecidesSaid : Prop := authDecidesRow.holds Try.pinned (OpenSpec.ofChange authDecidesSpec)

/-- ITS FALSE NEIGHBOUR: 'it returns false'. Refute it at one input. -/
def authDecidesWrong : ChangeSpec := { name := "authDecides", fn := fun _ => fun
  | [d] => { results := [.lit (.bool false)], args := [d] }
  | _ => none }
def AuthDecidesWrongFalsely : Prop := authDecidesRow.holds Try.pinned (OpenSpec.ofChange authDecidesWrong)

/-- 'bursarlaw22.AuthHolds': WHATEVER THE INPUT: true; the input reads as it did. -/
def authHoldsSpec : ChangeSpec := { name := "authHolds", fn := fun _ => fun
  | [d] => { results := [.lit (.bool true)], args := [d] }
  | _ => none }
def authHoldsRow : OpenClaim := { program := "ytddlmcaclbkopaa", sum := "fb19fd3e8c46c8b7b888e624d6634766ea33f1ae735a94ea19999f25ef454fc8", func := "bursar/bursarlaw22.AuthHolds", spec := "authHolds", inPlace := ["math/bits.Add64"], unfollowed := true, recurses := true, apart := false }
def AuthHoldsSaid : Prop := authHoldsRow.holds Try.pinned (OpenSpec.ofChange authHoldsSpec)

/-- ITS FALSE NEIGHBOUR: 'it returns false'. Refute it at one input. -/
def authHoldsWrong : ChangeSpec := { name := "authHolds", fn := fun _ => fun
  | [d] => { results := [.lit (.bool false)], args := [d] }
  | _ => none }
def AuthHoldsWrongFalsely : Prop := authHoldsRow.holds Try.pinned (OpenSpec.ofChange authHoldsWrong)

/-- 'bursarlaw22.AuthParts': WHATEVER THE INPUT: true; the input reads as it did. -/
def authPartsSpec : ChangeSpec := { name := "authParts", fn := fun _ => fun
  | [d1, d2, d3] => { results := [.lit (.bool true)], args := [d1, d2, d3] }
  | _ => none }
def authPartsRow : OpenClaim := { program := "ytddlmcaclbkopaa", sum := "fb19fd3e8c46c8b7b888e624d6634766ea33f1ae735a94ea19999f25ef454fc8", func := "bursar/bursarlaw22.AuthParts", spec := "authParts", inPlace := ["math/bits.Add64"], unfollowed := true, recurses := true, apart := false }
def AuthPartsSaid : Prop := authPartsRow.holds Try.pinned (OpenSpec.ofChange authPartsSpec)

/-- ITS FALSE NEIGHBOUR: 'it returns false'. Refute it at one input. -/
def authPartsWrong : ChangeSpec := { name := "authParts", fn := fun _ => fun
  | [d1, d2, d3] => { results := [.lit (.bool false)], args := [d1, d2, d3] }
  | _ => none }
def AuthPartsWrongFalsely : Prop := authPartsRow.holds Try.pinned (OpenSpec.ofChange authPartsWrong)

/-- 'bursarlaw22.AuthEarly': WHATEVER THE INPUT: true; the input reads as it did. -/
def authEarlySpec : ChangeSpec := { name := "authEarly", fn := fun _ => fun
  | [d1, d2] => { results := [.lit (.bool true)], args := [d1, d2] }
  | _ => none }
def authEarlyRow : OpenClaim := { program := "ytddlmcaclbkopaa", sum := "fb19fd3e8c46c8b7b888e624d6634766ea33f1ae735a94ea19999f25ef454fc8", func := "bursar/bursarlaw22.AuthEarly", spec := "authEarly", inPlace := ["math/bits.Add64"], unfollowed := true, recurses := true, apart := false }
def AuthEarlySaid : Prop := authEarlyRow.holds Try.pinned (OpenSpec.ofChange authEarlySpec)

/-- ITS FALSE NEIGHBOUR: 'it returns false'. Refute it at one input. -/
def authEarlyWrong : ChangeSpec := { name := "authEarly", fn := fun _ => fun
  | [d1, d2] => { results := [.lit (.bool false)], args := [d1, d2] }
  | _ => none }
def AuthEarlyWrongFalsely : Prop := authEarlyRow.holds Try.pinned (OpenSpec.ofChange authEarlyWrong)

/- THE SECOND FORM. 'bulk': how many values and letters a reading holds, each counted each time it is reached (what is shared counts as often as it is met; a slice's spare places count too). A statement '..UptoSaid' is the law's where the arguments, and the package variables that the reading takes, are together of bulk at most 1048576: NARROWER than '..Said'. Prove '..Said' where nothing that the law and all that it calls make is longer than what came in: it says more and counts as full. Else prove '..UptoSaid'. A law counts once. -/
mutual
def uptoBulk {H : Type} : DataW H → Nat
  | .lit (.string bytes) => bytes.length + 1
  | .lit _ => 1
  | .nil => 1
  | .ptr d => uptoBulk d + 1
  | .slice elems spare => uptoBulkAll elems + uptoBulkAll spare + 1
  | .agg parts => uptoBulkAll parts + 1
  | .iface _ d => uptoBulk d + 1
  | .map entries => uptoBulkEntries entries + 1
  | .held _ => 1
def uptoBulkAll {H : Type} : List (DataW H) → Nat
  | [] => 0
  | d :: r => uptoBulk d + uptoBulkAll r
def uptoBulkEntries {H : Type} : List (Lit × DataW H) → Nat
  | [] => 0
  | x :: r => uptoBulkEntry x + uptoBulkEntries r
def uptoBulkEntry {H : Type} : Lit × DataW H → Nat
  | (.string bytes, d) => bytes.length + uptoBulk d + 1
  | (_, d) => uptoBulk d + 1
 end
def uptoSmall : (H : Type) → List (DataW H) → Bool := fun _ ds => decide (uptoBulkAll ds ≤ 1048576)
def OpenSpec.upto (s : _root_.Go.ChangeSpec) : _root_.Go.OpenSpec := { _root_.Go.OpenSpec.ofChange s with cond := some uptoSmall }

/-- 'bursarlaw26.DisputeOnce', WHERE WHAT IT READS IS OF BULK AT MOST 1048576: true; the input reads as it did. -/
def disputeOnceUptoRow : OpenClaim := { program := "ytddlmcaclbkopaa", sum := "fb19fd3e8c46c8b7b888e624d6634766ea33f1ae735a94ea19999f25ef454fc8", func := "bursar/bursarlaw26.DisputeOnce", spec := "disputeOnce", unfollowed := true, recurses := true, apart := false, narrowed := true }
def DisputeOnceUptoSaid : Prop := disputeOnceUptoRow.holds Try.pinned (OpenSpec.upto disputeOnceSpec)

/-- 'bursarlaw26.DisputeDecides', WHERE WHAT IT READS IS OF BULK AT MOST 1048576: true; the input reads as it did. -/
def disputeDecidesUptoRow : OpenClaim := { program := "ytddlmcaclbkopaa", sum := "fb19fd3e8c46c8b7b888e624d6634766ea33f1ae735a94ea19999f25ef454fc8", func := "bursar/bursarlaw26.DisputeDecides", spec := "disputeDecides", unfollowed := true, recurses := true, apart := false, narrowed := true }
def DisputeDecidesUptoSaid : Prop := disputeDecidesUptoRow.holds Try.pinned (OpenSpec.upto disputeDecidesSpec)

/-- 'bursarlaw26.DisputeGoes', WHERE WHAT IT READS IS OF BULK AT MOST 1048576: true; the input reads as it did. -/
def disputeGoesUptoRow : OpenClaim := { program := "ytddlmcaclbkopaa", sum := "fb19fd3e8c46c8b7b888e624d6634766ea33f1ae735a94ea19999f25ef454fc8", func := "bursar/bursarlaw26.DisputeGoes", spec := "disputeGoes", unfollowed := true, recurses := true, apart := false, narrowed := true }
def DisputeGoesUptoSaid : Prop := disputeGoesUptoRow.holds Try.pinned (OpenSpec.upto disputeGoesSpec)

/-- 'bursarlaw26.DisputeCycle', WHERE WHAT IT READS IS OF BULK AT MOST 1048576: true; the input reads as it did. -/
def disputeCycleUptoRow : OpenClaim := { program := "ytddlmcaclbkopaa", sum := "fb19fd3e8c46c8b7b888e624d6634766ea33f1ae735a94ea19999f25ef454fc8", func := "bursar/bursarlaw26.DisputeCycle", spec := "disputeCycle", unfollowed := true, recurses := true, apart := false, narrowed := true }
def DisputeCycleUptoSaid : Prop := disputeCycleUptoRow.holds Try.pinned (OpenSpec.upto disputeCycleSpec)

/-- 'bursarlaw23.CaptureDecides', WHERE WHAT IT READS IS OF BULK AT MOST 1048576: true; the input reads as it did. -/
def captureDecidesUptoRow : OpenClaim := { program := "ytddlmcaclbkopaa", sum := "fb19fd3e8c46c8b7b888e624d6634766ea33f1ae735a94ea19999f25ef454fc8", func := "bursar/bursarlaw23.CaptureDecides", spec := "captureDecides", unfollowed := true, recurses := true, apart := false, narrowed := true }
def CaptureDecidesUptoSaid : Prop := captureDecidesUptoRow.holds Try.pinned (OpenSpec.upto captureDecidesSpec)

/-- 'bursarlaw23.CaptureTakes', WHERE WHAT IT READS IS OF BULK AT MOST 1048576: true; the input reads as it did. -/
def captureTakesUptoRow : OpenClaim := { program := "ytddlmcaclbkopaa", sum := "fb19fd3e8c46c8b7b888e624d6634766ea33f1ae735a94ea19999f25ef454fc8", func := "bursar/bursarlaw23.CaptureTakes", spec := "captureTakes", unfollowed := true, recurses := true, apart := false, narrowed := true }
def CaptureTakesUptoSaid : Prop := captureTakesUptoRow.holds Try.pinned (OpenSpec.upto captureTakesSpec)

/-- 'bursarlaw23.CaptureParts', WHERE WHAT IT READS IS OF BULK AT MOST 1048576: true; the input reads as it did. -/
def capturePartsUptoRow : OpenClaim := { program := "ytddlmcaclbkopaa", sum := "fb19fd3e8c46c8b7b888e624d6634766ea33f1ae735a94ea19999f25ef454fc8", func := "bursar/bursarlaw23.CaptureParts", spec := "captureParts", unfollowed := true, recurses := true, apart := false, narrowed := true }
def CapturePartsUptoSaid : Prop := capturePartsUptoRow.holds Try.pinned (OpenSpec.upto capturePartsSpec)

/-- 'bursarlaw23.CaptureOnce', WHERE WHAT IT READS IS OF BULK AT MOST 1048576: true; the input reads as it did. -/
def captureOnceUptoRow : OpenClaim := { program := "ytddlmcaclbkopaa", sum := "fb19fd3e8c46c8b7b888e624d6634766ea33f1ae735a94ea19999f25ef454fc8", func := "bursar/bursarlaw23.CaptureOnce", spec := "captureOnce", unfollowed := true, recurses := true, apart := false, narrowed := true }
def CaptureOnceUptoSaid : Prop := captureOnceUptoRow.holds Try.pinned (OpenSpec.upto captureOnceSpec)

/-- 'bursarlaw22.AuthDecides', WHERE WHAT IT READS IS OF BULK AT MOST 1048576: true; the input reads as it did. -/
def authDecidesUptoRow : OpenClaim := { program := "ytddlmcaclbkopaa", sum := "fb19fd3e8c46c8b7b888e624d6634766ea33f1ae735a94ea19999f25ef454fc8", func := "bursar/bursarlaw22.AuthDecides", spec := "authDecides", inPlace := ["math/bits.Add64"], unfollowed := true, recurses := true, apart := false, narrowed := true }
def AuthDecidesUptoSaid : Prop := authDecidesUptoRow.holds Try.pinned (OpenSpec.upto authDecidesSpec)

/-- 'bursarlaw22.AuthHolds', WHERE WHAT IT READS IS OF BULK AT MOST 1048576: true; the input reads as it did. -/
def authHoldsUptoRow : OpenClaim := { program := "ytddlmcaclbkopaa", sum := "fb19fd3e8c46c8b7b888e624d6634766ea33f1ae735a94ea19999f25ef454fc8", func := "bursar/bursarlaw22.AuthHolds", spec := "authHolds", inPlace := ["math/bits.Add64"], unfollowed := true, recurses := true, apart := false, narrowed := true }
def AuthHoldsUptoSaid : Prop := authHoldsUptoRow.holds Try.pinned (OpenSpec.upto authHoldsSpec)

/-- 'bursarlaw22.AuthParts', WHERE WHAT IT READS IS OF BULK AT MOST 1048576: true; the input reads as it did. -/
def authPartsUptoRow : OpenClaim := { program := "ytddlmcaclbkopaa", sum := "fb19fd3e8c46c8b7b888e624d6634766ea33f1ae735a94ea19999f25ef454fc8", func := "bursar/bursarlaw22.AuthParts", spec := "authParts", inPlace := ["math/bits.Add64"], unfollowed := true, recurses := true, apart := false, narrowed := true }
def AuthPartsUptoSaid : Prop := authPartsUptoRow.holds Try.pinned (OpenSpec.upto authPartsSpec)

/-- 'bursarlaw22.AuthEarly', WHERE WHAT IT READS IS OF BULK AT MOST 1048576: true; the input reads as it did. -/
def authEarlyUptoRow : OpenClaim := { program := "ytddlmcaclbkopaa", sum := "fb19fd3e8c46c8b7b888e624d6634766ea33f1ae735a94ea19999f25ef454fc8", func := "bursar/bursarlaw22.AuthEarly", spec := "authEarly", inPlace := ["math/bits.Add64"], unfollowed := true, recurses := true, apart := false, narrowed := true }
def AuthEarlyUptoSaid : Prop := authEarlyUptoRow.holds Try.pinned (OpenSpec.upto authEarlySpec)

end Rows
end Go.Proofs.Ytddlmcaclbkopaa
