/-
  No cell of these rows narrows 'for every input' (looked for: loops, veiled, ifaces, maps, wideKeys, modest, calm, conditions, laid).
  DERIVED. THE GIVEN ROWS OF THIS SEAT. 3 by the template 'for every input the law returns true; each argument reads behind the call as it read before'; 0 by the template 'total and deterministic' (their statements: YtaifcadnnmicnaaTotals.lean).
  GIVEN WITH THE SEED: the statements are not yours to turn. If you find one false, say at which input.
  Laid BY PROGRAM, IN A SANDBOX (cutbox-rows.mjs): the forced cells as the released guide's own fill.sh prints them over the translation d345d9923efe6d82… (all of the seat's roots in one cut). By AI agents, Wed Nov 11 2026. No macro, syntax, notation, axiom, sorry.
-/
import Derived.Test.YtaifcadnnmicnaaChecked
import GoSem.Claim
import GoSem.ClaimJoined
import GoSem.ClaimMapViews
import Derived.JoinedTies
import Derived.KernelRfl
namespace Go.Proofs.Ytaifcadnnmicnaa
/- THE CELL 'sum', in the pinned program and in every row, IS THE sha256 OF THE DUMP (.gsa) THAT YtaifcadnnmicnaaProg.lean LOADS. Nothing in Lean hashes anything: it is a label: what it is worth is what the hold of that sum in a sandbox is worth. -/
noncomputable def Try.pinned : Pinned := { name := "ytaifcadnnmicnaa", sum := "d345d9923efe6d82e1ea2bedfbaaaf8c1a41436121a6c716a92ceb0ccb1b6b4d", checked := Try.checked }
namespace Rows
def none {H : Type} : Left H := { results := [], args := [] }

/-- 'bursarlaw15.ExpiryFirst': WHATEVER THE INPUT: true; the input reads as it did. -/
def expiryFirstSpec : ChangeSpec := { name := "expiryFirst", fn := fun _ => fun
  | [d1, d2] => { results := [.lit (.bool true)], args := [d1, d2] }
  | _ => none }
def expiryFirstRow : OpenClaim := { program := "ytaifcadnnmicnaa", sum := "d345d9923efe6d82e1ea2bedfbaaaf8c1a41436121a6c716a92ceb0ccb1b6b4d", func := "bursar/bursarlaw15.ExpiryFirst", spec := "expiryFirst", unfollowed := true, recurses := true, apart := false }
def ExpiryFirstSaid : Prop := expiryFirstRow.holds Try.pinned (OpenSpec.ofChange expiryFirstSpec)

/-- ITS FALSE NEIGHBOUR: 'it returns false'. Refute it at one input. -/
def expiryFirstWrong : ChangeSpec := { name := "expiryFirst", fn := fun _ => fun
  | [d1, d2] => { results := [.lit (.bool false)], args := [d1, d2] }
  | _ => none }
def ExpiryFirstWrongFalsely : Prop := expiryFirstRow.holds Try.pinned (OpenSpec.ofChange expiryFirstWrong)

/-- 'bursarlaw15.ExpiryLapses': WHATEVER THE INPUT: true; the input reads as it did. -/
def expiryLapsesSpec : ChangeSpec := { name := "expiryLapses", fn := fun _ => fun
  | [d1, d2] => { results := [.lit (.bool true)], args := [d1, d2] }
  | _ => none }
def expiryLapsesRow : OpenClaim := { program := "ytaifcadnnmicnaa", sum := "d345d9923efe6d82e1ea2bedfbaaaf8c1a41436121a6c716a92ceb0ccb1b6b4d", func := "bursar/bursarlaw15.ExpiryLapses", spec := "expiryLapses", unfollowed := true, recurses := true, apart := false }
def ExpiryLapsesSaid : Prop := expiryLapsesRow.holds Try.pinned (OpenSpec.ofChange expiryLapsesSpec)

/-- ITS FALSE NEIGHBOUR: 'it returns false'. Refute it at one input. -/
def expiryLapsesWrong : ChangeSpec := { name := "expiryLapses", fn := fun _ => fun
  | [d1, d2] => { results := [.lit (.bool false)], args := [d1, d2] }
  | _ => none }
def ExpiryLapsesWrongFalsely : Prop := expiryLapsesRow.holds Try.pinned (OpenSpec.ofChange expiryLapsesWrong)

/-- 'bursarlaw15.ExpiryGoes': WHATEVER THE INPUT: true; the input reads as it did. -/
def expiryGoesSpec : ChangeSpec := { name := "expiryGoes", fn := fun _ => fun
  | [d1, d2, d3] => { results := [.lit (.bool true)], args := [d1, d2, d3] }
  | _ => none }
def expiryGoesRow : OpenClaim := { program := "ytaifcadnnmicnaa", sum := "d345d9923efe6d82e1ea2bedfbaaaf8c1a41436121a6c716a92ceb0ccb1b6b4d", func := "bursar/bursarlaw15.ExpiryGoes", spec := "expiryGoes", unfollowed := true, recurses := true, apart := false }
def ExpiryGoesSaid : Prop := expiryGoesRow.holds Try.pinned (OpenSpec.ofChange expiryGoesSpec)

/-- ITS FALSE NEIGHBOUR: 'it returns false'. Refute it at one input. -/
def expiryGoesWrong : ChangeSpec := { name := "expiryGoes", fn := fun _ => fun
  | [d1, d2, d3] => { results := [.lit (.bool false)], args := [d1, d2, d3] }
  | _ => none }
def ExpiryGoesWrongFalsely : Prop := expiryGoesRow.holds Try.pinned (OpenSpec.ofChange expiryGoesWrong)

/- THE SECOND FORM. 'bulk': how many values and letters a reading holds, each counted each time it is reached (what is shared counts as often as it is met; a slice's spare places count too). A statement '..UptoSaid' is the law's where the arguments, and the package variables that the reading takes, are together of bulk at most 1048576: NARROWER than '..Said'. Prove '..Said' where nothing that the law and all that it calls make is longer than what came in: it says more and counts as full. Else prove '..UptoSaid'. A law counts once. -/
mutual
def uptoBulk {H : Type} : DataW H → Nat
  | .lit (.string bytes) => bytes.length + 1
  | .lit _ => 1
  | .nil => 1
  | .ptr d => uptoBulk d + 1
  | .slice elems spare => uptoBulkAll elems + uptoBulkAll spare + 1
  | .agg parts => uptoBulkAll parts + 1
  | .iface _ d => uptoBulk d + 1
  | .map entries => uptoBulkEntries entries + 1
  | .held _ => 1
def uptoBulkAll {H : Type} : List (DataW H) → Nat
  | [] => 0
  | d :: r => uptoBulk d + uptoBulkAll r
def uptoBulkEntries {H : Type} : List (Lit × DataW H) → Nat
  | [] => 0
  | x :: r => uptoBulkEntry x + uptoBulkEntries r
def uptoBulkEntry {H : Type} : Lit × DataW H → Nat
  | (.string bytes, d) => bytes.length + uptoBulk d + 1
  | (_, d) => uptoBulk d + 1
 end
def uptoSmall : (H : Type) → List (DataW H) → Bool := fun _ ds => decide (uptoBulkAll ds ≤ 1048576)
def OpenSpec.upto (s : _root_.Go.ChangeSpec) : _root_.Go.OpenSpec := { _root_.Go.OpenSpec.ofChange s with cond := some uptoSmall }

/-- 'bursarlaw15.ExpiryFirst', WHERE WHAT IT READS IS OF BULK AT MOST 1048576: true; the input reads as it did. -/
def expiryFirstUptoRow : OpenClaim := { program := "ytaifcadnnmicnaa", sum := "d345d9923efe6d82e1ea2bedfbaaaf8c1a41436121a6c716a92ceb0ccb1b6b4d", func := "bursar/bursarlaw15.ExpiryFirst", spec := "expiryFirst", unfollowed := true, recurses := true, apart := false, narrowed := true }
def ExpiryFirstUptoSaid : Prop := expiryFirstUptoRow.holds Try.pinned (OpenSpec.upto expiryFirstSpec)

/-- 'bursarlaw15.ExpiryLapses', WHERE WHAT IT READS IS OF BULK AT MOST 1048576: true; the input reads as it did. -/
def expiryLapsesUptoRow : OpenClaim := { program := "ytaifcadnnmicnaa", sum := "d345d9923efe6d82e1ea2bedfbaaaf8c1a41436121a6c716a92ceb0ccb1b6b4d", func := "bursar/bursarlaw15.ExpiryLapses", spec := "expiryLapses", unfollowed := true, recurses := true, apart := false, narrowed := true }
def ExpiryLapsesUptoSaid : Prop := expiryLapsesUptoRow.holds Try.pinned (OpenSpec.upto expiryLapsesSpec)

/-- 'bursarlaw15.ExpiryGoes', WHERE WHAT IT READS IS OF BULK AT MOST 1048576: true; the input reads as it did. -/
def expiryGoesUptoRow : OpenClaim := { program := "ytaifcadnnmicnaa", sum := "d345d9923efe6d82e1ea2bedfbaaaf8c1a41436121a6c716a92ceb0ccb1b6b4d", func := "bursar/bursarlaw15.ExpiryGoes", spec := "expiryGoes", unfollowed := true, recurses := true, apart := false, narrowed := true }
def ExpiryGoesUptoSaid : Prop := expiryGoesUptoRow.holds Try.pinned (OpenSpec.upto expiryGoesSpec)

end Rows
end Go.Proofs.Ytaifcadnnmicnaa
