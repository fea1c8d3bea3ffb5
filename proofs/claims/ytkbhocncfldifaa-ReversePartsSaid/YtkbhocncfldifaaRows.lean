/-
  No cell of these rows narrows 'for every input' (looked for: loops, veiled, ifaces, maps, wideKeys, modest, calm, conditions, laid).
  DERIVED. THE GIVEN ROWS OF THIS SEAT. 11 by the template 'for every input the law returns true; each argument reads behind the call as it read before'; 0 by the template 'total and deterministic' (their statements: YtkbhocncfldifaaTotals.lean).
  GIVEN WITH THE SEED: the statements are not yours to turn. If you find one false, say at which input.
  Laid BY PROGRAM, IN A SANDBOX (cutbox-rows.mjs): the forced cells as the released guide's own fill.sh prints them over the translation cf0c4aeafe0be776… (all of the seat's roots in one cut). By AI agents, Wed Nov 11 2026. No macro, syntax, notation, axiom, sorry.
-/
import Derived.Test.YtkbhocncfldifaaChecked
import GoSem.Claim
import GoSem.ClaimJoined
import GoSem.ClaimMapViews
import Derived.JoinedTies
import Derived.KernelRfl
namespace Go.Proofs.Ytkbhocncfldifaa
/- THE CELL 'sum', in the pinned program and in every row, IS THE sha256 OF THE DUMP (.gsa) THAT YtkbhocncfldifaaProg.lean LOADS. Nothing in Lean hashes anything: it is a label: what it is worth is what the hold of that sum in a sandbox is worth. -/
noncomputable def Try.pinned : Pinned := { name := "ytkbhocncfldifaa", sum := "cf0c4aeafe0be77632a4133bd862afa7b1ff3f03b8dded6c915e7b0b1c93be96", checked := Try.checked }
namespace Rows
def none {H : Type} : Left H := { results := [], args := [] }

/-- 'bursarlaw11.ChartNames': WHATEVER THE INPUT: true; the input reads as it did. -/
def chartNamesSpec : ChangeSpec := { name := "chartNames", fn := fun _ => fun
  | [d] => { results := [.lit (.bool true)], args := [d] }
  | _ => none }
def chartNamesRow : OpenClaim := { program := "ytkbhocncfldifaa", sum := "cf0c4aeafe0be77632a4133bd862afa7b1ff3f03b8dded6c915e7b0b1c93be96", func := "bursar/bursarlaw11.ChartNames", spec := "chartNames", unfollowed := true, recurses := true, apart := false }
def ChartNamesSaid : Prop := chartNamesRow.holds Try.pinned (OpenSpec.ofChange chartNamesSpec)

/-- ITS FALSE NEIGHBOUR: 'it returns false'. Refute it at one input. -/
def chartNamesWrong : ChangeSpec := { name := "chartNames", fn := fun _ => fun
  | [d] => { results := [.lit (.bool false)], args := [d] }
  | _ => none }
def ChartNamesWrongFalsely : Prop := chartNamesRow.holds Try.pinned (OpenSpec.ofChange chartNamesWrong)

/-- 'bursarlaw11.ChartParses': WHATEVER THE INPUT: true; the input reads as it did. -/
def chartParsesSpec : ChangeSpec := { name := "chartParses", fn := fun _ => fun
  | [d] => { results := [.lit (.bool true)], args := [d] }
  | _ => none }
def chartParsesRow : OpenClaim := { program := "ytkbhocncfldifaa", sum := "cf0c4aeafe0be77632a4133bd862afa7b1ff3f03b8dded6c915e7b0b1c93be96", func := "bursar/bursarlaw11.ChartParses", spec := "chartParses", unfollowed := true, recurses := true, apart := false }
def ChartParsesSaid : Prop := chartParsesRow.holds Try.pinned (OpenSpec.ofChange chartParsesSpec)

/-- ITS FALSE NEIGHBOUR: 'it returns false'. Refute it at one input. -/
def chartParsesWrong : ChangeSpec := { name := "chartParses", fn := fun _ => fun
  | [d] => { results := [.lit (.bool false)], args := [d] }
  | _ => none }
def ChartParsesWrongFalsely : Prop := chartParsesRow.holds Try.pinned (OpenSpec.ofChange chartParsesWrong)

/-- 'bursarlaw11.ChartApart': WHATEVER THE INPUT: true; the input reads as it did. -/
def chartApartSpec : ChangeSpec := { name := "chartApart", fn := fun _ => fun
  | [d1, d2] => { results := [.lit (.bool true)], args := [d1, d2] }
  | _ => none }
def chartApartRow : OpenClaim := { program := "ytkbhocncfldifaa", sum := "cf0c4aeafe0be77632a4133bd862afa7b1ff3f03b8dded6c915e7b0b1c93be96", func := "bursar/bursarlaw11.ChartApart", spec := "chartApart", unfollowed := true, recurses := true, apart := false }
def ChartApartSaid : Prop := chartApartRow.holds Try.pinned (OpenSpec.ofChange chartApartSpec)

/-- ITS FALSE NEIGHBOUR: 'it returns false'. Refute it at one input. -/
def chartApartWrong : ChangeSpec := { name := "chartApart", fn := fun _ => fun
  | [d1, d2] => { results := [.lit (.bool false)], args := [d1, d2] }
  | _ => none }
def ChartApartWrongFalsely : Prop := chartApartRow.holds Try.pinned (OpenSpec.ofChange chartApartWrong)

/-- 'bursarlaw21.DupKeeps': WHATEVER THE INPUT: true; the input reads as it did. -/
def dupKeepsSpec : ChangeSpec := { name := "dupKeeps", fn := fun _ => fun
  | [d1, d2, d3] => { results := [.lit (.bool true)], args := [d1, d2, d3] }
  | _ => none }
def dupKeepsRow : OpenClaim := { program := "ytkbhocncfldifaa", sum := "cf0c4aeafe0be77632a4133bd862afa7b1ff3f03b8dded6c915e7b0b1c93be96", func := "bursar/bursarlaw21.DupKeeps", spec := "dupKeeps", unfollowed := true, recurses := true, apart := false }
def DupKeepsSaid : Prop := dupKeepsRow.holds Try.pinned (OpenSpec.ofChange dupKeepsSpec)

/-- ITS FALSE NEIGHBOUR: 'it returns false'. Refute it at one input. -/
def dupKeepsWrong : ChangeSpec := { name := "dupKeeps", fn := fun _ => fun
  | [d1, d2, d3] => { results := [.lit (.bool false)], args := [d1, d2, d3] }
  | _ => none }
def DupKeepsWrongFalsely : Prop := dupKeepsRow.holds Try.pinned (OpenSpec.ofChange dupKeepsWrong)

/-- 'bursarlaw21.DupSweeps': WHATEVER THE INPUT: true; the input reads as it did. -/
def dupSweepsSpec : ChangeSpec := { name := "dupSweeps", fn := fun _ => fun
  | [d1, d2, d3] => { results := [.lit (.bool true)], args := [d1, d2, d3] }
  | _ => none }
def dupSweepsRow : OpenClaim := { program := "ytkbhocncfldifaa", sum := "cf0c4aeafe0be77632a4133bd862afa7b1ff3f03b8dded6c915e7b0b1c93be96", func := "bursar/bursarlaw21.DupSweeps", spec := "dupSweeps", unfollowed := true, recurses := true, apart := false }
def DupSweepsSaid : Prop := dupSweepsRow.holds Try.pinned (OpenSpec.ofChange dupSweepsSpec)

/-- ITS FALSE NEIGHBOUR: 'it returns false'. Refute it at one input. -/
def dupSweepsWrong : ChangeSpec := { name := "dupSweeps", fn := fun _ => fun
  | [d1, d2, d3] => { results := [.lit (.bool false)], args := [d1, d2, d3] }
  | _ => none }
def DupSweepsWrongFalsely : Prop := dupSweepsRow.holds Try.pinned (OpenSpec.ofChange dupSweepsWrong)

/-- 'bursarlaw21.DupFinds': WHATEVER THE INPUT: true; the input reads as it did. -/
def dupFindsSpec : ChangeSpec := { name := "dupFinds", fn := fun _ => fun
  | [d1, d2, d3] => { results := [.lit (.bool true)], args := [d1, d2, d3] }
  | _ => none }
def dupFindsRow : OpenClaim := { program := "ytkbhocncfldifaa", sum := "cf0c4aeafe0be77632a4133bd862afa7b1ff3f03b8dded6c915e7b0b1c93be96", func := "bursar/bursarlaw21.DupFinds", spec := "dupFinds", unfollowed := true, recurses := true, apart := false }
def DupFindsSaid : Prop := dupFindsRow.holds Try.pinned (OpenSpec.ofChange dupFindsSpec)

/-- ITS FALSE NEIGHBOUR: 'it returns false'. Refute it at one input. -/
def dupFindsWrong : ChangeSpec := { name := "dupFinds", fn := fun _ => fun
  | [d1, d2, d3] => { results := [.lit (.bool false)], args := [d1, d2, d3] }
  | _ => none }
def DupFindsWrongFalsely : Prop := dupFindsRow.holds Try.pinned (OpenSpec.ofChange dupFindsWrong)

/-- 'bursarlaw21.DupLists': WHATEVER THE INPUT: true; the input reads as it did. -/
def dupListsSpec : ChangeSpec := { name := "dupLists", fn := fun _ => fun
  | [d] => { results := [.lit (.bool true)], args := [d] }
  | _ => none }
def dupListsRow : OpenClaim := { program := "ytkbhocncfldifaa", sum := "cf0c4aeafe0be77632a4133bd862afa7b1ff3f03b8dded6c915e7b0b1c93be96", func := "bursar/bursarlaw21.DupLists", spec := "dupLists", unfollowed := true, recurses := true, apart := false }
def DupListsSaid : Prop := dupListsRow.holds Try.pinned (OpenSpec.ofChange dupListsSpec)

/-- ITS FALSE NEIGHBOUR: 'it returns false'. Refute it at one input. -/
def dupListsWrong : ChangeSpec := { name := "dupLists", fn := fun _ => fun
  | [d] => { results := [.lit (.bool false)], args := [d] }
  | _ => none }
def DupListsWrongFalsely : Prop := dupListsRow.holds Try.pinned (OpenSpec.ofChange dupListsWrong)

/-- 'bursarlaw24.ReverseDecides': WHATEVER THE INPUT: true; the input reads as it did. -/
def reverseDecidesSpec : ChangeSpec := { name := "reverseDecides", fn := fun _ => fun
  | [d] => { results := [.lit (.bool true)], args := [d] }
  | _ => none }
def reverseDecidesRow : OpenClaim := { program := "ytkbhocncfldifaa", sum := "cf0c4aeafe0be77632a4133bd862afa7b1ff3f03b8dded6c915e7b0b1c93be96", func := "bursar/bursarlaw24.ReverseDecides", spec := "reverseDecides", unfollowed := true, recurses := true, apart := false }
def ReverseDecidesSaid : Prop := reverseDecidesRow.holds Try.pinned (OpenSpec.ofChange reverseDecidesSpec)

/-- ITS FALSE NEIGHBOUR: 'it returns false'. Refute it at one input. -/
def reverseDecidesWrong : ChangeSpec := { name := "reverseDecides", fn := fun _ => fun
  | [d] => { results := [.lit (.bool false)], args := [d] }
  | _ => none }
def ReverseDecidesWrongFalsely : Prop := reverseDecidesRow.holds Try.pinned (OpenSpec.ofChange reverseDecidesWrong)

/-- 'bursarlaw24.ReverseLess': WHATEVER THE INPUT: true; the input reads as it did. -/
def reverseLessSpec : ChangeSpec := { name := "reverseLess", fn := fun _ => fun
  | [d] => { results := [.lit (.bool true)], args := [d] }
  | _ => none }
def reverseLessRow : OpenClaim := { program := "ytkbhocncfldifaa", sum := "cf0c4aeafe0be77632a4133bd862afa7b1ff3f03b8dded6c915e7b0b1c93be96", func := "bursar/bursarlaw24.ReverseLess", spec := "reverseLess", unfollowed := true, recurses := true, apart := false }
def ReverseLessSaid : Prop := reverseLessRow.holds Try.pinned (OpenSpec.ofChange reverseLessSpec)

/-- ITS FALSE NEIGHBOUR: 'it returns false'. Refute it at one input. -/
def reverseLessWrong : ChangeSpec := { name := "reverseLess", fn := fun _ => fun
  | [d] => { results := [.lit (.bool false)], args := [d] }
  | _ => none }
def ReverseLessWrongFalsely : Prop := reverseLessRow.holds Try.pinned (OpenSpec.ofChange reverseLessWrong)

/-- 'bursarlaw24.ReverseParts': WHATEVER THE INPUT: true; the input reads as it did. -/
def reversePartsSpec : ChangeSpec := { name := "reverseParts", fn := fun _ => fun
  | [d1, d2, d3] => { results := [.lit (.bool true)], args := [d1, d2, d3] }
  | _ => none }
def reversePartsRow : OpenClaim := { program := "ytkbhocncfldifaa", sum := "cf0c4aeafe0be77632a4133bd862afa7b1ff3f03b8dded6c915e7b0b1c93be96", func := "bursar/bursarlaw24.ReverseParts", spec := "reverseParts", unfollowed := true, recurses := true, apart := false }
def ReversePartsSaid : Prop := reversePartsRow.holds Try.pinned (OpenSpec.ofChange reversePartsSpec)

/-- ITS FALSE NEIGHBOUR: 'it returns false'. Refute it at one input. -/
def reversePartsWrong : ChangeSpec := { name := "reverseParts", fn := fun _ => fun
  | [d1, d2, d3] => { results := [.lit (.bool false)], args := [d1, d2, d3] }
  | _ => none }
def ReversePartsWrongFalsely : Prop := reversePartsRow.holds Try.pinned (OpenSpec.ofChange reversePartsWrong)

/-- 'bursarlaw24.ReverseAhead': WHATEVER THE INPUT: true; the input reads as it did. -/
def reverseAheadSpec : ChangeSpec := { name := "reverseAhead", fn := fun _ => fun
  | [d] => { results := [.lit (.bool true)], args := [d] }
  | _ => none }
def reverseAheadRow : OpenClaim := { program := "ytkbhocncfldifaa", sum := "cf0c4aeafe0be77632a4133bd862afa7b1ff3f03b8dded6c915e7b0b1c93be96", func := "bursar/bursarlaw24.ReverseAhead", spec := "reverseAhead", unfollowed := true, recurses := true, apart := false }
def ReverseAheadSaid : Prop := reverseAheadRow.holds Try.pinned (OpenSpec.ofChange reverseAheadSpec)

/-- ITS FALSE NEIGHBOUR: 'it returns false'. Refute it at one input. -/
def reverseAheadWrong : ChangeSpec := { name := "reverseAhead", fn := fun _ => fun
  | [d] => { results := [.lit (.bool false)], args := [d] }
  | _ => none }
def ReverseAheadWrongFalsely : Prop := reverseAheadRow.holds Try.pinned (OpenSpec.ofChange reverseAheadWrong)

/- THE SECOND FORM. 'bulk': how many values and letters a reading holds, each counted each time it is reached (what is shared counts as often as it is met; a slice's spare places count too). A statement '..UptoSaid' is the law's where the arguments, and the package variables that the reading takes, are together of bulk at most 1048576: NARROWER than '..Said'. Prove '..Said' where nothing that the law and all that it calls make is longer than what came in: it says more and counts as full. Else prove '..UptoSaid'. A law counts once. -/
mutual
def uptoBulk {H : Type} : DataW H → Nat
  | .lit (.string bytes) => bytes.length + 1
  | .lit _ => 1
  | .nil => 1
  | .ptr d => uptoBulk d + 1
  | .slice elems spare => uptoBulkAll elems + uptoBulkAll spare + 1
  | .agg parts => uptoBulkAll parts + 1
  | .iface _ d => uptoBulk d + 1
  | .map entries => uptoBulkEntries entries + 1
  | .held _ => 1
def uptoBulkAll {H : Type} : List (DataW H) → Nat
  | [] => 0
  | d :: r => uptoBulk d + uptoBulkAll r
def uptoBulkEntries {H : Type} : List (Lit × DataW H) → Nat
  | [] => 0
  | x :: r => uptoBulkEntry x + uptoBulkEntries r
def uptoBulkEntry {H : Type} : Lit × DataW H → Nat
  | (.string bytes, d) => bytes.length + uptoBulk d + 1
  | (_, d) => uptoBulk d + 1
 end
def uptoSmall : (H : Type) → List (DataW H) → Bool := fun _ ds => decide (uptoBulkAll ds ≤ 1048576)
def OpenSpec.upto (s : _root_.Go.ChangeSpec) : _root_.Go.OpenSpec := { _root_.Go.OpenSpec.ofChange s with cond := some uptoSmall }

/-- 'bursarlaw11.ChartNames', WHERE WHAT IT READS IS OF BULK AT MOST 1048576: true; the input reads as it did. -/
def chartNamesUptoRow : OpenClaim := { program := "ytkbhocncfldifaa", sum := "cf0c4aeafe0be77632a4133bd862afa7b1ff3f03b8dded6c915e7b0b1c93be96", func := "bursar/bursarlaw11.ChartNames", spec := "chartNames", unfollowed := true, recurses := true, apart := false, narrowed := true }
def ChartNamesUptoSaid : Prop := chartNamesUptoRow.holds Try.pinned (OpenSpec.upto chartNamesSpec)

/-- 'bursarlaw11.ChartParses', WHERE WHAT IT READS IS OF BULK AT MOST 1048576: true; the input reads as it did. -/
def chartParsesUptoRow : OpenClaim := { program := "ytkbhocncfldifaa", sum := "cf0c4aeafe0be77632a4133bd862afa7b1ff3f03b8dded6c915e7b0b1c93be96", func := "bursar/bursarlaw11.ChartParses", spec := "chartParses", unfollowed := true, recurses := true, apart := false, narrowed := true }
def ChartParsesUptoSaid : Prop := chartParsesUptoRow.holds Try.pinned (OpenSpec.upto chartParsesSpec)

/-- 'bursarlaw11.ChartApart', WHERE WHAT IT READS IS OF BULK AT MOST 1048576: true; the input reads as it did. -/
def chartApartUptoRow : OpenClaim := { program := "ytkbhocncfldifaa", sum := "cf0c4aeafe0be77632a4133bd862afa7b1ff3f03b8dded6c915e7b0b1c93be96", func := "bursar/bursarlaw11.ChartApart", spec := "chartApart", unfollowed := true, recurses := true, apart := false, narrowed := true }
def ChartApartUptoSaid : Prop := chartApartUptoRow.holds Try.pinned (OpenSpec.upto chartApartSpec)

/-- 'bursarlaw21.DupKeeps', WHERE WHAT IT READS IS OF BULK AT MOST 1048576: true; the input reads as it did. -/
def dupKeepsUptoRow : OpenClaim := { program := "ytkbhocncfldifaa", sum := "cf0c4aeafe0be77632a4133bd862afa7b1ff3f03b8dded6c915e7b0b1c93be96", func := "bursar/bursarlaw21.DupKeeps", spec := "dupKeeps", unfollowed := true, recurses := true, apart := false, narrowed := true }
def DupKeepsUptoSaid : Prop := dupKeepsUptoRow.holds Try.pinned (OpenSpec.upto dupKeepsSpec)

/-- 'bursarlaw21.DupSweeps', WHERE WHAT IT READS IS OF BULK AT MOST 1048576: true; the input reads as it did. -/
def dupSweepsUptoRow : OpenClaim := { program := "ytkbhocncfldifaa", sum := "cf0c4aeafe0be77632a4133bd862afa7b1ff3f03b8dded6c915e7b0b1c93be96", func := "bursar/bursarlaw21.DupSweeps", spec := "dupSweeps", unfollowed := true, recurses := true, apart := false, narrowed := true }
def DupSweepsUptoSaid : Prop := dupSweepsUptoRow.holds Try.pinned (OpenSpec.upto dupSweepsSpec)

/-- 'bursarlaw21.DupFinds', WHERE WHAT IT READS IS OF BULK AT MOST 1048576: true; the input reads as it did. -/
def dupFindsUptoRow : OpenClaim := { program := "ytkbhocncfldifaa", sum := "cf0c4aeafe0be77632a4133bd862afa7b1ff3f03b8dded6c915e7b0b1c93be96", func := "bursar/bursarlaw21.DupFinds", spec := "dupFinds", unfollowed := true, recurses := true, apart := false, narrowed := true }
def DupFindsUptoSaid : Prop := dupFindsUptoRow.holds Try.pinned (OpenSpec.upto dupFindsSpec)

/-- 'bursarlaw21.DupLists', WHERE WHAT IT READS IS OF BULK AT MOST 1048576: true; the input reads as it did. -/
def dupListsUptoRow : OpenClaim := { program := "ytkbhocncfldifaa", sum := "cf0c4aeafe0be77632a4133bd862afa7b1ff3f03b8dded6c915e7b0b1c93be96", func := "bursar/bursarlaw21.DupLists", spec := "dupLists", unfollowed := true, recurses := true, apart := false, narrowed := true }
def DupListsUptoSaid : Prop := dupListsUptoRow.holds Try.pinned (OpenSpec.upto dupListsSpec)

/-- 'bursarlaw24.ReverseDecides', WHERE WHAT IT READS IS OF BULK AT MOST 1048576: true; the input reads as it did. -/
def reverseDecidesUptoRow : OpenClaim := { program := "ytkbhocncfldifaa", sum := "cf0c4aeafe0be77632a4133bd862afa7b1ff3f03b8dded6c915e7b0b1c93be96", func := "bursar/bursarlaw24.ReverseDecides", spec := "reverseDecides", unfollowed := true, recurses := true, apart := false, narrowed := true }
def ReverseDecidesUptoSaid : Prop := reverseDecidesUptoRow.holds Try.pinned (OpenSpec.upto reverseDecidesSpec)

/-- 'bursarlaw24.ReverseLess', WHERE WHAT IT READS IS OF BULK AT MOST 1048576: true; the input reads as it did. -/
def reverseLessUptoRow : OpenClaim := { program := "ytkbhocncfldifaa", sum := "cf0c4aeafe0be77632a4133bd862afa7b1ff3f03b8dded6c915e7b0b1c93be96", func := "bursar/bursarlaw24.ReverseLess", spec := "reverseLess", unfollowed := true, recurses := true, apart := false, narrowed := true }
def ReverseLessUptoSaid : Prop := reverseLessUptoRow.holds Try.pinned (OpenSpec.upto reverseLessSpec)

/-- 'bursarlaw24.ReverseParts', WHERE WHAT IT READS IS OF BULK AT MOST 1048576: true; the input reads as it did. -/
def reversePartsUptoRow : OpenClaim := { program := "ytkbhocncfldifaa", sum := "cf0c4aeafe0be77632a4133bd862afa7b1ff3f03b8dded6c915e7b0b1c93be96", func := "bursar/bursarlaw24.ReverseParts", spec := "reverseParts", unfollowed := true, recurses := true, apart := false, narrowed := true }
def ReversePartsUptoSaid : Prop := reversePartsUptoRow.holds Try.pinned (OpenSpec.upto reversePartsSpec)

/-- 'bursarlaw24.ReverseAhead', WHERE WHAT IT READS IS OF BULK AT MOST 1048576: true; the input reads as it did. -/
def reverseAheadUptoRow : OpenClaim := { program := "ytkbhocncfldifaa", sum := "cf0c4aeafe0be77632a4133bd862afa7b1ff3f03b8dded6c915e7b0b1c93be96", func := "bursar/bursarlaw24.ReverseAhead", spec := "reverseAhead", unfollowed := true, recurses := true, apart := false, narrowed := true }
def ReverseAheadUptoSaid : Prop := reverseAheadUptoRow.holds Try.pinned (OpenSpec.upto reverseAheadSpec)

end Rows
end Go.Proofs.Ytkbhocncfldifaa
