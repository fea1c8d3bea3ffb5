/-
  No cell of these rows narrows 'for every input' (looked for: loops, veiled, ifaces, maps, wideKeys, modest, calm, conditions, laid).
  DERIVED. THE GIVEN ROWS OF THIS SEAT. 4 by the template 'for every input the law returns true; each argument reads behind the call as it read before'; 0 by the template 'total and deterministic' (their statements: YtmmkiihmdidkpaaTotals.lean).
  GIVEN WITH THE SEED: the statements are not yours to turn. If you find one false, say at which input.
  Laid BY PROGRAM, IN A SANDBOX (cutbox-rows.mjs): the forced cells as the released guide's own fill.sh prints them over the translation 8c06971a8b150650… (all of the seat's roots in one cut). By AI agents, Wed Nov 11 2026. No macro, syntax, notation, axiom, sorry.
-/
import Derived.Test.YtmmkiihmdidkpaaChecked
import GoSem.Claim
import GoSem.ClaimJoined
import GoSem.ClaimMapViews
import Derived.JoinedTies
import Derived.KernelRfl
namespace Go.Proofs.Ytmmkiihmdidkpaa
/- THE CELL 'sum', in the pinned program and in every row, IS THE sha256 OF THE DUMP (.gsa) THAT YtmmkiihmdidkpaaProg.lean LOADS. Nothing in Lean hashes anything: it is a label: what it is worth is what the hold of that sum in a sandbox is worth. -/
noncomputable def Try.pinned : Pinned := { name := "ytmmkiihmdidkpaa", sum := "8c06971a8b15065070802c6a91685e1bb494d6e983afb1766d287d75fd086b8b", checked := Try.checked }
namespace Rows
def none {H : Type} : Left H := { results := [], args := [] }

/-- 'bursarlaw21.DupKeeps': WHATEVER THE INPUT: true; the input reads as it did. -/
def dupKeepsSpec : ChangeSpec := { name := "dupKeeps", fn := fun _ => fun
  | [d1, d2, d3] => { results := [.lit (.bool true)], args := [d1, d2, d3] }
  | _ => none }
def dupKeepsRow : OpenClaim := { program := "ytmmkiihmdidkpaa", sum := "8c06971a8b15065070802c6a91685e1bb494d6e983afb1766d287d75fd086b8b", func := "bursar/bursarlaw21.DupKeeps", spec := "dupKeeps", unfollowed := true, recurses := true, apart := false }
def DupKeepsSaid : Prop := dupKeepsRow.holds Try.pinned (OpenSpec.ofChange dupKeepsSpec)

/-- ITS FALSE NEIGHBOUR: 'it returns false'. Refute it at one input. -/
def dupKeepsWrong : ChangeSpec := { name := "dupKeeps", fn := fun _ => fun
  | [d1, d2, d3] => { results := [.lit (.bool false)], args := [d1, d2, d3] }
  | _ => none }
def DupKeepsWrongFalsely : Prop := dupKeepsRow.holds Try.pinned (OpenSpec.ofChange dupKeepsWrong)

/-- 'bursarlaw21.DupSweeps': WHATEVER THE INPUT: true; the input reads as it did. -/
def dupSweepsSpec : ChangeSpec := { name := "dupSweeps", fn := fun _ => fun
  | [d1, d2, d3] => { results := [.lit (.bool true)], args := [d1, d2, d3] }
  | _ => none }
def dupSweepsRow : OpenClaim := { program := "ytmmkiihmdidkpaa", sum := "8c06971a8b15065070802c6a91685e1bb494d6e983afb1766d287d75fd086b8b", func := "bursar/bursarlaw21.DupSweeps", spec := "dupSweeps", unfollowed := true, recurses := true, apart := false }
def DupSweepsSaid : Prop := dupSweepsRow.holds Try.pinned (OpenSpec.ofChange dupSweepsSpec)

/-- ITS FALSE NEIGHBOUR: 'it returns false'. Refute it at one input. -/
def dupSweepsWrong : ChangeSpec := { name := "dupSweeps", fn := fun _ => fun
  | [d1, d2, d3] => { results := [.lit (.bool false)], args := [d1, d2, d3] }
  | _ => none }
def DupSweepsWrongFalsely : Prop := dupSweepsRow.holds Try.pinned (OpenSpec.ofChange dupSweepsWrong)

/-- 'bursarlaw21.DupFinds': WHATEVER THE INPUT: true; the input reads as it did. -/
def dupFindsSpec : ChangeSpec := { name := "dupFinds", fn := fun _ => fun
  | [d1, d2, d3] => { results := [.lit (.bool true)], args := [d1, d2, d3] }
  | _ => none }
def dupFindsRow : OpenClaim := { program := "ytmmkiihmdidkpaa", sum := "8c06971a8b15065070802c6a91685e1bb494d6e983afb1766d287d75fd086b8b", func := "bursar/bursarlaw21.DupFinds", spec := "dupFinds", unfollowed := true, recurses := true, apart := false }
def DupFindsSaid : Prop := dupFindsRow.holds Try.pinned (OpenSpec.ofChange dupFindsSpec)

/-- ITS FALSE NEIGHBOUR: 'it returns false'. Refute it at one input. -/
def dupFindsWrong : ChangeSpec := { name := "dupFinds", fn := fun _ => fun
  | [d1, d2, d3] => { results := [.lit (.bool false)], args := [d1, d2, d3] }
  | _ => none }
def DupFindsWrongFalsely : Prop := dupFindsRow.holds Try.pinned (OpenSpec.ofChange dupFindsWrong)

/-- 'bursarlaw21.DupLists': WHATEVER THE INPUT: true; the input reads as it did. -/
def dupListsSpec : ChangeSpec := { name := "dupLists", fn := fun _ => fun
  | [d] => { results := [.lit (.bool true)], args := [d] }
  | _ => none }
def dupListsRow : OpenClaim := { program := "ytmmkiihmdidkpaa", sum := "8c06971a8b15065070802c6a91685e1bb494d6e983afb1766d287d75fd086b8b", func := "bursar/bursarlaw21.DupLists", spec := "dupLists", unfollowed := true, recurses := true, apart := false }
def DupListsSaid : Prop := dupListsRow.holds Try.pinned (OpenSpec.ofChange dupListsSpec)

/-- ITS FALSE NEIGHBOUR: 'it returns false'. Refute it at one input. -/
def dupListsWrong : ChangeSpec := { name := "dupLists", fn := fun _ => fun
  | [d] => { results := [.lit (.bool false)], args := [d] }
  | _ => none }
def DupListsWrongFalsely : Prop := dupListsRow.holds Try.pinned (OpenSpec.ofChange dupListsWrong)

/- THE SECOND FORM. 'bulk': how many values and letters a reading holds, each counted each time it is reached (what is shared counts as often as it is met; a slice's spare places count too). A statement '..UptoSaid' is the law's where the arguments, and the package variables that the reading takes, are together of bulk at most 1048576: NARROWER than '..Said'. Prove '..Said' where nothing that the law and all that it calls make is longer than what came in: it says more and counts as full. Else prove '..UptoSaid'. A law counts once. -/
mutual
def uptoBulk {H : Type} : DataW H → Nat
  | .lit (.string bytes) => bytes.length + 1
  | .lit _ => 1
  | .nil => 1
  | .ptr d => uptoBulk d + 1
  | .slice elems spare => uptoBulkAll elems + uptoBulkAll spare + 1
  | .agg parts => uptoBulkAll parts + 1
  | .iface _ d => uptoBulk d + 1
  | .map entries => uptoBulkEntries entries + 1
  | .held _ => 1
def uptoBulkAll {H : Type} : List (DataW H) → Nat
  | [] => 0
  | d :: r => uptoBulk d + uptoBulkAll r
def uptoBulkEntries {H : Type} : List (Lit × DataW H) → Nat
  | [] => 0
  | x :: r => uptoBulkEntry x + uptoBulkEntries r
def uptoBulkEntry {H : Type} : Lit × DataW H → Nat
  | (.string bytes, d) => bytes.length + uptoBulk d + 1
  | (_, d) => uptoBulk d + 1
 end
def uptoSmall : (H : Type) → List (DataW H) → Bool := fun _ ds => decide (uptoBulkAll ds ≤ 1048576)
def OpenSpec.upto (s : _root_.Go.ChangeSpec) : _root_.Go.OpenSpec := { _root_.Go.OpenSpec.ofChange s with cond := some uptoSmall }

/-- 'bursarlaw21.DupKeeps', WHERE WHAT IT READS IS OF BULK AT MOST 1048576: true; the input reads as it did. -/
def dupKeepsUptoRow : OpenClaim := { program := "ytmmkiihmdidkpaa", sum := "8c06971a8b15065070802c6a91685e1bb494d6e983afb1766d287d75fd086b8b", func := "bursar/bursarlaw21.DupKeeps", spec := "dupKeeps", unfollowed := true, recurses := true, apart := false, narrowed := true }
def DupKeepsUptoSaid : Prop := dupKeepsUptoRow.holds Try.pinned (OpenSpec.upto dupKeepsSpec)

/-- 'bursarlaw21.DupSweeps', WHERE WHAT IT READS IS OF BULK AT MOST 1048576: true; the input reads as it did. -/
def dupSweepsUptoRow : OpenClaim := { program := "ytmmkiihmdidkpaa", sum := "8c06971a8b15065070802c6a91685e1bb494d6e983afb1766d287d75fd086b8b", func := "bursar/bursarlaw21.DupSweeps", spec := "dupSweeps", unfollowed := true, recurses := true, apart := false, narrowed := true }
def DupSweepsUptoSaid : Prop := dupSweepsUptoRow.holds Try.pinned (OpenSpec.upto dupSweepsSpec)

/-- 'bursarlaw21.DupFinds', WHERE WHAT IT READS IS OF BULK AT MOST 1048576: true; the input reads as it did. -/
def dupFindsUptoRow : OpenClaim := { program := "ytmmkiihmdidkpaa", sum := "8c06971a8b15065070802c6a91685e1bb494d6e983afb1766d287d75fd086b8b", func := "bursar/bursarlaw21.DupFinds", spec := "dupFinds", unfollowed := true, recurses := true, apart := false, narrowed := true }
def DupFindsUptoSaid : Prop := dupFindsUptoRow.holds Try.pinned (OpenSpec.upto dupFindsSpec)

/-- 'bursarlaw21.DupLists', WHERE WHAT IT READS IS OF BULK AT MOST 1048576: true; the input reads as it did. -/
def dupListsUptoRow : OpenClaim := { program := "ytmmkiihmdidkpaa", sum := "8c06971a8b15065070802c6a91685e1bb494d6e983afb1766d287d75fd086b8b", func := "bursar/bursarlaw21.DupLists", spec := "dupLists", unfollowed := true, recurses := true, apart := false, narrowed := true }
def DupListsUptoSaid : Prop := dupListsUptoRow.holds Try.pinned (OpenSpec.upto dupListsSpec)

end Rows
end Go.Proofs.Ytmmkiihmdidkpaa
