-- Written by wip/xprint.py, a session's program: printed out of the translation, with hand-written functions. Lean checks it.
import Derived.Test.YteghpaomggajdaaDoorProg
import Derived.Below
import Derived.Deep.Draws
import Derived.Deep.AppendLies
import Derived.Maps.AppendAt
import Derived.OwnWalk
import Derived.Laws.BytesArg
import Derived.Laws.MakeOwn
import Derived.Laws.OwnMore
import Derived.Deep.OwnRows
import Derived.Tactics
import Derived.Lib.ConvBytes
import Derived.Laws.Slices
import Derived.WalkKit
import Derived.KernelRfl
import Derived.RowKit3
import Derived.Deep.LoopGhost
import Derived.Deep.QuietTactic
import Derived.BigQuiet
import Derived.WideLaws
import Derived.Deep.DeepCutAuto
import Derived.Deep.CutBlock
import Derived.Deep.RegionHeld3
import Derived.Laws.Rows
import Derived.Lib.AppendStr
import Derived.ArgAppend
import Derived.Laws.IdiomCopy
import Derived.OrdersHeld
import Derived.Laws.BitsLemmas
import Derived.RowKit
import Derived.Test.YteghpaomggajdaaDoorPu
import Derived.Test.YteghpaomggajdaaDoorFu
import Derived.Lib.Hide
import Derived.Outline
import Derived.Test.YteghpaomggajdaaDoorWWords
import Derived.Test.YteghpaomggajdaaDoorWLast
import Derived.Test.YteghpaomggajdaaDoorWTab
import Derived.Test.YteghpaomggajdaaDoorWFour
import Derived.Test.YteghpaomggajdaaDoorWQPut
import Derived.Test.YteghpaomggajdaaDoorWApart
import Derived.Test.YteghpaomggajdaaDoorWArr
import Derived.Test.YteghpaomggajdaaDoorWZeros
import Derived.Test.YteghpaomggajdaaDoorWFoot
import Derived.Test.YteghpaomggajdaaDoorWKept
import Derived.Test.YteghpaomggajdaaDoorWShare
import Derived.Test.YteghpaomggajdaaDoorWN
import Derived.Test.YteghpaomggajdaaDoorWFootNe
import Derived.Test.YteghpaomggajdaaDoorWAt
import Derived.Test.YteghpaomggajdaaDoorWEqStruct
import Derived.Test.YteghpaomggajdaaDoorWRepsOne
import Derived.Test.YteghpaomggajdaaDoorWInv
import Derived.Test.YteghpaomggajdaaDoorWInvWords
import Derived.Test.YteghpaomggajdaaDoorWGuard
import Derived.Test.YteghpaomggajdaaDoorWNEv
import Derived.Test.YteghpaomggajdaaDoorWMore
namespace Go.Proofs.YteghpaomggajdaaDoor.XG
open Go.RowKit Go.Proofs.YteghpaomggajdaaDoorW.PrintWords Go.Proofs.YteghpaomggajdaaDoorW.PrintLast Go.Proofs.YteghpaomggajdaaDoorW.PrintMore
attribute [local go_sem] max2_int min2_int max_two min_two max_three min_three max_four min_four   -- for this text's walks alone
set_option linter.unusedVariables false
set_option linter.unusedSimpArgs false



def errW : Option Int → Value
  | none => .nilIface
  | some c => .iface 0 (.int .i64 c)
theorem errW_none : errW none = .nilIface := rfl
theorem errW_some (c : Int) : errW (some c) = .iface 0 (.int .i64 c) := rfl

theorem info5 : (Tryd.prog.info? 5).map (fun i => (i.zero, i.size, i.bytes)) = some (some (.int .u8 0), 1, 1) := by kernel_rfl
-- the values' own types

end Go.Proofs.YteghpaomggajdaaDoor.XG
