import Derived.Test.YtkfpocggjbfomaaDoorWTab
/-! ### 56. Four, five, six operations that may come up next, in any order -/
namespace Go.Proofs.YtkfpocggjbfomaaDoorW.PrintLast
end Go.Proofs.YtkfpocggjbfomaaDoorW.PrintLast
