import Derived.Test.YtnelnmlhlmocdaaGreatDoorWTab
/-! ### 56. Four, five, six operations that may come up next, in any order -/
namespace Go.Proofs.YtnelnmlhlmocdaaGreatDoorW.PrintLast
end Go.Proofs.YtnelnmlhlmocdaaGreatDoorW.PrintLast
