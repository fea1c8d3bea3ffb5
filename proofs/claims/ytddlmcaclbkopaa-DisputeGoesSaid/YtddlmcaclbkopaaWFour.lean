import Derived.Test.YtddlmcaclbkopaaWTab
/-! ### 56. Four, five, six operations that may come up next, in any order -/
namespace Go.Proofs.YtddlmcaclbkopaaW.PrintLast
end Go.Proofs.YtddlmcaclbkopaaW.PrintLast
