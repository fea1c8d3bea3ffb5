import Derived.Test.YtaifcadnnmicnaaWTab
/-! ### 56. Four, five, six operations that may come up next, in any order -/
namespace Go.Proofs.YtaifcadnnmicnaaW.PrintLast
end Go.Proofs.YtaifcadnnmicnaaW.PrintLast
