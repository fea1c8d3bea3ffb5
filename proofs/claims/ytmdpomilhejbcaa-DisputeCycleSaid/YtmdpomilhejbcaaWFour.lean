import Derived.Test.YtmdpomilhejbcaaWTab
/-! ### 56. Four, five, six operations that may come up next, in any order -/
namespace Go.Proofs.YtmdpomilhejbcaaW.PrintLast
end Go.Proofs.YtmdpomilhejbcaaW.PrintLast
