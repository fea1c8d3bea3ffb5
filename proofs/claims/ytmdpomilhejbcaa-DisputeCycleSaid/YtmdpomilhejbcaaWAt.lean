import Derived.Test.YtmdpomilhejbcaaWFootNe
/-! ### 54. Behind orders that were drawn quietly: the same facts at the world's new name; a flat row's foot -/
namespace Go.Proofs.YtmdpomilhejbcaaW.PrintWords
open Go.RowKit
namespace Kd
end Kd
end Go.Proofs.YtmdpomilhejbcaaW.PrintWords
