import Derived.Test.YtmdpomilhejbcaaWWords
import Derived.Laws.StructEq
/-! ### 53. '==' of structs as_ one Bool -/
namespace Go.Proofs.YtmdpomilhejbcaaW.PrintWords
open Go.RowKit
end Go.Proofs.YtmdpomilhejbcaaW.PrintWords
