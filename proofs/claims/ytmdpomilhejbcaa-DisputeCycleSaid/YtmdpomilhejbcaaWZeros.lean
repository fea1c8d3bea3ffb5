import Derived.Test.YtmdpomilhejbcaaWApart
import Derived.Test.YtmdpomilhejbcaaWArr
/-! ### 42. append(v, make([]T, n)...): the operation comes as_ append with the number in the second place -/
namespace Go.Proofs.YtmdpomilhejbcaaW.PrintWords
open Go.RowKit
namespace Kd
/-! #### the same for rows whose elements lie apart -/
end Kd
end Go.Proofs.YtmdpomilhejbcaaW.PrintWords
