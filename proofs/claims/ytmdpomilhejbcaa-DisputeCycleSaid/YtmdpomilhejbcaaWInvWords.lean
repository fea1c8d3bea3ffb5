import Derived.Test.YtmdpomilhejbcaaWInv
import Derived.Test.YtmdpomilhejbcaaWFootNe
namespace Go.Proofs.YtmdpomilhejbcaaW.PrintWords
open Go.RowKit
end Go.Proofs.YtmdpomilhejbcaaW.PrintWords
namespace Go.Proofs.YtmdpomilhejbcaaW.PrintLast
end Go.Proofs.YtmdpomilhejbcaaW.PrintLast
