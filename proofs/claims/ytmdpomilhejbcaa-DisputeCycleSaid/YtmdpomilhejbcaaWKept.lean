import Derived.Test.YtmdpomilhejbcaaWFoot
/-! ### 45. What a call keeps: all but the blocks of S (the rows that it was given to write) and what is new since -/
namespace Go.Proofs.YtmdpomilhejbcaaW.PrintWords
open Go.RowKit
namespace Kd
end Kd
end Go.Proofs.YtmdpomilhejbcaaW.PrintWords
