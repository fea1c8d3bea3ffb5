import Derived.Test.YtaifcadnnmicnaaWFoot
/-! ### 45. What a call keeps: all but the blocks of S (the rows that it was given to write) and what is new since -/
namespace Go.Proofs.YtaifcadnnmicnaaW.PrintWords
open Go.RowKit
namespace Kd
end Kd
end Go.Proofs.YtaifcadnnmicnaaW.PrintWords
