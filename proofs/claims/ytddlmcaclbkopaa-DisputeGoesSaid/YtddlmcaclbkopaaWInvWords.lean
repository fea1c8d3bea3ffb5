import Derived.Test.YtddlmcaclbkopaaWInv
import Derived.Test.YtddlmcaclbkopaaWFootNe
namespace Go.Proofs.YtddlmcaclbkopaaW.PrintWords
open Go.RowKit
end Go.Proofs.YtddlmcaclbkopaaW.PrintWords
namespace Go.Proofs.YtddlmcaclbkopaaW.PrintLast
end Go.Proofs.YtddlmcaclbkopaaW.PrintLast
