import Derived.Test.YtaifcadnnmicnaaWInv
import Derived.Test.YtaifcadnnmicnaaWFootNe
namespace Go.Proofs.YtaifcadnnmicnaaW.PrintWords
open Go.RowKit
end Go.Proofs.YtaifcadnnmicnaaW.PrintWords
namespace Go.Proofs.YtaifcadnnmicnaaW.PrintLast
end Go.Proofs.YtaifcadnnmicnaaW.PrintLast
