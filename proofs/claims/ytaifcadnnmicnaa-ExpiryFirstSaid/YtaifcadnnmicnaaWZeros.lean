import Derived.Test.YtaifcadnnmicnaaWApart
import Derived.Test.YtaifcadnnmicnaaWArr
/-! ### 42. append(v, make([]T, n)...): the operation comes as_ append with the number in the second place -/
namespace Go.Proofs.YtaifcadnnmicnaaW.PrintWords
open Go.RowKit
namespace Kd
/-! #### the same for rows whose elements lie apart -/
end Kd
end Go.Proofs.YtaifcadnnmicnaaW.PrintWords
