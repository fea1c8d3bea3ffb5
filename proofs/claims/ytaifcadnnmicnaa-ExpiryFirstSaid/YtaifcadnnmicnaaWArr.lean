import Derived.Test.YtaifcadnnmicnaaWWords
/-! ### 41. Arrays '[n]T' as_ values: a kind (a field, an element of a row), an element read, an element set -/
namespace Go.Proofs.YtaifcadnnmicnaaW.PrintWords
open Go.RowKit
namespace Kd
end Kd
end Go.Proofs.YtaifcadnnmicnaaW.PrintWords
