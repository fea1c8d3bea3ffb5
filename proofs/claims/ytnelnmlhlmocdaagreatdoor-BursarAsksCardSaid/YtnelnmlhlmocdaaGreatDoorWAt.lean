import Derived.Test.YtnelnmlhlmocdaaGreatDoorWFootNe
/-! ### 54. Behind orders that were drawn quietly: the same facts at the world's new name; a flat row's foot -/
namespace Go.Proofs.YtnelnmlhlmocdaaGreatDoorW.PrintWords
open Go.RowKit
namespace Kd
end Kd
end Go.Proofs.YtnelnmlhlmocdaaGreatDoorW.PrintWords
