import Derived.Test.YtnelnmlhlmocdaaGreatDoorWApart
import Derived.Test.YtnelnmlhlmocdaaGreatDoorWArr
/-! ### 42. append(v, make([]T, n)...): the operation comes as_ append with the number in the second place -/
namespace Go.Proofs.YtnelnmlhlmocdaaGreatDoorW.PrintWords
open Go.RowKit
namespace Kd
/-! #### the same for rows whose elements lie apart -/
end Kd
end Go.Proofs.YtnelnmlhlmocdaaGreatDoorW.PrintWords
