import Derived.Test.YtkfpocggjbfomaaDoorWInv
import Derived.Test.YtkfpocggjbfomaaDoorWFootNe
namespace Go.Proofs.YtkfpocggjbfomaaDoorW.PrintWords
open Go.RowKit
end Go.Proofs.YtkfpocggjbfomaaDoorW.PrintWords
namespace Go.Proofs.YtkfpocggjbfomaaDoorW.PrintLast
end Go.Proofs.YtkfpocggjbfomaaDoorW.PrintLast
