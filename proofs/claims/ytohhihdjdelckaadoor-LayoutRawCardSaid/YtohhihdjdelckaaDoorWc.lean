/- Models of functions, and that the code computes them. -/
import Derived.Test.YtohhihdjdelckaaDoorWa
import Derived.Test.YtohhihdjdelckaaDoorWIdx
set_option linter.all false
namespace Go.Proofs.YtohhihdjdelckaaDoor
open Go.Dc Go.RowKit
set_option maxRecDepth 10000
end Go.Proofs.YtohhihdjdelckaaDoor
