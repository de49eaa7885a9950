/- Models of functions, and that the code computes them. -/
import Derived.Test.YtohhihdjdelckaaDoorLc
import Derived.Test.YtohhihdjdelckaaDoorRc
import Derived.Test.YtohhihdjdelckaaDoorRs
namespace Go.Proofs.YtohhihdjdelckaaDoor
open Go.Dc Go.RowKit
set_option maxRecDepth 10000
set_option linter.unusedVariables false
end Go.Proofs.YtohhihdjdelckaaDoor
