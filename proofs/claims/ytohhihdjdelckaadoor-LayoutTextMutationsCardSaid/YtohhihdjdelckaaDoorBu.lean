/- strings.Builder: copyCheck, WriteByte, WriteString, String over the engine's chunks. -/
import Derived.Test.YtohhihdjdelckaaDoorTypes
import Derived.Test.YtohhihdjdelckaaDoorDm
namespace Go.Proofs
open Go.Dc
end Go.Proofs
namespace Go.Proofs.YtohhihdjdelckaaDoor
open Go.Dc Go.RowKit
set_option maxRecDepth 10000
set_option linter.unusedVariables false
end Go.Proofs.YtohhihdjdelckaaDoor
