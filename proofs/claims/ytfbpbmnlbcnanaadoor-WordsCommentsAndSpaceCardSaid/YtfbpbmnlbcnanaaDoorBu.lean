/- strings.Builder: copyCheck, WriteByte, WriteString, String over the engine's chunks. -/
import Derived.Test.YtfbpbmnlbcnanaaDoorTypes
import Derived.Test.YtfbpbmnlbcnanaaDoorDm
namespace Go.Proofs
open Go.Dc
end Go.Proofs
namespace Go.Proofs.YtfbpbmnlbcnanaaDoor
open Go.Dc Go.RowKit
set_option maxRecDepth 10000
set_option linter.unusedVariables false
end Go.Proofs.YtfbpbmnlbcnanaaDoor
