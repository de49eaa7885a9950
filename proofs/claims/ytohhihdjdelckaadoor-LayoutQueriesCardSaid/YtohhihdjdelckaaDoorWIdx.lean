/- strings.Index at a substring of one byte: its contract. -/
import Derived.Test.YtohhihdjdelckaaDoorTypes
import Derived.Test.YtohhihdjdelckaaDoorSh
set_option linter.all false
namespace Go.Proofs.YtohhihdjdelckaaDoor
open Go.Dc Go.RowKit
end Go.Proofs.YtohhihdjdelckaaDoor
