/- strconv.Itoa: its contract over the engine. -/
import Derived.Test.YtohhihdjdelckaaDoorSh
import Derived.Test.YtohhihdjdelckaaDoorDm
namespace Go.Proofs.YtohhihdjdelckaaDoor
open Go.Dc Go.RowKit
end Go.Proofs.YtohhihdjdelckaaDoor
