/- The reference's hops. -/
import Derived.Test.YtohhihdjdelckaaDoorTk
import Derived.Test.YtohhihdjdelckaaDoorRd
namespace Go.Proofs.YtohhihdjdelckaaDoor
open Go.Dc
end Go.Proofs.YtohhihdjdelckaaDoor
