/- The reference's hops. -/
import Derived.Test.YtohhihdjdelckaaDoorTk
import Derived.Test.YtohhihdjdelckaaDoorRd
set_option linter.all false
namespace Go.Proofs.YtohhihdjdelckaaDoor
open Go.Dc
end Go.Proofs.YtohhihdjdelckaaDoor
