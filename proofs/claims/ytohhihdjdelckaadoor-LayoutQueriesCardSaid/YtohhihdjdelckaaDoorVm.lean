/- Words laws: numbers, by plain functions. -/
import Derived.Test.YtohhihdjdelckaaDoorVl
import Derived.Test.YtohhihdjdelckaaDoorVn
import Derived.Test.YtohhihdjdelckaaDoorWb
import Derived.Test.YtohhihdjdelckaaDoorWe
set_option linter.all false
namespace Go.Proofs.YtohhihdjdelckaaDoor
open Go.Dc
set_option maxRecDepth 10000

/-! ### The reference -/
end Go.Proofs.YtohhihdjdelckaaDoor
