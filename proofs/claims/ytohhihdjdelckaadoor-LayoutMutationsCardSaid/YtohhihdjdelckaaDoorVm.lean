/- Words laws: numbers, by plain functions. -/
import Derived.Test.YtohhihdjdelckaaDoorVl
import Derived.Test.YtohhihdjdelckaaDoorVn
import Derived.Test.YtohhihdjdelckaaDoorWb
import Derived.Test.YtohhihdjdelckaaDoorWe
namespace Go.Proofs.YtohhihdjdelckaaDoor
open Go.Dc
set_option maxRecDepth 10000
set_option linter.unusedSimpArgs false

/-! ### The reference -/
end Go.Proofs.YtohhihdjdelckaaDoor
