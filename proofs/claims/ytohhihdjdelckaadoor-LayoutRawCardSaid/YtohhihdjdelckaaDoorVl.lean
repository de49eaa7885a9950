/- Plain laws of words: letters and digits. -/
import Derived.Test.YtohhihdjdelckaaDoorVa
import Derived.Test.YtohhihdjdelckaaDoorWa
import Derived.Test.YtohhihdjdelckaaDoorWe
set_option linter.all false
namespace Go.Proofs.YtohhihdjdelckaaDoor
open Go.Dc
end Go.Proofs.YtohhihdjdelckaaDoor
