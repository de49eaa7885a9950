/- Words laws: the words of a joined text. -/
import Derived.Test.YtohhihdjdelckaaDoorVj
namespace Go.Proofs.YtohhihdjdelckaaDoor
open Go.Dc
set_option maxRecDepth 10000
set_option linter.unusedSimpArgs false

end Go.Proofs.YtohhihdjdelckaaDoor
