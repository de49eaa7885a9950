/- LayoutExamples, the plain law. -/
import Derived.Test.YtohhihdjdelckaaDoorWLayoutExamples
import Derived.Test.YtohhihdjdelckaaDoorOpens
namespace Go.Proofs.YtohhihdjdelckaaDoor
open Go.Dc
set_option maxRecDepth 100000
theorem layoutExamples_plain : law4_LayoutExamples_m = some true := by decide +kernel
end Go.Proofs.YtohhihdjdelckaaDoor
