/- Models of functions, and that the code computes them. -/
import Derived.Test.YtcalibhfgdncaaaGreatYc
namespace Go.Proofs.YtcalibhfgdncaaaGreat
open Go.Dc Go.RowKit
set_option maxRecDepth 10000
set_option linter.unusedVariables false
end Go.Proofs.YtcalibhfgdncaaaGreat
