/- strings.Cut at a separator of any length: its contract over the engine. -/
import Derived.Test.YtfbpbmnlbcnanaaDoorWIdx
import Derived.Test.YtfbpbmnlbcnanaaDoorDm
set_option linter.all false
namespace Go.Proofs.YtfbpbmnlbcnanaaDoor
open Go.Dc Go.RowKit
end Go.Proofs.YtfbpbmnlbcnanaaDoor
