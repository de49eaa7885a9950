/- Plain laws of words: awake, pieces, sameLines, names. -/
import Derived.Test.YtfbpbmnlbcnanaaDoorVb
import Derived.Test.YtfbpbmnlbcnanaaDoorWg
import Derived.Test.YtfbpbmnlbcnanaaDoorWh
set_option linter.all false
namespace Go.Proofs.YtfbpbmnlbcnanaaDoor
open Go.Dc

theorem awake3 : law3_awake_m = some true := by decide +kernel

/-! ### Names -/
end Go.Proofs.YtfbpbmnlbcnanaaDoor
