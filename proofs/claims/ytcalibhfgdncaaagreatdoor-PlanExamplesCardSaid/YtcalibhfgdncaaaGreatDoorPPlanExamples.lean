/- PlanExamples, the plain law. -/
import Derived.Test.YtcalibhfgdncaaaGreatDoorWPlanExamples
import Derived.Test.YtcalibhfgdncaaaGreatDoorOpens
set_option linter.all false
namespace Go.Proofs.YtcalibhfgdncaaaGreatDoor
open Go.Dc
set_option maxRecDepth 100000
theorem planExamples_plain : law10_PlanExamples_m = some true := by decide +kernel
end Go.Proofs.YtcalibhfgdncaaaGreatDoor
