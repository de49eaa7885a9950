/- Two facts of the program as a whole that every row asks for, once for all rows. -/
import Derived.Test.YtcalibhfgdncaaaGreatDoorRows
import Derived.Test.YtcalibhfgdncaaaGreatDoorChecked
import Derived.WalkKit
import Derived.ProofKit
import Derived.OpenShut
import Derived.ChangeOld
import Derived.SizedLaws
set_option linter.all false
namespace Go.Proofs.YtcalibhfgdncaaaGreatDoor
open Go.RowKit
theorem mayEnter_prog : Tryz.prog.mayEnter = true := by kernel_rfl
theorem lifts_prog : Tryz.prog.liftsFinal = false := by kernel_rfl
theorem laid_prog : laidOutB Tryz.prog = true := by kernel_rfl
end Go.Proofs.YtcalibhfgdncaaaGreatDoor
