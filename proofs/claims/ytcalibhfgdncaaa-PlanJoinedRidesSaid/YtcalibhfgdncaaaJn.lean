/- Two facts of the program as a whole that every row asks for, once for all rows. -/
import Derived.Test.YtcalibhfgdncaaaRows
import Derived.Test.YtcalibhfgdncaaaChecked
import Derived.WalkKit
import Derived.ProofKit
import Derived.OpenShut
import Derived.ChangeOld
import Derived.SizedLaws
set_option linter.all false
namespace Go.Proofs.Ytcalibhfgdncaaa
open Go.RowKit
theorem acL : Try.prog.mayEnter = true := by kernel_rfl
theorem acz : Try.prog.liftsFinal = false := by kernel_rfl
theorem UH : laidOutB Try.prog = true := by kernel_rfl
end Go.Proofs.Ytcalibhfgdncaaa
