/- Two facts of the program as a whole that every row asks for, once for all rows. -/
import Derived.Test.YtohhihdjdelckaaDoorRows
import Derived.Test.YtohhihdjdelckaaDoorChecked
import Derived.WalkKit
import Derived.ProofKit
import Derived.OpenShut
import Derived.ChangeOld
import Derived.SizedLaws
set_option linter.all false
namespace Go.Proofs.YtohhihdjdelckaaDoor
open Go.RowKit
theorem mayEnter_prog : Tryd.prog.mayEnter = true := by kernel_rfl
theorem lifts_prog : Tryd.prog.liftsFinal = false := by kernel_rfl
theorem laid_prog : laidOutB Tryd.prog = true := by kernel_rfl
end Go.Proofs.YtohhihdjdelckaaDoor
