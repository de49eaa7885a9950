/- Two facts of the program as a whole that every row asks for, once for all rows. -/
import Derived.Test.YtnihhidbiepnhaaRows
import Derived.Test.YtnihhidbiepnhaaChecked
import Derived.WalkKit
import Derived.ProofKit
import Derived.OpenShut
import Derived.ChangeOld
import Derived.SizedLaws
namespace Go.Proofs.Ytnihhidbiepnhaa
open Go.RowKit
theorem mayEnter_prog : Try.prog.mayEnter = true := by kernel_rfl
theorem lifts_prog : Try.prog.liftsFinal = false := by kernel_rfl
theorem laid_prog : laidOutB Try.prog = true := by kernel_rfl
end Go.Proofs.Ytnihhidbiepnhaa
