/- Two facts of the program as a whole that every row asks for, once for all rows. -/
import Derived.Test.YtcalibhfgdncaaaGreatRows
import Derived.Test.YtcalibhfgdncaaaGreatChecked
import Derived.WalkKit
import Derived.ProofKit
import Derived.OpenShut
import Derived.ChangeOld
import Derived.SizedLaws
set_option linter.all false
namespace Go.Proofs.YtcalibhfgdncaaaGreat
open Go.RowKit
theorem alL:Tryz.prog.mayEnter=true:=by kernel_rfl
theorem alu:Tryz.prog.liftsFinal=false:=by kernel_rfl
theorem aeI:laidOutB Tryz.prog=true:=by kernel_rfl
end Go.Proofs.YtcalibhfgdncaaaGreat
