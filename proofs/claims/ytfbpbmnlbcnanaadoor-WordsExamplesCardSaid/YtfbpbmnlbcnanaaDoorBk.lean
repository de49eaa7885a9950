/- The bulk of the rows' second form, for the engine. -/
import Derived.Test.YtfbpbmnlbcnanaaDoorRows
import Derived.Test.YtfbpbmnlbcnanaaDoorD18
namespace Go.Proofs.YtfbpbmnlbcnanaaDoor
open Go.Dc
def ub (H : Type) (d : DataW H) : Nat := Rows.uptoBulk d
end Go.Proofs.YtfbpbmnlbcnanaaDoor
