/- The bulk of the rows' second form, for the engine. -/
import Derived.Test.YtfbpbmnlbcnanaaDoorRows
import Derived.Test.YtfbpbmnlbcnanaaDoorD18
namespace Go.Proofs.YtfbpbmnlbcnanaaDoor
open Go.Dc
def ub (H : Type) (d : DataW H) : Nat := Rows.uptoBulk d
theorem ubS (H : Type) (b : List UInt8) : b.length + 1 ≤ ub H (.lit (.string b)) := by simp [ub, Rows.uptoBulk]
end Go.Proofs.YtfbpbmnlbcnanaaDoor
