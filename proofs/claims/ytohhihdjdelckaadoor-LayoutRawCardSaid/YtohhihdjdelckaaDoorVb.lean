/- Plain laws of words: the lines of a text, for the program and the reference. -/
import Derived.Test.YtohhihdjdelckaaDoorVa
set_option linter.all false
namespace Go.Proofs.YtohhihdjdelckaaDoor
open Go.Dc

def plainB (c : UInt8) : Bool := isPart c && decide (c.toNat ≠ 35)
/-! ### Lines -/
/-! ### The reference's -/
/-! ### Comparing -/
end Go.Proofs.YtohhihdjdelckaaDoor
