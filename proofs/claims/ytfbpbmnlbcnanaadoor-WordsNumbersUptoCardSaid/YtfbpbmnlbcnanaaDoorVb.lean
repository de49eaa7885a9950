/- Plain laws of words: the lines of a text, for the program and the reference. -/
import Derived.Test.YtfbpbmnlbcnanaaDoorVa
import Derived.Test.YtfbpbmnlbcnanaaDoorWf
namespace Go.Proofs.YtfbpbmnlbcnanaaDoor
open Go.Dc

/-! ### Lines -/
/-! ### The reference's -/
/-! ### Comparing -/
end Go.Proofs.YtfbpbmnlbcnanaaDoor
