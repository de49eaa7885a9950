/- words.Lines, walked by hand: a range over strings.SplitSeq. -/
import Derived.Test.YtohhihdjdelckaaDoorWc
set_option linter.all false
namespace Go.Proofs.YtohhihdjdelckaaDoor
open Go.Dc Go.RowKit
set_option maxRecDepth 10000

/-! ### The iterator -/
section
variable (bsep bs bsave b6 b5 b4 b3 b2 : Nat)
end

/-! ### The closure -/
/-! ### Lines -/
end Go.Proofs.YtohhihdjdelckaaDoor
