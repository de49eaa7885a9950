/- Words laws: the words of a joined text. -/
import Derived.Test.YtohhihdjdelckaaDoorVj
namespace Go.Proofs.YtohhihdjdelckaaDoor
open Go.Dc
set_option maxRecDepth 10000
set_option linter.unusedSimpArgs false

/-- A list of words that can be joined. -/
def lineOk (w : List Str) : Prop := 0 < w.length ∧ w.length ≤ 64 ∧ w.all wordB = true
def joinT : List (List Str) → List UInt8
  | [] => []
  | w :: r => wlF true w ++ 10 :: joinT r
end Go.Proofs.YtohhihdjdelckaaDoor
