/- Words laws: Join, by a plain function. -/
import Derived.Test.YtohhihdjdelckaaDoorVw
import Derived.Test.YtohhihdjdelckaaDoorWk
namespace Go.Proofs.YtohhihdjdelckaaDoor
open Go.Dc
set_option maxRecDepth 10000
set_option linter.unusedSimpArgs false

def wordB (s : Str) : Bool := decide (s.l ≠ []) && s.l.all plainB
/-- The words of a line with a space between; f: whether it begins here. -/
def wlF : Bool → List Str → List UInt8
  | _, [] => []
  | f, s :: r => (if f then [] else [32]) ++ s.l ++ wlF false r
theorem cat_m (a b : List UInt8) (h : a.length + b.length ≤ 100000000000000) : strCat ⟨a⟩ ⟨b⟩ = some ⟨a ++ b⟩ := by
  unfold strCat
  rw [if_pos (by simp only; omega)]

end Go.Proofs.YtohhihdjdelckaaDoor
