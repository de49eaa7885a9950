/- Plain laws, the kit: options with a value of a kind, lists by number, sums. -/
import Derived.Test.YtohhihdjdelckaaDoorPk
import Derived.IntWalk
set_option linter.all false
namespace Go.Dc

def gb (l : List Bool) (i : Int) : Bool := l.getD i.toNat false
theorem fuel_of {n : Nat} (h : n ≤ 1000000000000000000) : n < FUEL := by
  have : FUEL = 18446744073709551616 := rfl
  omega

end Go.Dc
