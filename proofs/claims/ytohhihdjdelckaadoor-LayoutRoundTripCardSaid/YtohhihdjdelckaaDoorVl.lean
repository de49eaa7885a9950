/- Plain laws of words: letters and digits. -/
import Derived.Test.YtohhihdjdelckaaDoorVw
import Derived.Test.YtohhihdjdelckaaDoorWa
import Derived.Test.YtohhihdjdelckaaDoorWe
set_option linter.all false
namespace Go.Proofs.YtohhihdjdelckaaDoor
open Go.Dc
def digB (x : UInt8) : Bool := decide (48 ≤ x.toNat) && decide (x.toNat ≤ 57)
theorem isDigit_m (x : UInt8) : words_isDigit_m (x.toNat : Int) = some (digB x) := by
  have key : ∀ k : Fin 256, words_isDigit_m (k.val : Int) = some (decide (48 ≤ k.val) && decide (k.val ≤ 57)) := by decide +kernel
  exact key ⟨x.toNat, x.toNat_lt⟩
end Go.Proofs.YtohhihdjdelckaaDoor
