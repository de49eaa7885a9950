/- Plain laws of words: the lines of a text, for the program and the reference. -/
import Derived.Test.YtfbpbmnlbcnanaaDoorVa
import Derived.Test.YtfbpbmnlbcnanaaDoorWf
set_option linter.all false
namespace Go.Proofs.YtfbpbmnlbcnanaaDoor
open Go.Dc

def plainB (c : UInt8) : Bool := isPart c && decide (c.toNat ≠ 35)
theorem plain_m (c : UInt8) : ref1_plain_m (c.toNat : Int) = some (plainB c) := by
  have key : ∀ k : Fin 256, ref1_plain_m (k.val : Int) = some ((decide (33 ≤ k.val) && decide (k.val ≤ 126)) && decide (k.val ≠ 35)) := by decide +kernel
  exact key ⟨c.toNat, c.toNat_lt⟩
/-! ### Lines -/
/-! ### The reference's -/
/-! ### Comparing -/
end Go.Proofs.YtfbpbmnlbcnanaaDoor
