/- Plain laws of words: awake, pieces, sameLines, names. -/
import Derived.Test.YtfbpbmnlbcnanaaDoorVb
import Derived.Test.YtfbpbmnlbcnanaaDoorWg
import Derived.Test.YtfbpbmnlbcnanaaDoorWh
namespace Go.Proofs.YtfbpbmnlbcnanaaDoor
open Go.Dc

theorem awake3 : law3_awake_m = some true := by decide +kernel

/-! ### Names -/
def digB (x : UInt8) : Bool := decide (48 ≤ x.toNat) && decide (x.toNat ≤ 57)
theorem isDigit_m (x : UInt8) : words_isDigit_m (x.toNat : Int) = some (digB x) := by
  have key : ∀ k : Fin 256, words_isDigit_m (k.val : Int) = some (decide (48 ≤ k.val) && decide (k.val ≤ 57)) := by decide +kernel
  exact key ⟨x.toNat, x.toNat_lt⟩
end Go.Proofs.YtfbpbmnlbcnanaaDoor
