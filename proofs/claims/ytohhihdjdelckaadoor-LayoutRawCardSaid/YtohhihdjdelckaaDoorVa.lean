/- Plain laws of words: what a line's words are, for the program's split and the reference's one. -/
import Derived.Test.YtohhihdjdelckaaDoorWd
import Derived.Test.YtohhihdjdelckaaDoorWe
import Derived.Test.YtohhihdjdelckaaDoorQ1
set_option linter.all false
namespace Go.Proofs.YtohhihdjdelckaaDoor
open Go.Dc

theorem byteAt_get {s : Str} {i : Nat} {x : UInt8} (h : s.l[i]? = some x) : byteAt s (i : Int) = some (x.toNat : Int) := by simp [byteAt, h]
theorem idx_get {α : Type} {xs : List α} {i : Nat} {x : α} (h : idx xs (i : Int) = some x) : xs[i]? = some x := by rwa [idx_nat] at h

/-! ### The first place of a byte -/
def before (c : UInt8) (l : List UInt8) : List UInt8 := l.takeWhile (fun b => b != c)
def behind (c : UInt8) (l : List UInt8) : List UInt8 := (l.dropWhile (fun b => b != c)).drop 1
/-! ### The words of a line -/
def isPart (c : UInt8) : Bool := decide (33 ≤ c.toNat) && decide (c.toNat ≤ 126)
def isBlank (c : UInt8) : Bool := decide (c.toNat = 32) || decide (c.toNat = 9)
theorem class_m (c : UInt8) : words_class_m (c.toNat : Int) = some (if isBlank c then 1 else if c.toNat = 10 then 2 else if c.toNat = 35 then 3 else if isPart c then 4 else 0) := by
  have key : ∀ k : Fin 256, words_class_m (k.val : Int) = some (if (decide (k.val = 32) || decide (k.val = 9)) = true then 1 else if k.val = 10 then 2 else if k.val = 35 then 3 else if (decide (33 ≤ k.val) && decide (k.val ≤ 126)) = true then 4 else 0) := by decide +kernel
  exact key ⟨c.toNat, c.toNat_lt⟩

end Go.Proofs.YtohhihdjdelckaaDoor
