/- Plain laws of words: what a line's words are, for the program's split and the reference's one. -/
import Derived.Test.YtfbpbmnlbcnanaaDoorWd
import Derived.Test.YtfbpbmnlbcnanaaDoorWe
import Derived.Test.YtfbpbmnlbcnanaaDoorQ1
namespace Go.Proofs.YtfbpbmnlbcnanaaDoor
open Go.Dc

theorem byteAt_get {s : Str} {i : Nat} {x : UInt8} (h : s.l[i]? = some x) : byteAt s (i : Int) = some (x.toNat : Int) := by simp [byteAt, h]
theorem idx_get {α : Type} {xs : List α} {i : Nat} {x : α} (h : idx xs (i : Int) = some x) : xs[i]? = some x := by rwa [idx_nat] at h

/-! ### The first place of a byte -/
def before (c : UInt8) (l : List UInt8) : List UInt8 := l.takeWhile (fun b => b != c)
def behind (c : UInt8) (l : List UInt8) : List UInt8 := (l.dropWhile (fun b => b != c)).drop 1
theorem sub_pre (a b : List UInt8) : strSub ⟨a ++ b⟩ 0 (a.length : Int) = some ⟨a⟩ := by
  unfold strSub
  rw [if_pos ⟨by omega, by omega, by simp; omega⟩]
  simp
theorem sub_suf (a b : List UInt8) : strSub ⟨a ++ b⟩ (a.length : Int) ((a ++ b).length : Int) = some ⟨b⟩ := by
  unfold strSub
  rw [if_pos ⟨by omega, by simp; omega, by simp⟩]
  simp only [Int.toNat_natCast, List.take_length]
  simp

/-! ### The words of a line -/
end Go.Proofs.YtfbpbmnlbcnanaaDoor
