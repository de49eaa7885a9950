/- strconv.Itoa: its contract over the engine. -/
import Derived.Test.YtohhihdjdelckaaDoorSh
import Derived.Test.YtohhihdjdelckaaDoorDm
set_option linter.all false
namespace Go.Proofs.YtohhihdjdelckaaDoor
open Go.Dc Go.RowKit
/-- The table of the powers of ten, as it lies. -/
def pow10 : List Value := Lib.pow10Tab.map fun z => Value.int .u64 z
def strconv_Itoa_m (i : Int) : Option Str := if -9223372036854775808 ≤ i ∧ i ≤ 9223372036854775807 then some ⟨Lib.itoa i⟩ else none
theorem strconv_Itoa_spec (S : Soup) (w : World) (i0 : Int) (y : Str) (hM : strconv_Itoa_m i0 = some y) (_hS : ∀ k, S k → k < w.heap.size) (hg : (gtab 1 pow10).φ S w) :
    Calls Tryd.prog 44 #[.int .i64 i0] w (Ret w (.string y.ba)) := by
  unfold strconv_Itoa_m at hM
  split at hM
  · rename_i h
    obtain rfl := Option.some.inj hM
    refine (Tryd.strconv_Itoa i0 h.1 h.2 w (gtab_is hg (by kernel_rfl))).mono ?_
    rintro e w' ⟨rfl, k, os, rfl⟩
    refine ⟨rfl, rfl, rfl, rfl, ?_, fun j hj => ?_⟩
    · show w.heap.size ≤ (w.heap ++ os).size
      simp
    · show (w.heap ++ os)[j]? = w.heap[j]?
      exact Array.getElem?_append_left hj
  · cases hM
end Go.Proofs.YtohhihdjdelckaaDoor
