/- The variables that the walks read, out of a row's list. -/
import Derived.Test.YtohhihdjdelckaaDoorDm
import Derived.Test.YtohhihdjdelckaaDoorRows
import Derived.Test.YtohhihdjdelckaaDoorIto
import Derived.KernelRfl
set_option linter.all false
namespace Go.Proofs.YtohhihdjdelckaaDoor
open Go.Dc
theorem gpow (w : World) (l : List (String × DataW Unit)) (h : laidMetH Tryd.prog l w) (hm : ("internal/strconv.uint64pow10", Rows.laid_internal_strconv_uint64pow10) ∈ l) : (gtab 1 pow10).φ (fun k => k < w.heap.size) w :=
  laid_ints h "internal/strconv.uint64pow10" 1 20 .u64 Lib.pow10Tab (by kernel_rfl) hm
theorem gsides (w : World) (l : List (String × DataW Unit)) (h : laidMetH Tryd.prog l w) (hm : ("railplan/layout.sides", Rows.laid_railplan_layout_sides) ∈ l) :
    (imm (α := (List Str)) (⟨some ⟨0, 0, none⟩, 2, fun _ => ()⟩ : SR Unit) ([(⟨[65]⟩ : Str), (⟨[66]⟩ : Str)] : List Str)).φ (fun k => k < w.heap.size) w :=
  gtab_str (laid_strs h "railplan/layout.sides" 0 2 [⟨[65]⟩, ⟨[66]⟩] (by kernel_rfl) hm) (by simp)
end Go.Proofs.YtohhihdjdelckaaDoor
