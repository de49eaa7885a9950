/- The table of the powers of ten, out of a row's list. -/
import Derived.Test.YtcalibhfgdncaaaGreatDoorDn
import Derived.Test.YtcalibhfgdncaaaGreatDoorRows
import Derived.Test.YtcalibhfgdncaaaGreatDoorIto
import Derived.KernelRfl
set_option linter.all false
namespace Go.Proofs.YtcalibhfgdncaaaGreatDoor
open Go.Dc
theorem gpow (w : World) (l : List (String × DataW Unit)) (h : laidMetH Tryz.prog l w) (hm : ("internal/strconv.uint64pow10", Rows.laid_internal_strconv_uint64pow10) ∈ l) : (gtab 3 pow10).φ (fun k => k < w.heap.size) w :=
 laid_ints h "internal/strconv.uint64pow10" 3 20 .u64 Lib.pow10Tab (by kernel_rfl) hm
end Go.Proofs.YtcalibhfgdncaaaGreatDoor
