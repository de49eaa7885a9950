/- The table of the powers of ten, out of a row's list. -/
import Derived.Test.YtcalibhfgdncaaaGreatDoorDn
import Derived.Test.YtcalibhfgdncaaaGreatDoorRows
import Derived.Test.YtcalibhfgdncaaaGreatDoorIto
import Derived.KernelRfl
set_option linter.all false
namespace Go.Proofs.YtcalibhfgdncaaaGreatDoor
open Go.Dc
theorem aja(w:World)(l:List (String×DataW Unit))(h:laidMetH Tryz.prog l w)(hm:("internal/strconv.uint64pow10",Rows.laid_internal_strconv_uint64pow10)∈l):(gL 3 iC).φ (fun k=>k<w.heap.size) w:=
 al8 h "internal/strconv.uint64pow10" 3 20 .u64 Lib.pow10Tab (by kernel_rfl) hm
end Go.Proofs.YtcalibhfgdncaaaGreatDoor
