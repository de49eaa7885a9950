/- Models of functions, and that the code computes them. -/
import Derived.Test.YtcalibhfgdncaaaGreatDoorYc
set_option linter.all false
namespace Go.Proofs.YtcalibhfgdncaaaGreatDoor
open Go.Dc Go.RowKit
set_option maxRecDepth 10000
def law10_text_m  : Option Str :=
  some (⟨[112, 101, 114, 105, 111, 100, 32, 54, 48, 48, 10, 115, 116, 111, 99, 107, 32, 83, 32, 49, 48, 32, 50, 48, 48, 48, 48, 32, 53, 48, 48, 32, 53, 48, 48, 10, 114, 111, 117, 116, 101, 32, 78, 49, 32, 100, 111, 119, 110, 32, 84, 32, 100, 111, 119, 110, 10, 108, 105, 110, 101, 32, 65, 32, 83, 32, 53, 10, 114, 105, 100, 101, 32, 48, 32, 51, 48, 10]⟩ : Str)
theorem law10_text_spec (S : Soup) (w : World)  (y : Str) (hM : law10_text_m  = some y) (hS : ∀ k, S k → k < w.heap.size)  :
    Calls Tryz.prog 19 #[] w (Ret w (.string y.ba)) := by
 refine calls_cw (args := []) Tryz.func19 rfl ((pre_nil hS).start) rfl ?_; unfold law10_text_m at hM; refine sr ?_; refine oa ?_; refine on ?_; refine sr ?_; refine oa ?_; refine on ?_; obtain rfl := some_inj hM; refine cw_ret (kw_retc1 (fun w hm => ret_of hm rfl))
end Go.Proofs.YtcalibhfgdncaaaGreatDoor
