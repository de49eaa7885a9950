/- Models of functions, and that the code computes them. -/
import Derived.Test.YtfbpbmnlbcnanaaDoorTypes
set_option linter.all false
namespace Go.Proofs.YtfbpbmnlbcnanaaDoor
open Go.Dc Go.RowKit
set_option maxRecDepth 10000
def ref1_plain_m (c0 : Int) : Option Bool :=
  some ((decide (33 ≤ c0) && decide (c0 ≤ 126)) && decide (c0 ≠ 35))
theorem ref1_plain_spec (S : Soup) (w : World) (c0 : Int) (y : Bool) (hM : ref1_plain_m c0 = some y) (hS : ∀ k, S k → k < w.heap.size)  :
    Calls Tryd.prog 42 #[.int .u8 c0] w (Ret w (.bool y)) := by
  refine calls_cw (args := [_]) Tryd.func42 rfl ((pre_nil hS).start) rfl ?_
  unfold ref1_plain_m at hM
  refine cw_seq fun K1 hK1 => ?_
  refine cw_region ?_
  refine ow_ev ev_assign ?_
  refine ow_nil (hK1 _ _ ?_); clear hK1
  refine cw_seq fun K2 hK2 => ?_
  refine cw_region ?_
  refine ow_ev ev_move ?_
  refine ow_ev ev_geq ?_
  refine ow_ev ev_move ?_
  refine ow_evg rfl ev_move ?_
  refine ow_evg rfl ev_leq ?_
  refine ow_ev ev_and ?_
  refine ow_ev ev_move ?_
  refine ow_evg rfl ev_move ?_
  refine ow_evg rfl ev_neq ?_
  refine ow_ev ev_and ?_
  refine ow_ev ev_assign ?_
  refine ow_nil (hK2 _ _ ?_); clear hK2
  obtain rfl := some_inj hM
  refine cw_ret (kw_retc1 (fun w hm => ret_of hm rfl))

end Go.Proofs.YtfbpbmnlbcnanaaDoor
