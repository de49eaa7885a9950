/- Models of functions, and that the code computes them. -/
import Derived.Test.YtnihhidbiepnhaaRb
import Derived.Test.YtnihhidbiepnhaaRm
namespace Go.Proofs.Ytnihhidbiepnhaa
open Go.Dc Go.RowKit
set_option maxRecDepth 10000
set_option linter.unusedVariables false
def ref6_in_m (n0 : Int) (lo0 : Int) (hi0 : Int) : Option Bool :=
  some (decide (lo0 ≤ n0) && decide (n0 ≤ hi0))
theorem ref6_in_spec (S : Soup) (w : World) (n0 : Int) (lo0 : Int) (hi0 : Int) (y : Bool) (hM : ref6_in_m n0 lo0 hi0 = some y) (hS : ∀ k, S k → k < w.heap.size)  :
    Calls Try.prog 84 #[.int .i64 n0, .int .i64 lo0, .int .i64 hi0] w (Ret w (.bool y)) := by
  refine calls_cw (args := [_, _, _]) Try.func84 rfl ((pre_nil hS).start) rfl ?_
  unfold ref6_in_m at hM
  refine cw_seq fun K1 hK1 => ?_
  refine cw_region ?_
  refine ow_ev ev_assign ?_
  refine ow_nil (hK1 _ _ ?_); clear hK1
  refine cw_seq fun K2 hK2 => ?_
  refine cw_region ?_
  refine ow_ev ev_move ?_
  refine ow_ev ev_move ?_
  refine ow_ev ev_geq ?_
  refine ow_ev ev_move ?_
  refine ow_evg rfl ev_move ?_
  refine ow_evg rfl ev_move ?_
  refine ow_evg rfl ev_leq ?_
  refine ow_ev ev_and ?_
  refine ow_ev ev_assign ?_
  refine ow_nil (hK2 _ _ ?_); clear hK2
  obtain rfl := some_inj hM
  refine cw_ret (kw_retc1 (fun w hm => ret_of hm rfl))

end Go.Proofs.Ytnihhidbiepnhaa
