/- Models of functions, and that the code computes them. -/
import Derived.Test.YtfbpbmnlbcnanaaDoorTypes
namespace Go.Proofs.YtfbpbmnlbcnanaaDoor
open Go.Dc Go.RowKit
set_option maxRecDepth 10000
set_option linter.unusedVariables false
def keep_Pick_m (v0 : Int) (n0 : Int) : Option Int :=
  chk (decide ((IntKind.u64.wrap n0) ≠ 0)) <|
  some (IntKind.i64.wrap ((IntKind.u64.wrap v0).tmod (IntKind.u64.wrap n0)))
theorem keep_Pick_spec (S : Soup) (w : World) (v0 : Int) (n0 : Int) (y : Int) (hM : keep_Pick_m v0 n0 = some y) (hS : ∀ k, S k → k < w.heap.size)  :
    Calls Tryd.prog 23 #[.int .i64 v0, .int .i64 n0] w (Ret w (.int .i64 y)) := by
  refine calls_cw (args := [_, _]) Tryd.func23 rfl ((pre_nil hS).start) rfl ?_
  unfold keep_Pick_m at hM
  refine cw_seq fun K1 hK1 => ?_
  refine cw_region ?_
  refine ow_ev ev_assign ?_
  refine ow_nil (hK1 _ _ ?_); clear hK1
  refine cw_seq fun K2 hK2 => ?_
  refine cw_region ?_
  refine ow_ev ev_move ?_
  refine ow_ev (ev_convert_int .u64) ?_
  refine ow_ev ev_move ?_
  refine ow_ev (ev_convert_int .u64) ?_
  obtain ⟨hI1, hM⟩ := chk_some hM
  refine ow_ev (ev_rem (hq := fun hg => of_decide_eq_true hI1)) ?_
  refine ow_ev (ev_convert_int .i64) ?_
  refine ow_ev ev_assign ?_
  refine ow_nil (hK2 _ _ ?_); clear hK2
  obtain rfl := some_inj hM
  refine cw_ret (kw_retc1 (fun w hm => ret_of hm rfl))

end Go.Proofs.YtfbpbmnlbcnanaaDoor
