/- Models of functions, and that the code computes them. -/
import Derived.Test.YtfbpbmnlbcnanaaDoorWg
import Derived.Test.YtfbpbmnlbcnanaaDoorWh
namespace Go.Proofs.YtfbpbmnlbcnanaaDoor
open Go.Dc Go.RowKit
set_option maxRecDepth 10000
set_option linter.unusedVariables false
def law3_WordsLines_m (s0 : Str) (l0 : List UInt8) : Option Bool :=
  (law3_awake_m).bind fun y1 =>
  (whn y1 default (law3_sameLines_m s0)).bind fun y3 =>
  (whn (y1 && y3) default (law3_pieces_m l0)).bind fun y5 =>
  (whn (y1 && y3) default (law3_sameLines_m y5)).bind fun y7 =>
  some ((y1 && y3) && y7)
theorem law3_WordsLines_spec (S : Soup) (w : World) (s0 : Str) (l0 : List UInt8) (r_l0 : GoRep.R (List UInt8)) (y : Bool) (hM : law3_WordsLines_m s0 l0 = some y) (hS : ∀ k, S k → k < w.heap.size) (h_l0 : GoRep.ok S w r_l0 l0) :
    Calls Tryd.prog 6 #[.string s0.ba, .slice r_l0.a l0.length r_l0.cap] w (Ret w (.bool y)) := by
  refine calls_cw (args := [_, _]) Tryd.func6 rfl ((pre_nil hS).start |>.immP (α := List UInt8) (r := r_l0) (x := l0) h_l0) rfl ?_
  unfold law3_WordsLines_m at hM
  refine cw_seq fun K1 hK1 => ?_
  refine cw_region ?_
  refine ow_ev ev_assign ?_
  refine ow_nil (hK1 _ _ ?_); clear hK1
  refine cw_seq fun K2 hK2 => ?_
  refine cw_region ?_
  obtain ⟨y1, hy2, hM⟩ := bind_some hM
  refine ow_cons (st_callv (fun w hm => let ⟨S, hs⟩ := hm; law3_awake_spec _ w  y1 hy2 (lend_lt hs) ) ?_)
  refine ow_ev ev_move ?_
  refine ow_evg rfl ev_move ?_
  obtain ⟨y3, hy4, hM⟩ := bind_some hM
  refine ow_callg rfl (fun hg w hm => let ⟨S, hs⟩ := hm; law3_sameLines_spec _ w s0 y3 (whn_some hy4 hg) (lend_lt hs) ) ?_
  refine ow_ev ev_and ?_
  refine ow_ev ev_move ?_
  refine ow_evg rfl ev_move ?_
  obtain ⟨y5, hy6, hM⟩ := bind_some hM
  refine ow_callg rfl (fun hg w hm => let ⟨S, hs⟩ := hm; law3_pieces_spec _ w l0 r_l0 y5 (whn_some hy6 hg) (lend_lt hs) (Kn.lend (Kn.imm (α := List UInt8) (r := r_l0) (x := l0) (by repeat (first | exact Has.head | apply Has.tail))) hs)) ?_
  obtain ⟨y7, hy8, hM⟩ := bind_some hM
  refine ow_callg rfl (fun hg w hm => let ⟨S, hs⟩ := hm; law3_sameLines_spec _ w y5 y7 (whn_some hy8 hg) (lend_lt hs) ) ?_
  refine ow_ev ev_and ?_
  refine ow_ev ev_assign ?_
  refine ow_nil (hK2 _ _ ?_); clear hK2
  obtain rfl := some_inj hM
  refine cw_ret (kw_retc1 (fun w hm => ret_of hm rfl))

end Go.Proofs.YtfbpbmnlbcnanaaDoor
