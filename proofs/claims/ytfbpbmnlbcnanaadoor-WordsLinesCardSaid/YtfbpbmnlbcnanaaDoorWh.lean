/- Models of functions, and that the code computes them. -/
import Derived.Test.YtfbpbmnlbcnanaaDoorWd
import Derived.Test.YtfbpbmnlbcnanaaDoorWe
import Derived.Test.YtfbpbmnlbcnanaaDoorWf
namespace Go.Proofs.YtfbpbmnlbcnanaaDoor
open Go.Dc Go.RowKit
set_option maxRecDepth 10000
set_option linter.unusedVariables false
def law3_sameLines_m (s0 : Str) : Option Bool :=
  (words_Lines_m s0).bind fun y1 =>
  (ref1_Lines_m s0).bind fun y4 =>
  (keep_SameLists_api_Word_m y1.1 y4.1).bind fun y7 =>
  some ((y7 && decide (y1.2.1 = y4.2.1)) && decide (y1.2.2 = y4.2.2))
theorem law3_sameLines_spec (S : Soup) (w : World) (s0 : Str) (y : Bool) (hM : law3_sameLines_m s0 = some y) (hS : ∀ k, S k → k < w.heap.size)  :
    Calls Tryd.prog 22 #[.string s0.ba] w (Ret w (.bool y)) := by
  refine calls_cw (args := [_]) Tryd.func22 rfl ((pre_nil hS).start) rfl ?_
  unfold law3_sameLines_m at hM
  refine cw_seq fun K1 hK1 => ?_
  refine cw_region ?_
  refine ow_ev ev_assign ?_
  refine ow_nil (hK1 _ _ ?_); clear hK1
  refine cw_seq fun K2 hK2 => ?_
  refine cw_region ?_
  refine ow_ev ev_move ?_
  obtain ⟨y1, hy2, hM⟩ := bind_some hM
  refine ow_cons (st_callS SelL.nil (fun S w hs hP => words_Lines_spec _ w s0 y1 hy2 hs.lt )  (fun r3 => ?_))
  dsimp only [List.cons_append, List.nil_append]
  refine ow_ev ev_move ?_
  refine ow_ev (ev_extract (vs := [.slice r3.a y1.1.length r3.cap, .int .i64 y1.2.1, .int .i64 y1.2.2])) ?_
  refine ow_ev (ev_extract (vs := [.slice r3.a y1.1.length r3.cap, .int .i64 y1.2.1, .int .i64 y1.2.2])) ?_
  refine ow_ev (ev_extract (vs := [.slice r3.a y1.1.length r3.cap, .int .i64 y1.2.1, .int .i64 y1.2.2])) ?_
  refine ow_ev ev_assign ?_
  refine ow_ev ev_assign ?_
  refine ow_ev ev_assign ?_
  refine ow_nil (hK2 _ _ ?_); clear hK2
  refine cw_seq fun K3 hK3 => ?_
  refine cw_region ?_
  refine ow_ev ev_move ?_
  obtain ⟨y4, hy5, hM⟩ := bind_some hM
  refine ow_cons (st_callS SelL.nil (fun S w hs hP => ref1_Lines_spec _ w s0 y4 hy5 hs.lt )  (fun r6 => ?_))
  dsimp only [List.cons_append, List.nil_append]
  refine ow_ev ev_move ?_
  refine ow_ev (ev_extract (vs := [.slice r6.a y4.1.length r6.cap, .int .i64 y4.2.1, .int .i64 y4.2.2])) ?_
  refine ow_ev (ev_extract (vs := [.slice r6.a y4.1.length r6.cap, .int .i64 y4.2.1, .int .i64 y4.2.2])) ?_
  refine ow_ev (ev_extract (vs := [.slice r6.a y4.1.length r6.cap, .int .i64 y4.2.1, .int .i64 y4.2.2])) ?_
  refine ow_ev ev_assign ?_
  refine ow_ev ev_assign ?_
  refine ow_ev ev_assign ?_
  refine ow_nil (hK3 _ _ ?_); clear hK3
  refine cw_seq fun K4 hK4 => ?_
  refine cw_region ?_
  refine ow_ev ev_move ?_
  refine ow_ev ev_move ?_
  obtain ⟨y7, hy8, hM⟩ := bind_some hM
  refine ow_cons (st_callv (fun w hm => let ⟨S, hs⟩ := hm; keep_SameLists_api_Word_spec _ w y1.1 r3 y4.1 r6 y7 hy8 (lend_lt hs) (Kn.lend (Kn.trow (e := 33) (r := r3) (by repeat (first | exact Has.head | apply Has.tail))) hs) (Kn.lend (Kn.trow (e := 33) (r := r6) (by repeat (first | exact Has.head | apply Has.tail))) hs)) ?_)
  refine ow_ev ev_move ?_
  refine ow_evg rfl ev_move ?_
  refine ow_evg rfl ev_move ?_
  refine ow_evg rfl ev_eql ?_
  refine ow_ev ev_and ?_
  refine ow_ev ev_move ?_
  refine ow_evg rfl ev_move ?_
  refine ow_evg rfl ev_move ?_
  refine ow_evg rfl ev_eql ?_
  refine ow_ev ev_and ?_
  refine ow_ev ev_assign ?_
  refine ow_nil (hK4 _ _ ?_); clear hK4
  obtain rfl := some_inj hM
  refine cw_ret (kw_retc1 (fun w hm => ret_of hm rfl))

end Go.Proofs.YtfbpbmnlbcnanaaDoor
