/- Models of functions, and that the code computes them. -/
import Derived.Test.YtfbpbmnlbcnanaaDoorWb
import Derived.Test.YtfbpbmnlbcnanaaDoorWc
import Derived.Test.YtfbpbmnlbcnanaaDoorWCut
namespace Go.Proofs.YtfbpbmnlbcnanaaDoor
open Go.Dc Go.RowKit
set_option maxRecDepth 10000
set_option linter.unusedVariables false
def words_Range_m (s0 : Str) : Option (Int × Int × Bool) :=
  (strings_Cut2_m s0 (⟨[46, 46]⟩ : Str)).bind fun y1 =>
  (words_Number_m y1.1).bind fun y3 =>
  (words_Number_m y1.2.1).bind fun y5 =>
  if (((!y3.2) || (!y5.2)) || decide (y5.1 < y3.1)) then
    (some (0, 0, false))
  else
    (some (y3.1, y5.1, true))
theorem words_Range_spec (S : Soup) (w : World) (s0 : Str) (y : Int × Int × Bool) (hM : words_Range_m s0 = some y) (hS : ∀ k, S k → k < w.heap.size) (hg_0 : (gint 0).φ S w) :
    Calls Tryd.prog 15 #[.string s0.ba] w (Ret w (.tuple #[.int .i64 y.1, .int .i64 y.2.1, .bool y.2.2])) := by
  refine calls_cw (args := [_]) Tryd.func15 rfl ((pre_nil hS).start |>.factP (c := gint 0) (fun _ h => False.elim h) hg_0) rfl ?_
  unfold words_Range_m at hM
  refine cw_seq fun K1 hK1 => ?_
  refine cw_region ?_
  refine ow_ev ev_assign ?_
  refine ow_ev ev_assign ?_
  refine ow_ev ev_assign ?_
  refine ow_nil (hK1 _ _ ?_); clear hK1
  refine cw_seq fun K2 hK2 => ?_
  refine cw_region ?_
  refine ow_ev ev_move ?_
  obtain ⟨y1, hy2, hM⟩ := bind_some hM
  refine ow_cons (st_callv (fun w hm => let ⟨S, hs⟩ := hm; strings_Cut2_spec _ w s0 (⟨[46, 46]⟩ : Str) y1 hy2 (lend_lt hs) (Chunk.mono _ _ _ _ (fun _ h => .inl h) (((by repeat (first | exact Has.head | apply Has.tail)) : Has _ (gint 0)).φ hs))) ?_)
  refine ow_ev ev_move ?_
  refine ow_ev (ev_extract (vs := [.string y1.1.ba, .string y1.2.1.ba, .bool y1.2.2])) ?_
  refine ow_ev (ev_extract (vs := [.string y1.1.ba, .string y1.2.1.ba, .bool y1.2.2])) ?_
  refine ow_ev (ev_extract (vs := [.string y1.1.ba, .string y1.2.1.ba, .bool y1.2.2])) ?_
  refine ow_ev ev_assign ?_
  refine ow_ev ev_assign ?_
  refine ow_ev ev_assign ?_
  refine ow_nil (hK2 _ _ ?_); clear hK2
  refine cw_seq fun K3 hK3 => ?_
  refine cw_region ?_
  refine ow_ev ev_move ?_
  obtain ⟨y3, hy4, hM⟩ := bind_some hM
  refine ow_cons (st_callv (fun w hm => let ⟨S, hs⟩ := hm; words_Number_spec _ w y1.1 y3 hy4 (lend_lt hs) ) ?_)
  refine ow_ev ev_move ?_
  refine ow_ev (ev_extract (vs := [.int .i64 y3.1, .bool y3.2])) ?_
  refine ow_ev (ev_extract (vs := [.int .i64 y3.1, .bool y3.2])) ?_
  refine ow_ev ev_assign ?_
  refine ow_ev ev_assign ?_
  refine ow_nil (hK3 _ _ ?_); clear hK3
  refine cw_seq fun K4 hK4 => ?_
  refine cw_region ?_
  refine ow_ev ev_move ?_
  obtain ⟨y5, hy6, hM⟩ := bind_some hM
  refine ow_cons (st_callv (fun w hm => let ⟨S, hs⟩ := hm; words_Number_spec _ w y1.2.1 y5 hy6 (lend_lt hs) ) ?_)
  refine ow_ev ev_move ?_
  refine ow_ev (ev_extract (vs := [.int .i64 y5.1, .bool y5.2])) ?_
  refine ow_ev (ev_extract (vs := [.int .i64 y5.1, .bool y5.2])) ?_
  refine ow_ev ev_assign ?_
  refine ow_ev ev_assign ?_
  refine ow_nil (hK4 _ _ ?_); clear hK4
  refine cw_seq fun K5 hK5 => ?_
  refine cw_seq fun K6 hK6 => ?_
  refine cw_region ?_
  refine ow_ev ev_move ?_
  refine ow_ev ev_not ?_
  refine ow_ev ev_move ?_
  refine ow_evg rfl ev_move ?_
  refine ow_evg rfl ev_not ?_
  refine ow_ev ev_or ?_
  refine ow_ev ev_move ?_
  refine ow_evg rfl ev_move ?_
  refine ow_evg rfl ev_move ?_
  refine ow_evg rfl ev_gtr ?_
  refine ow_ev ev_or ?_
  refine ow_nil (hK6 _ _ ?_); clear hK6
  refine cw_cond rfl (fun hc7 => ?_) (fun hc7 => ?_)
  ·
    replace hM := (ite_t hc7).symm.trans hM
    refine cw_seq fun K7 hK7 => ?_
    refine cw_region ?_
    refine ow_ev ev_assign ?_
    refine ow_ev ev_assign ?_
    refine ow_ev ev_assign ?_
    refine ow_nil (hK7 _ _ ?_); clear hK7
    obtain rfl := some_inj hM
    refine cw_ret (kw_retc3 (fun w hm => ret_of hm rfl))
  ·
    replace hM := (ite_f hc7).symm.trans hM
    refine cw_skip (hK5 _ _ ?_); clear hK5
    refine cw_seq fun K8 hK8 => ?_
    refine cw_region ?_
    refine ow_ev ev_move ?_
    refine ow_ev ev_move ?_
    refine ow_ev ev_assign ?_
    refine ow_ev ev_assign ?_
    refine ow_ev ev_assign ?_
    refine ow_nil (hK8 _ _ ?_); clear hK8
    obtain rfl := some_inj hM
    refine cw_ret (kw_retc3 (fun w hm => ret_of hm rfl))

end Go.Proofs.YtfbpbmnlbcnanaaDoor
