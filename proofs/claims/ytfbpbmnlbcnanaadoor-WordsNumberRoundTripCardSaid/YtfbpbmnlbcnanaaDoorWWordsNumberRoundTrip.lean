/- Models of functions, and that the code computes them. -/
import Derived.Test.YtfbpbmnlbcnanaaDoorWg
import Derived.Test.YtfbpbmnlbcnanaaDoorWe
namespace Go.Proofs.YtfbpbmnlbcnanaaDoor
open Go.Dc Go.RowKit
set_option maxRecDepth 10000
set_option linter.unusedVariables false
def law3_WordsNumberRoundTrip_m (n0 : Int) (shift0 : Int) : Option Bool :=
  chk (decide (0 ≤ (shift0.tmod 64))) <|
  (ref1_Decimal_m (shrI .i64 n0 (shift0.tmod 64))).bind fun y2 =>
  (words_Number_m y2).bind fun y4 =>
  if (decide (1099511627776 < (shrI .i64 n0 (shift0.tmod 64))) || decide ((shrI .i64 n0 (shift0.tmod 64)) < (-1099511627776))) then
    ((law3_awake_m).bind fun y7 =>
    some ((y7 && (!y4.2)) && decide (y4.1 = 0)))
  else
    ((law3_awake_m).bind fun y9 =>
    some ((y9 && y4.2) && decide (y4.1 = (shrI .i64 n0 (shift0.tmod 64)))))
theorem law3_WordsNumberRoundTrip_spec (S : Soup) (w : World) (n0 : Int) (shift0 : Int) (y : Bool) (hM : law3_WordsNumberRoundTrip_m n0 shift0 = some y) (hS : ∀ k, S k → k < w.heap.size)  :
    Calls Tryd.prog 5 #[.int .i64 n0, .int .u8 shift0] w (Ret w (.bool y)) := by
  refine calls_cw (args := [_, _]) Tryd.func5 rfl ((pre_nil hS).start) rfl ?_
  unfold law3_WordsNumberRoundTrip_m at hM
  refine cw_seq fun K1 hK1 => ?_
  refine cw_region ?_
  refine ow_ev ev_assign ?_
  refine ow_nil (hK1 _ _ ?_); clear hK1
  refine cw_seq fun K2 hK2 => ?_
  refine cw_region ?_
  refine ow_ev ev_move ?_
  refine ow_ev ev_move ?_
  refine ow_ev ev_rem ?_
  obtain ⟨hI1, hM⟩ := chk_some hM
  refine ow_ev (ev_shr' (fun hg => of_decide_eq_true hI1)) ?_
  refine ow_ev ev_assign ?_
  refine ow_nil (hK2 _ _ ?_); clear hK2
  refine cw_seq fun K3 hK3 => ?_
  refine cw_region ?_
  refine ow_ev ev_move ?_
  obtain ⟨y2, hy3, hM⟩ := bind_some hM
  refine ow_cons (st_callv (fun w hm => let ⟨S, hs⟩ := hm; ref1_Decimal_spec _ w (shrI .i64 n0 (shift0.tmod 64)) y2 hy3 (lend_lt hs) ) ?_)
  obtain ⟨y4, hy5, hM⟩ := bind_some hM
  refine ow_cons (st_callv (fun w hm => let ⟨S, hs⟩ := hm; words_Number_spec _ w y2 y4 hy5 (lend_lt hs) ) ?_)
  refine ow_ev ev_move ?_
  refine ow_ev (ev_extract (vs := [.int .i64 y4.1, .bool y4.2])) ?_
  refine ow_ev (ev_extract (vs := [.int .i64 y4.1, .bool y4.2])) ?_
  refine ow_ev ev_assign ?_
  refine ow_ev ev_assign ?_
  refine ow_nil (hK3 _ _ ?_); clear hK3
  refine cw_seq fun K4 hK4 => ?_
  refine cw_seq fun K5 hK5 => ?_
  refine cw_region ?_
  refine ow_ev ev_move ?_
  refine ow_ev ev_gtr ?_
  refine ow_ev ev_move ?_
  refine ow_evg rfl ev_move ?_
  refine ow_evg rfl ev_lss ?_
  refine ow_ev ev_or ?_
  refine ow_nil (hK5 _ _ ?_); clear hK5
  refine cw_cond rfl (fun hc6 => ?_) (fun hc6 => ?_)
  ·
    replace hM := (ite_t hc6).symm.trans hM
    refine cw_seq fun K6 hK6 => ?_
    refine cw_region ?_
    obtain ⟨y7, hy8, hM⟩ := bind_some hM
    refine ow_cons (st_callv (fun w hm => let ⟨S, hs⟩ := hm; law3_awake_spec _ w  y7 hy8 (lend_lt hs) ) ?_)
    refine ow_ev ev_move ?_
    refine ow_evg rfl ev_move ?_
    refine ow_evg rfl ev_not ?_
    refine ow_ev ev_and ?_
    refine ow_ev ev_move ?_
    refine ow_evg rfl ev_move ?_
    refine ow_evg rfl ev_eql ?_
    refine ow_ev ev_and ?_
    refine ow_ev ev_assign ?_
    refine ow_nil (hK6 _ _ ?_); clear hK6
    obtain rfl := some_inj hM
    refine cw_ret (kw_retc1 (fun w hm => ret_of hm rfl))
  ·
    replace hM := (ite_f hc6).symm.trans hM
    refine cw_skip (hK4 _ _ ?_); clear hK4
    refine cw_seq fun K7 hK7 => ?_
    refine cw_region ?_
    obtain ⟨y9, hy10, hM⟩ := bind_some hM
    refine ow_cons (st_callv (fun w hm => let ⟨S, hs⟩ := hm; law3_awake_spec _ w  y9 hy10 (lend_lt hs) ) ?_)
    refine ow_ev ev_move ?_
    refine ow_evg rfl ev_move ?_
    refine ow_ev ev_and ?_
    refine ow_ev ev_move ?_
    refine ow_evg rfl ev_move ?_
    refine ow_evg rfl ev_move ?_
    refine ow_evg rfl ev_eql ?_
    refine ow_ev ev_and ?_
    refine ow_ev ev_assign ?_
    refine ow_nil (hK7 _ _ ?_); clear hK7
    obtain rfl := some_inj hM
    refine cw_ret (kw_retc1 (fun w hm => ret_of hm rfl))

end Go.Proofs.YtfbpbmnlbcnanaaDoor
