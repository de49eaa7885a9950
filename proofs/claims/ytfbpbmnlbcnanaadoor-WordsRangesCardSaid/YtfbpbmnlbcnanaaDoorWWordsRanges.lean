/- Models of functions, and that the code computes them. -/
import Derived.Test.YtfbpbmnlbcnanaaDoorWg
import Derived.Test.YtfbpbmnlbcnanaaDoorWe
import Derived.Test.YtfbpbmnlbcnanaaDoorWj
import Derived.Test.YtfbpbmnlbcnanaaDoorWf
namespace Go.Proofs.YtfbpbmnlbcnanaaDoor
open Go.Dc Go.RowKit
set_option maxRecDepth 10000
set_option linter.unusedVariables false
def law3_WordsRanges_m (a0 : Int) (b0 : Int) : Option Bool :=
  (keep_Pick_m a0 4001).bind fun y1 =>
  chk (i64b (y1 - 2000)) <|
  (keep_Pick_m b0 4001).bind fun y4 =>
  chk (i64b (y4 - 2000)) <|
  (ref1_Decimal_m (y1 - 2000)).bind fun y7 =>
  (strCat y7 (⟨[46, 46]⟩ : Str)).bind fun q9 =>
  (ref1_Decimal_m (y4 - 2000)).bind fun y11 =>
  (strCat q9 y11).bind fun q13 =>
  (words_Range_m q13).bind fun y15 =>
  if decide ((y4 - 2000) < (y1 - 2000)) then
    ((law3_awake_m).bind fun y18 =>
    some (((y18 && (!y15.2.2)) && decide (y15.1 = 0)) && decide (y15.2.1 = 0)))
  else
    ((law3_awake_m).bind fun y20 =>
    some (((y20 && y15.2.2) && decide (y15.1 = (y1 - 2000))) && decide (y15.2.1 = (y4 - 2000))))
theorem law3_WordsRanges_spec (S : Soup) (w : World) (a0 : Int) (b0 : Int) (y : Bool) (hM : law3_WordsRanges_m a0 b0 = some y) (hS : ∀ k, S k → k < w.heap.size) (hg_0 : (gint 0).φ S w) :
    Calls Tryd.prog 10 #[.int .i64 a0, .int .i64 b0] w (Ret w (.bool y)) := by
  refine calls_cw (args := [_, _]) Tryd.func10 rfl ((pre_nil hS).start |>.factP (c := gint 0) (fun _ h => False.elim h) hg_0) rfl ?_
  unfold law3_WordsRanges_m at hM
  refine cw_seq fun K1 hK1 => ?_
  refine cw_region ?_
  refine ow_ev ev_assign ?_
  refine ow_nil (hK1 _ _ ?_); clear hK1
  refine cw_seq fun K2 hK2 => ?_
  refine cw_region ?_
  refine ow_ev ev_move ?_
  obtain ⟨y1, hy2, hM⟩ := bind_some hM
  refine ow_cons (st_callv (fun w hm => let ⟨S, hs⟩ := hm; keep_Pick_spec _ w a0 4001 y1 hy2 (lend_lt hs) ) ?_)
  obtain ⟨hI3, hM⟩ := chk_some hM
  refine ow_ev (ev_sub (hr := fun hg => i64b_I64 hI3)) ?_
  refine ow_ev ev_move ?_
  obtain ⟨y4, hy5, hM⟩ := bind_some hM
  refine ow_cons (st_callv (fun w hm => let ⟨S, hs⟩ := hm; keep_Pick_spec _ w b0 4001 y4 hy5 (lend_lt hs) ) ?_)
  obtain ⟨hI6, hM⟩ := chk_some hM
  refine ow_ev (ev_sub (hr := fun hg => i64b_I64 hI6)) ?_
  refine ow_ev ev_assign ?_
  refine ow_ev ev_assign ?_
  refine ow_nil (hK2 _ _ ?_); clear hK2
  refine cw_seq fun K3 hK3 => ?_
  refine cw_region ?_
  refine ow_ev ev_move ?_
  obtain ⟨y7, hy8, hM⟩ := bind_some hM
  refine ow_cons (st_callv (fun w hm => let ⟨S, hs⟩ := hm; ref1_Decimal_spec _ w (y1 - 2000) y7 hy8 (lend_lt hs) ) ?_)
  obtain ⟨q9, hq10, hM⟩ := bind_some hM
  refine ow_ev (ev_scat (fun _ => hq10)) ?_
  refine ow_ev ev_move ?_
  obtain ⟨y11, hy12, hM⟩ := bind_some hM
  refine ow_cons (st_callv (fun w hm => let ⟨S, hs⟩ := hm; ref1_Decimal_spec _ w (y4 - 2000) y11 hy12 (lend_lt hs) ) ?_)
  obtain ⟨q13, hq14, hM⟩ := bind_some hM
  refine ow_ev (ev_scat (fun _ => hq14)) ?_
  obtain ⟨y15, hy16, hM⟩ := bind_some hM
  refine ow_cons (st_callv (fun w hm => let ⟨S, hs⟩ := hm; words_Range_spec _ w q13 y15 hy16 (lend_lt hs) (Chunk.mono _ _ _ _ (fun _ h => .inl h) (((by repeat (first | exact Has.head | apply Has.tail)) : Has _ (gint 0)).φ hs))) ?_)
  refine ow_ev ev_move ?_
  refine ow_ev (ev_extract (vs := [.int .i64 y15.1, .int .i64 y15.2.1, .bool y15.2.2])) ?_
  refine ow_ev (ev_extract (vs := [.int .i64 y15.1, .int .i64 y15.2.1, .bool y15.2.2])) ?_
  refine ow_ev (ev_extract (vs := [.int .i64 y15.1, .int .i64 y15.2.1, .bool y15.2.2])) ?_
  refine ow_ev ev_assign ?_
  refine ow_ev ev_assign ?_
  refine ow_ev ev_assign ?_
  refine ow_nil (hK3 _ _ ?_); clear hK3
  refine cw_seq fun K4 hK4 => ?_
  refine cw_seq fun K5 hK5 => ?_
  refine cw_region ?_
  refine ow_ev ev_move ?_
  refine ow_ev ev_move ?_
  refine ow_ev ev_gtr ?_
  refine ow_nil (hK5 _ _ ?_); clear hK5
  refine cw_cond rfl (fun hc17 => ?_) (fun hc17 => ?_)
  ·
    replace hM := (ite_t hc17).symm.trans hM
    refine cw_seq fun K6 hK6 => ?_
    refine cw_region ?_
    obtain ⟨y18, hy19, hM⟩ := bind_some hM
    refine ow_cons (st_callv (fun w hm => let ⟨S, hs⟩ := hm; law3_awake_spec _ w  y18 hy19 (lend_lt hs) ) ?_)
    refine ow_ev ev_move ?_
    refine ow_evg rfl ev_move ?_
    refine ow_evg rfl ev_not ?_
    refine ow_ev ev_and ?_
    refine ow_ev ev_move ?_
    refine ow_evg rfl ev_move ?_
    refine ow_evg rfl ev_eql ?_
    refine ow_ev ev_and ?_
    refine ow_ev ev_move ?_
    refine ow_evg rfl ev_move ?_
    refine ow_evg rfl ev_eql ?_
    refine ow_ev ev_and ?_
    refine ow_ev ev_assign ?_
    refine ow_nil (hK6 _ _ ?_); clear hK6
    obtain rfl := some_inj hM
    refine cw_ret (kw_retc1 (fun w hm => ret_of hm rfl))
  ·
    replace hM := (ite_f hc17).symm.trans hM
    refine cw_skip (hK4 _ _ ?_); clear hK4
    refine cw_seq fun K7 hK7 => ?_
    refine cw_region ?_
    obtain ⟨y20, hy21, hM⟩ := bind_some hM
    refine ow_cons (st_callv (fun w hm => let ⟨S, hs⟩ := hm; law3_awake_spec _ w  y20 hy21 (lend_lt hs) ) ?_)
    refine ow_ev ev_move ?_
    refine ow_evg rfl ev_move ?_
    refine ow_ev ev_and ?_
    refine ow_ev ev_move ?_
    refine ow_evg rfl ev_move ?_
    refine ow_evg rfl ev_move ?_
    refine ow_evg rfl ev_eql ?_
    refine ow_ev ev_and ?_
    refine ow_ev ev_move ?_
    refine ow_evg rfl ev_move ?_
    refine ow_evg rfl ev_move ?_
    refine ow_evg rfl ev_eql ?_
    refine ow_ev ev_and ?_
    refine ow_ev ev_assign ?_
    refine ow_nil (hK7 _ _ ?_); clear hK7
    obtain rfl := some_inj hM
    refine cw_ret (kw_retc1 (fun w hm => ret_of hm rfl))

end Go.Proofs.YtfbpbmnlbcnanaaDoor
