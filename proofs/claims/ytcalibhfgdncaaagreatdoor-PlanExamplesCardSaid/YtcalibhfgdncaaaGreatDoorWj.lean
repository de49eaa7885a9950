/- Models of functions, and that the code computes them. -/
import Derived.Test.YtcalibhfgdncaaaGreatDoorWb
import Derived.Test.YtcalibhfgdncaaaGreatDoorWc
import Derived.Test.YtcalibhfgdncaaaGreatDoorWCut
set_option linter.all false
namespace Go.Proofs.YtcalibhfgdncaaaGreatDoor
open Go.Dc Go.RowKit
set_option maxRecDepth 10000
def words_Range_m (s0 : Str) : Option (Int × Int × Bool) :=
  (strings_Cut2_m s0 (⟨[46, 46]⟩ : Str)).bind fun y1 =>
  (words_Number_m y1.1).bind fun y3 =>
  (words_Number_m y1.2.1).bind fun y5 =>
  if (((!y3.2) || (!y5.2)) || decide (y5.1 < y3.1)) then
    (some (0, 0, false))
  else
    (some (y3.1, y5.1, true))
theorem words_Range_spec (S : Soup) (w : World) (s0 : Str) (y : Int × Int × Bool) (hM : words_Range_m s0 = some y) (hS : ∀ k, S k → k < w.heap.size) (hg_2 : (gint 2).φ S w) :
    Calls Tryz.prog 160 #[.string s0.ba] w (Ret w (.tuple #[.int .i64 y.1, .int .i64 y.2.1, .bool y.2.2])) := by
 refine calls_cw (args := [_]) Tryz.func160 rfl ((pre_nil hS).start |>.factP (c := gint 2) (fun _ h => False.elim h) hg_2) rfl ?_; unfold words_Range_m at hM; refine sr ?_; refine oa ?_; refine oa ?_; refine oa ?_; refine on ?_; refine sr ?_; refine om ?_; obtain ⟨y1, hy2, hM⟩ := bind_some hM; refine ow_cons (st_callv (fun w hm => let ⟨S, hs⟩ := hm; strings_Cut2_spec _ w s0 (⟨[46, 46]⟩ : Str) y1 hy2 (lend_lt hs) (Chunk.mono _ _ _ _ (fun _ h => .inl h) ((hA : Has _ (gint 2)).φ hs))) ?_); refine om ?_; refine oe (ev_extract (vs := [.string y1.1.ba, .string y1.2.1.ba, .bool y1.2.2])) ?_; refine oe (ev_extract (vs := [.string y1.1.ba, .string y1.2.1.ba, .bool y1.2.2])) ?_; refine oe (ev_extract (vs := [.string y1.1.ba, .string y1.2.1.ba, .bool y1.2.2])) ?_; refine oa ?_; refine oa ?_; refine oa ?_; refine on ?_; refine sr ?_; refine om ?_; obtain ⟨y3, hy4, hM⟩ := bind_some hM; refine ow_cons (st_callv (fun w hm => let ⟨S, hs⟩ := hm; words_Number_spec _ w y1.1 y3 hy4 (lend_lt hs) ) ?_); refine om ?_; refine oe (ev_extract (vs := [.int .i64 y3.1, .bool y3.2])) ?_; refine oe (ev_extract (vs := [.int .i64 y3.1, .bool y3.2])) ?_; refine oa ?_; refine oa ?_; refine on ?_; refine cw_seq fun K4 hK4 => ?_
 refine cw_region ?_; refine om ?_; obtain ⟨y5, hy6, hM⟩ := bind_some hM; refine ow_cons (st_callv (fun w hm => let ⟨S, hs⟩ := hm; words_Number_spec _ w y1.2.1 y5 hy6 (lend_lt hs) ) ?_); refine om ?_; refine oe (ev_extract (vs := [.int .i64 y5.1, .bool y5.2])) ?_; refine oe (ev_extract (vs := [.int .i64 y5.1, .bool y5.2])) ?_; refine oa ?_; refine oa ?_; refine ow_nil (hK4 _ _ ?_); clear hK4; refine cw_seq fun K5 hK5 => ?_; refine sr ?_; refine om ?_; refine oe ev_not ?_; refine om ?_; refine ow_evg rfl ev_move ?_; refine ow_evg rfl ev_not ?_; refine oe ev_or ?_; refine om ?_; refine ow_evg rfl ev_move ?_; refine ow_evg rfl ev_move ?_; refine ow_evg rfl ev_gtr ?_; refine oe ev_or ?_; refine on ?_; refine cc rfl hM (fun hc7 hM => ?_) (fun hc7 hM => ?_)
 · refine sr ?_; refine oa ?_; refine oa ?_; refine oa ?_; refine on ?_; obtain rfl := some_inj hM; refine cw_ret (kw_retc3 (fun w hm => ret_of hm rfl))
 refine cw_skip (hK5 _ _ ?_); clear hK5; refine sr ?_; refine om ?_; refine om ?_; refine oa ?_; refine oa ?_; refine oa ?_; refine on ?_; obtain rfl := some_inj hM; refine cw_ret (kw_retc3 (fun w hm => ret_of hm rfl))
end Go.Proofs.YtcalibhfgdncaaaGreatDoor
