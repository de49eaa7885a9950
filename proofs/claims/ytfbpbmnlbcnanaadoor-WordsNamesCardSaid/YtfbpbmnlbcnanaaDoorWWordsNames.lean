/- Models of functions, and that the code computes them. -/
import Derived.Test.YtfbpbmnlbcnanaaDoorWg
import Derived.Test.YtfbpbmnlbcnanaaDoorWe
import Derived.Test.YtfbpbmnlbcnanaaDoorWf
namespace Go.Proofs.YtfbpbmnlbcnanaaDoor
open Go.Dc Go.RowKit
set_option maxRecDepth 10000
set_option linter.unusedVariables false
def law3_WordsNames_m (s0 : Str) (l0 : List UInt8) : Option Bool :=
  (law3_pieces_m l0).bind fun y1 =>
  (strSub y1 0 (if 14 < (y1.l.length : Int) then 14 else (y1.l.length : Int))).bind fun q3 =>
  (law3_awake_m).bind fun y5 =>
  (whn y5 default (words_Name_m s0)).bind fun y7 =>
  (whn y5 default (ref1_Name_m s0)).bind fun y9 =>
  (whn (y5 && (y7 == y9)) default (words_Name_m q3)).bind fun y11 =>
  (whn (y5 && (y7 == y9)) default (ref1_Name_m q3)).bind fun y13 =>
  (whn ((y5 && (y7 == y9)) && (y11 == y13)) default (strCat (⟨[97]⟩ : Str) q3)).bind fun q15 =>
  (whn ((y5 && (y7 == y9)) && (y11 == y13)) default (words_Name_m q15)).bind fun y17 =>
  (whn ((y5 && (y7 == y9)) && (y11 == y13)) default (strCat (⟨[97]⟩ : Str) q3)).bind fun q19 =>
  (whn ((y5 && (y7 == y9)) && (y11 == y13)) default (ref1_Name_m q19)).bind fun y21 =>
  some (((y5 && (y7 == y9)) && (y11 == y13)) && (y17 == y21))
theorem law3_WordsNames_spec (S : Soup) (w : World) (s0 : Str) (l0 : List UInt8) (r_l0 : GoRep.R (List UInt8)) (y : Bool) (hM : law3_WordsNames_m s0 l0 = some y) (hS : ∀ k, S k → k < w.heap.size) (h_l0 : GoRep.ok S w r_l0 l0) :
    Calls Tryd.prog 4 #[.string s0.ba, .slice r_l0.a l0.length r_l0.cap] w (Ret w (.bool y)) := by
  refine calls_cw (args := [_, _]) Tryd.func4 rfl ((pre_nil hS).start |>.immP (α := List UInt8) (r := r_l0) (x := l0) h_l0) rfl ?_
  unfold law3_WordsNames_m at hM
  refine cw_seq fun K1 hK1 => ?_
  refine cw_region ?_
  refine ow_ev ev_assign ?_
  refine ow_nil (hK1 _ _ ?_); clear hK1
  refine cw_seq fun K2 hK2 => ?_
  refine cw_region ?_
  refine ow_ev ev_move ?_
  obtain ⟨y1, hy2, hM⟩ := bind_some hM
  refine ow_cons (st_callv (fun w hm => let ⟨S, hs⟩ := hm; law3_pieces_spec _ w l0 r_l0 y1 hy2 (lend_lt hs) (Kn.lend (Kn.imm (α := List UInt8) (r := r_l0) (x := l0) (by repeat (first | exact Has.head | apply Has.tail))) hs)) ?_)
  refine ow_ev ev_assign ?_
  refine ow_nil (hK2 _ _ ?_); clear hK2
  refine cw_seq fun K3 hK3 => ?_
  refine cw_region ?_
  refine ow_ev ev_move ?_
  refine ow_ev ev_move ?_
  refine ow_ev ev_slen ?_
  refine ow_ev ev_min2 ?_
  obtain ⟨q3, hq4, hM⟩ := bind_some hM
  refine ow_ev (ev_ssub (ol := none) (oh := some (.i64, (if 14 < (y1.l.length : Int) then 14 else (y1.l.length : Int)))) (fun _ => hq4)) ?_
  refine ow_ev ev_assign ?_
  refine ow_nil (hK3 _ _ ?_); clear hK3
  refine cw_seq fun K4 hK4 => ?_
  refine cw_region ?_
  obtain ⟨y5, hy6, hM⟩ := bind_some hM
  refine ow_cons (st_callv (fun w hm => let ⟨S, hs⟩ := hm; law3_awake_spec _ w  y5 hy6 (lend_lt hs) ) ?_)
  refine ow_ev ev_move ?_
  refine ow_evg rfl ev_move ?_
  obtain ⟨y7, hy8, hM⟩ := bind_some hM
  refine ow_callg rfl (fun hg w hm => let ⟨S, hs⟩ := hm; words_Name_spec _ w s0 y7 (whn_some hy8 hg) (lend_lt hs) ) ?_
  refine ow_evg rfl ev_move ?_
  obtain ⟨y9, hy10, hM⟩ := bind_some hM
  refine ow_callg rfl (fun hg w hm => let ⟨S, hs⟩ := hm; ref1_Name_spec _ w s0 y9 (whn_some hy10 hg) (lend_lt hs) ) ?_
  refine ow_evg rfl ev_bool_eql ?_
  refine ow_ev ev_and ?_
  refine ow_ev ev_move ?_
  refine ow_evg rfl ev_move ?_
  obtain ⟨y11, hy12, hM⟩ := bind_some hM
  refine ow_callg rfl (fun hg w hm => let ⟨S, hs⟩ := hm; words_Name_spec _ w q3 y11 (whn_some hy12 hg) (lend_lt hs) ) ?_
  refine ow_evg rfl ev_move ?_
  obtain ⟨y13, hy14, hM⟩ := bind_some hM
  refine ow_callg rfl (fun hg w hm => let ⟨S, hs⟩ := hm; ref1_Name_spec _ w q3 y13 (whn_some hy14 hg) (lend_lt hs) ) ?_
  refine ow_evg rfl ev_bool_eql ?_
  refine ow_ev ev_and ?_
  refine ow_ev ev_move ?_
  refine ow_evg rfl ev_move ?_
  obtain ⟨q15, hq16, hM⟩ := bind_some hM
  refine ow_evg rfl (ev_scat (whn_some hq16)) ?_
  obtain ⟨y17, hy18, hM⟩ := bind_some hM
  refine ow_callg rfl (fun hg w hm => let ⟨S, hs⟩ := hm; words_Name_spec _ w q15 y17 (whn_some hy18 hg) (lend_lt hs) ) ?_
  refine ow_evg rfl ev_move ?_
  obtain ⟨q19, hq20, hM⟩ := bind_some hM
  refine ow_evg rfl (ev_scat (whn_some hq20)) ?_
  obtain ⟨y21, hy22, hM⟩ := bind_some hM
  refine ow_callg rfl (fun hg w hm => let ⟨S, hs⟩ := hm; ref1_Name_spec _ w q19 y21 (whn_some hy22 hg) (lend_lt hs) ) ?_
  refine ow_evg rfl ev_bool_eql ?_
  refine ow_ev ev_and ?_
  refine ow_ev ev_assign ?_
  refine ow_nil (hK4 _ _ ?_); clear hK4
  obtain rfl := some_inj hM
  refine cw_ret (kw_retc1 (fun w hm => ret_of hm rfl))

end Go.Proofs.YtfbpbmnlbcnanaaDoor
