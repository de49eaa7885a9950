/- Models of functions, and that the code computes them. -/
import Derived.Test.YtfbpbmnlbcnanaaDoorWd
import Derived.Test.YtfbpbmnlbcnanaaDoorWb
set_option linter.all false
namespace Go.Proofs.YtfbpbmnlbcnanaaDoor
open Go.Dc Go.RowKit
set_option maxRecDepth 10000
def law3_awake_m  : Option Bool :=
  (words_Lines_m (⟨[120, 32, 49]⟩ : Str)).bind fun y1 =>
  (words_Number_m (⟨[45, 49, 50]⟩ : Str)).bind fun y4 =>
  (whn (decide (y1.2.2 = 0) && decide ((y1.1.length : Int) = 1)) default (idx y1.1 0)).bind fun x6 =>
  if (decide (y1.2.2 = 0) && decide ((y1.1.length : Int) = 1)) then
  ((whn ((((decide (y1.2.2 = 0) && decide ((y1.1.length : Int) = 1)) && decide ((x6.length : Int) = 2)) && decide (y4.1 = (-12))) && y4.2) default (words_Name_m (⟨[65, 95, 49]⟩ : Str))).bind fun y10 =>
  some (((((decide (y1.2.2 = 0) && decide ((y1.1.length : Int) = 1)) && decide ((x6.length : Int) = 2)) && decide (y4.1 = (-12))) && y4.2) && y10))
  else
  ((whn ((false && decide (y4.1 = (-12))) && y4.2) default (words_Name_m (⟨[65, 95, 49]⟩ : Str))).bind fun y12 =>
  some (((false && decide (y4.1 = (-12))) && y4.2) && y12))
theorem law3_awake_spec (S : Soup) (w : World)  (y : Bool) (hM : law3_awake_m  = some y) (hS : ∀ k, S k → k < w.heap.size)  :
    Calls Tryd.prog 18 #[] w (Ret w (.bool y)) := by
  refine calls_cw (args := []) Tryd.func18 rfl ((pre_nil hS).start) rfl ?_
  unfold law3_awake_m at hM
  refine cw_seq fun K1 hK1 => ?_
  refine cw_region ?_
  refine ow_ev ev_assign ?_
  refine ow_nil (hK1 _ _ ?_); clear hK1
  refine cw_seq fun K2 hK2 => ?_
  refine cw_region ?_
  obtain ⟨y1, hy2, hM⟩ := bind_some hM
  refine ow_cons (st_callS SelL.nil (fun S w hs hP => words_Lines_spec _ w (⟨[120, 32, 49]⟩ : Str) y1 hy2 hs.lt )  (fun r3 => ?_))
  dsimp only [List.cons_append, List.nil_append]
  refine ow_ev ev_move ?_
  refine ow_ev (ev_extract (vs := [.slice r3.a y1.1.length r3.cap, .int .i64 y1.2.1, .int .i64 y1.2.2])) ?_
  refine ow_ev (ev_extract (vs := [.slice r3.a y1.1.length r3.cap, .int .i64 y1.2.1, .int .i64 y1.2.2])) ?_
  refine ow_ev (ev_extract (vs := [.slice r3.a y1.1.length r3.cap, .int .i64 y1.2.1, .int .i64 y1.2.2])) ?_
  refine ow_ev ev_assign ?_
  refine ow_ev ev_assign ?_
  refine ow_ev ev_assign ?_
  refine ow_nil (hK2 _ _ ?_); clear hK2
  refine cw_seq fun K3 hK3 => ?_
  refine cw_region ?_
  obtain ⟨y4, hy5, hM⟩ := bind_some hM
  refine ow_cons (st_callv (fun w hm => let ⟨S, hs⟩ := hm; words_Number_spec _ w (⟨[45, 49, 50]⟩ : Str) y4 hy5 (lend_lt hs) ) ?_)
  refine ow_ev ev_move ?_
  refine ow_ev (ev_extract (vs := [.int .i64 y4.1, .bool y4.2])) ?_
  refine ow_ev (ev_extract (vs := [.int .i64 y4.1, .bool y4.2])) ?_
  refine ow_ev ev_assign ?_
  refine ow_ev ev_assign ?_
  refine ow_nil (hK3 _ _ ?_); clear hK3
  refine cw_seq fun K4 hK4 => ?_
  refine cw_region ?_
  refine ow_ev ev_move ?_
  refine ow_ev ev_eql ?_
  refine ow_ev ev_move ?_
  refine ow_evg rfl ev_move ?_
  refine ow_evg rfl ev_len ?_
  refine ow_evg rfl ev_eql ?_
  refine ow_ev ev_and ?_
  refine ow_ev ev_move ?_
  refine ow_evg rfl ev_move ?_
  obtain ⟨x6, hx7, hM⟩ := bind_some hM
  refine ow_evg rfl (ev_idx (xs := y1.1) 1 (Kn.trow (e := 33) (r := r3) (by repeat (first | exact Has.head | apply Has.tail))) (fun hg => let h := idx_some (whn_some hx7 hg); ⟨h.1, h.2.1⟩)) ?_
  refine ow_cases (decide (y1.2.2 = 0) && decide ((y1.1.length : Int) = 1)) (fun hg8 => ?_) (fun hg8 => ?_)
  ·
    replace hM := (ite_t hg8).symm.trans hM
    have hx9 := whn_some hx7 hg8
    refine ow_know 23 hg8 rfl ?_
    refine ow_know 24 hg8 rfl ?_
    refine ow_gtrue rfl hg8 ?_
    refine ow_ev (ev_ld (i := 0) (xs := y1.1) (y := x6) 0 (Kn.trow (e := 33) (r := r3) (by repeat (first | exact Has.head | apply Has.tail))) (fun _ => hx9)) ?_
    refine ow_gtrue rfl hg8 ?_
    refine ow_ev ev_len ?_
    refine ow_gtrue rfl hg8 ?_
    refine ow_ev ev_eql ?_
    refine ow_ev ev_and ?_
    refine ow_ev ev_move ?_
    refine ow_evg rfl ev_move ?_
    refine ow_evg rfl ev_eql ?_
    refine ow_ev ev_and ?_
    refine ow_ev ev_move ?_
    refine ow_evg rfl ev_move ?_
    refine ow_ev ev_and ?_
    refine ow_ev ev_move ?_
    obtain ⟨y10, hy11, hM⟩ := bind_some hM
    refine ow_callg rfl (fun hg w hm => let ⟨S, hs⟩ := hm; words_Name_spec _ w (⟨[65, 95, 49]⟩ : Str) y10 (whn_some hy11 hg) (lend_lt hs) ) ?_
    refine ow_ev ev_and ?_
    refine ow_ev ev_assign ?_
    refine ow_nil (hK4 _ _ ?_); clear hK4
    obtain rfl := some_inj hM
    refine cw_ret (kw_retc1 (fun w hm => ret_of hm rfl))
  ·
    replace hM := (ite_f hg8).symm.trans hM
    refine ow_gskip rfl hg8 ?_
    refine ow_gskip rfl hg8 ?_
    refine ow_gskip rfl hg8 ?_
    refine ow_ev (ev_andF hg8) ?_
    refine ow_ev ev_move ?_
    refine ow_evg rfl ev_move ?_
    refine ow_evg rfl ev_eql ?_
    refine ow_ev ev_and ?_
    refine ow_ev ev_move ?_
    refine ow_evg rfl ev_move ?_
    refine ow_ev ev_and ?_
    refine ow_ev ev_move ?_
    obtain ⟨y12, hy13, hM⟩ := bind_some hM
    refine ow_callg rfl (fun hg w hm => let ⟨S, hs⟩ := hm; words_Name_spec _ w (⟨[65, 95, 49]⟩ : Str) y12 (whn_some hy13 hg) (lend_lt hs) ) ?_
    refine ow_ev ev_and ?_
    refine ow_ev ev_assign ?_
    refine ow_nil (hK4 _ _ ?_); clear hK4
    obtain rfl := some_inj hM
    refine cw_ret (kw_retc1 (fun w hm => ret_of hm rfl))

end Go.Proofs.YtfbpbmnlbcnanaaDoor
