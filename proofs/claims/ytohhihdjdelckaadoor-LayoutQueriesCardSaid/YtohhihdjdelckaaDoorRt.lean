/- Models of functions, and that the code computes them. -/
import Derived.Test.YtohhihdjdelckaaDoorRk
set_option linter.all false
namespace Go.Proofs.YtohhihdjdelckaaDoor
open Go.Dc Go.RowKit
set_option maxRecDepth 10000
def keep_Step_m (l0 : Layout) (v0 : Int) : Option Step :=
  (keep_Pick_m v0 16).bind fun y3 =>
  if decide (y3 = 15) then
    (chk (decide (16 ≠ 0) && i64b (v0.tdiv 16)) <|
    chk (i64b ((l0.Sections.length : Int) + 4)) <|
    (keep_Pick_m (v0.tdiv 16) ((l0.Sections.length : Int) + 4)).bind fun y8 =>
    chk (i64b (y8 - 2)) <|
    chk (decide (700 ≠ 0) && i64b (v0.tdiv 700)) <|
    (keep_Pick_m (v0.tdiv 700) 4).bind fun y12 =>
    chk (i64b (y12 - 1)) <|
    some (Step.mk (y8 - 2) (y12 - 1)))
  else
    (chk (decide (16 ≠ 0) && i64b (v0.tdiv 16)) <|
    (keep_Pick_m (v0.tdiv 16) (if (l0.Sections.length : Int) > 1 then (l0.Sections.length : Int) else 1)).bind fun y16 =>
    chk (decide (16 ≠ 0) && i64b (v0.tdiv 16)) <|
    chk (decide (97 ≠ 0) && i64b ((v0.tdiv 16).tdiv 97)) <|
    (keep_Pick_m ((v0.tdiv 16).tdiv 97) 2).bind fun y20 =>
    some (Step.mk y16 y20))
theorem keep_Step_spec (S : Soup) (w : World) (l0 : Layout) (r_l0 : GoRep.R Layout) (v0 : Int) (y : Step) (hM : keep_Step_m l0 v0 = some y) (hS : ∀ k, S k → k < w.heap.size) (h_l0 : GoRep.ok S w r_l0 l0) :
    Calls Tryd.prog 14 #[.agg #[.slice r_l0.1.a l0.Stations.length r_l0.1.cap, .slice r_l0.2.1.a l0.Points.length r_l0.2.1.cap, .slice r_l0.2.2.1.a l0.Sections.length r_l0.2.2.1.cap, .slice r_l0.2.2.2.a l0.Links.length r_l0.2.2.2.cap], .int .i64 v0] w (Ret w (.agg #[.int .i64 y.Section, .int .i64 y.Dir])) := by
  refine calls_cw (args := [_, _]) Tryd.func14 rfl ((pre_nil hS).start |>.immP (α := List Str) (r := r_l0.1) (x := l0.Stations) h_l0.1|>.immP (α := List Str) (r := r_l0.2.1) (x := l0.Points) h_l0.2.1|>.immP (α := List Section) (r := r_l0.2.2.1) (x := l0.Sections) h_l0.2.2.1|>.immP (α := List Link) (r := r_l0.2.2.2) (x := l0.Links) h_l0.2.2.2) rfl ?_
  unfold keep_Step_m at hM
  refine cw_seq fun K1 hK1 => ?_
  refine cw_region ?_
  refine ow_cons (st_box (l := [.slice r_l0.1.a l0.Stations.length r_l0.1.cap, .slice r_l0.2.1.a l0.Points.length r_l0.2.1.cap, .slice r_l0.2.2.1.a l0.Sections.length r_l0.2.2.1.cap, .slice r_l0.2.2.2.a l0.Links.length r_l0.2.2.2.cap]) (k := fun b1 => ?_))
  refine ow_cons (st_alloc rfl (k := fun b2 => ?_))
  refine ow_nil (hK1 _ _ ?_); clear hK1
  refine cw_seq fun K2 hK2 => ?_
  refine cw_seq fun K3 hK3 => ?_
  refine cw_region ?_
  refine ow_ev ev_move ?_
  obtain ⟨y3, hy4, hM⟩ := bind_some hM
  refine ow_cons (st_callv (fun w hm => let ⟨S, hs⟩ := hm; keep_Pick_spec _ w v0 16 y3 hy4 (lend_lt hs) ) ?_)
  refine ow_ev ev_eql ?_
  refine ow_nil (hK3 _ _ ?_); clear hK3
  refine cw_cond rfl (fun hc5 => ?_) (fun hc5 => ?_)
  ·
    replace hM := (ite_t hc5).symm.trans hM
    refine cw_seq fun K4 hK4 => ?_
    refine cw_region ?_
    refine ow_ev ev_move ?_
    obtain ⟨hI6, hM⟩ := chk_some hM
    refine ow_ev (ev_quo' (hr := fun hg => quo_ok hI6)) ?_
    refine ow_ev (ev_field_addr 2) ?_
    refine ow_ev (ev_load_own (b := b1)) ?_
    refine ow_ev ev_len ?_
    obtain ⟨hI7, hM⟩ := chk_some hM
    refine ow_ev (ev_add (hr := fun hg => i64b_I64 hI7)) ?_
    obtain ⟨y8, hy9, hM⟩ := bind_some hM
    refine ow_cons (st_callv (fun w hm => let ⟨S, hs⟩ := hm; keep_Pick_spec _ w (v0.tdiv 16) ((l0.Sections.length : Int) + 4) y8 hy9 (lend_lt hs) ) ?_)
    obtain ⟨hI10, hM⟩ := chk_some hM
    refine ow_ev (ev_sub (hr := fun hg => i64b_I64 hI10)) ?_
    refine ow_ev ev_move ?_
    obtain ⟨hI11, hM⟩ := chk_some hM
    refine ow_ev (ev_quo' (hr := fun hg => quo_ok hI11)) ?_
    obtain ⟨y12, hy13, hM⟩ := bind_some hM
    refine ow_cons (st_callv (fun w hm => let ⟨S, hs⟩ := hm; keep_Pick_spec _ w (v0.tdiv 700) 4 y12 hy13 (lend_lt hs) ) ?_)
    obtain ⟨hI14, hM⟩ := chk_some hM
    refine ow_ev (ev_sub (hr := fun hg => i64b_I64 hI14)) ?_
    refine ow_ev (ev_build [.int .i64 (y8 - 2), .int .i64 (y12 - 1)]) ?_
    refine ow_cons (st_store_all (b := b2) (vs := [.int .i64 (y8 - 2), .int .i64 (y12 - 1)]) (k := ?_))
    refine ow_nil (hK4 _ _ ?_); clear hK4
    obtain rfl := some_inj hM
    refine cw_ret (kw_retc1 (fun w hm => ret_of hm rfl))
  ·
    replace hM := (ite_f hc5).symm.trans hM
    refine cw_skip (hK2 _ _ ?_); clear hK2
    refine cw_seq fun K5 hK5 => ?_
    refine cw_region ?_
    refine ow_ev ev_move ?_
    obtain ⟨hI15, hM⟩ := chk_some hM
    refine ow_ev (ev_quo' (hr := fun hg => quo_ok hI15)) ?_
    refine ow_ev (ev_field_addr 2) ?_
    refine ow_ev (ev_load_own (b := b1)) ?_
    refine ow_ev ev_len ?_
    refine ow_ev ev_max2 ?_
    obtain ⟨y16, hy17, hM⟩ := bind_some hM
    refine ow_cons (st_callv (fun w hm => let ⟨S, hs⟩ := hm; keep_Pick_spec _ w (v0.tdiv 16) (if (l0.Sections.length : Int) > 1 then (l0.Sections.length : Int) else 1) y16 hy17 (lend_lt hs) ) ?_)
    refine ow_ev ev_move ?_
    obtain ⟨hI18, hM⟩ := chk_some hM
    refine ow_ev (ev_quo' (hr := fun hg => quo_ok hI18)) ?_
    obtain ⟨hI19, hM⟩ := chk_some hM
    refine ow_ev (ev_quo' (hr := fun hg => quo_ok hI19)) ?_
    obtain ⟨y20, hy21, hM⟩ := bind_some hM
    refine ow_cons (st_callv (fun w hm => let ⟨S, hs⟩ := hm; keep_Pick_spec _ w ((v0.tdiv 16).tdiv 97) 2 y20 hy21 (lend_lt hs) ) ?_)
    refine ow_ev (ev_build [.int .i64 y16, .int .i64 y20]) ?_
    refine ow_cons (st_store_all (b := b2) (vs := [.int .i64 y16, .int .i64 y20]) (k := ?_))
    refine ow_nil (hK5 _ _ ?_); clear hK5
    obtain rfl := some_inj hM
    refine cw_ret (kw_retc1 (fun w hm => ret_of hm rfl))

end Go.Proofs.YtohhihdjdelckaaDoor
