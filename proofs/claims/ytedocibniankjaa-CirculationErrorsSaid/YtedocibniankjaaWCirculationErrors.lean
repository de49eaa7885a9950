/- Models of functions, and that the code computes them. -/
import Derived.Test.YtedocibniankjaaCs
namespace Go.Proofs.Ytedocibniankjaa
open Go.Dc Go.RowKit
set_option maxRecDepth 10000
set_option linter.unusedVariables false
def law28_CirculationErrors_m (t0 : List Task) (r0 : Rules) (next0 : List Int) (chain0 : List Int) : Option Bool :=
  (ref24_CheckTasks_m t0 r0).bind fun y2 =>
  if y2 then
    ((law28_awake_m).bind fun y5 =>
    some y5)
  else
    ((circulation_Build_m t0 r0).bind fun y7 =>
    (circulation_Empty_m t0 r0 next0).bind fun y11 =>
    (circulation_Split_m t0 r0 chain0).bind fun y13 =>
    (law28_awake_m).bind fun y16 =>
    some (((y16 && decide (y7.2.2 = 1)) && decide (y11.2 = 1)) && decide (y13.2 = 1)))
theorem law28_CirculationErrors_spec (S : Soup) (w : World) (t0 : List Task) (r_t0 : GoRep.R (List Task)) (r0 : Rules) (r_r0 : GoRep.R Rules) (next0 : List Int) (r_next0 : GoRep.R (List Int)) (chain0 : List Int) (r_chain0 : GoRep.R (List Int)) (y : Bool) (hM : law28_CirculationErrors_m t0 r0 next0 chain0 = some y) (hS : ∀ k, S k → k < w.heap.size) (h_t0 : GoRep.ok S w r_t0 t0) (h_r0 : GoRep.ok S w r_r0 r0) (h_next0 : GoRep.ok S w r_next0 next0) (h_chain0 : GoRep.ok S w r_chain0 chain0) :
    Calls Try.prog 19 #[.slice r_t0.a t0.length r_t0.cap, .agg #[.int .i64 r0.Turn, .slice r_r0.1.a r0.Empties.length r_r0.1.cap, .slice r_r0.2.a r0.Shops.length r_r0.2.cap, .int .i64 r0.Service, .int .i64 r0.Limit], .slice r_next0.a next0.length r_next0.cap, .slice r_chain0.a chain0.length r_chain0.cap] w (Ret w (.bool y)) := by
  refine calls_cw (args := [_, _, _, _]) Try.func19 rfl ((pre_nil hS).start |>.immP (α := List Task) (r := r_t0) (x := t0) h_t0|>.immP (α := List EmptyT) (r := r_r0.1) (x := r0.Empties) h_r0.1|>.immP (α := List Int) (r := r_r0.2) (x := r0.Shops) h_r0.2|>.immP (α := List Int) (r := r_next0) (x := next0) h_next0|>.immP (α := List Int) (r := r_chain0) (x := chain0) h_chain0) rfl ?_
  unfold law28_CirculationErrors_m at hM
  refine cw_seq fun K1 hK1 => ?_
  refine cw_region ?_
  refine ow_cons (st_box (l := [.int .i64 r0.Turn, .slice r_r0.1.a r0.Empties.length r_r0.1.cap, .slice r_r0.2.a r0.Shops.length r_r0.2.cap, .int .i64 r0.Service, .int .i64 r0.Limit]) (k := fun b1 => ?_))
  refine ow_ev ev_assign ?_
  refine ow_nil (hK1 _ _ ?_); clear hK1
  refine cw_seq fun K2 hK2 => ?_
  refine cw_seq fun K3 hK3 => ?_
  refine cw_region ?_
  refine ow_ev ev_move ?_
  refine ow_ev (ev_load_all (b := b1)) ?_
  obtain ⟨y2, hy3, hM⟩ := bind_some hM
  refine ow_cons (st_callv (fun w hm => let ⟨S, hs⟩ := hm; ref24_CheckTasks_spec _ w t0 r_t0 r0 r_r0 y2 hy3 (lend_lt hs) (Kn.lend (Kn.imm (α := List Task) (r := r_t0) (x := t0) (by repeat (first | exact Has.head | apply Has.tail))) hs) ⟨(Kn.lend (Kn.imm (α := List EmptyT) (r := r_r0.1) (x := r0.Empties) (by repeat (first | exact Has.head | apply Has.tail))) hs), (Kn.lend (Kn.imm (α := List Int) (r := r_r0.2) (x := r0.Shops) (by repeat (first | exact Has.head | apply Has.tail))) hs)⟩) ?_)
  refine ow_nil (hK3 _ _ ?_); clear hK3
  refine cw_cond rfl (fun hc4 => ?_) (fun hc4 => ?_)
  ·
    replace hM := (ite_t hc4).symm.trans hM
    refine cw_seq fun K4 hK4 => ?_
    refine cw_region ?_
    obtain ⟨y5, hy6, hM⟩ := bind_some hM
    refine ow_cons (st_callv (fun w hm => let ⟨S, hs⟩ := hm; law28_awake_spec _ w  y5 hy6 (lend_lt hs) ) ?_)
    refine ow_ev ev_assign ?_
    refine ow_nil (hK4 _ _ ?_); clear hK4
    obtain rfl := some_inj hM
    refine cw_ret (kw_retc1 (fun w hm => ret_of hm rfl))
  ·
    replace hM := (ite_f hc4).symm.trans hM
    refine cw_skip (hK2 _ _ ?_); clear hK2
    refine cw_seq fun K5 hK5 => ?_
    refine cw_region ?_
    refine ow_ev ev_move ?_
    refine ow_ev (ev_load_all (b := b1)) ?_
    obtain ⟨y7, hy8, hM⟩ := bind_some hM
    refine ow_cons (st_callF SelL.nil (fun S w hs hP => circulation_Build_spec _ w t0 r_t0 r0 r_r0 y7 hy8 (lend_lt hs) (Kn.lend (Kn.imm (α := List Task) (r := r_t0) (x := t0) (by repeat (first | exact Has.head | apply Has.tail))) hs) ⟨(Kn.lend (Kn.imm (α := List EmptyT) (r := r_r0.1) (x := r0.Empties) (by repeat (first | exact Has.head | apply Has.tail))) hs), (Kn.lend (Kn.imm (α := List Int) (r := r_r0.2) (x := r0.Shops) (by repeat (first | exact Has.head | apply Has.tail))) hs)⟩) (by intro r c hc; simp only [List.mem_cons, List.not_mem_nil, or_false] at hc; rcases hc with rfl | rfl | rfl <;> first | exact flatC_own | exact flatC_trow (fun _ _ _ _ => trivial)) (fun r9 => ?_))
    dsimp only [List.cons_append, List.nil_append]
    refine ow_ev ev_move ?_
    refine ow_ev (ev_extract (vs := [.slice r9.1.a y7.1.length r9.1.cap, .agg #[.slice r9.2.1.a y7.2.1.Left.length r9.2.1.cap, .slice r9.2.2.a y7.2.1.Right.length r9.2.2.cap], .int .i64 y7.2.2])) ?_
    refine ow_ev (ev_extract (vs := [.slice r9.1.a y7.1.length r9.1.cap, .agg #[.slice r9.2.1.a y7.2.1.Left.length r9.2.1.cap, .slice r9.2.2.a y7.2.1.Right.length r9.2.2.cap], .int .i64 y7.2.2])) ?_
    refine ow_ev (ev_extract (vs := [.slice r9.1.a y7.1.length r9.1.cap, .agg #[.slice r9.2.1.a y7.2.1.Left.length r9.2.1.cap, .slice r9.2.2.a y7.2.1.Right.length r9.2.2.cap], .int .i64 y7.2.2])) ?_
    refine ow_cons (st_alloc rfl (k := fun b10 => ?_))
    refine ow_ev ev_assign ?_
    refine ow_cons (st_store_all (b := b10) (vs := [.slice r9.2.1.a y7.2.1.Left.length r9.2.1.cap, .slice r9.2.2.a y7.2.1.Right.length r9.2.2.cap]) (k := ?_))
    refine ow_ev ev_assign ?_
    refine ow_nil (hK5 _ _ ?_); clear hK5
    refine cw_seq fun K6 hK6 => ?_
    refine cw_region ?_
    refine ow_ev ev_move ?_
    refine ow_ev (ev_load_all (b := b1)) ?_
    refine ow_ev ev_move ?_
    obtain ⟨y11, hy12, hM⟩ := bind_some hM
    refine ow_cons (st_callv (fun w hm => let ⟨S, hs⟩ := hm; circulation_Empty_spec _ w t0 r_t0 r0 r_r0 next0 r_next0 y11 hy12 (lend_lt hs) (Kn.lend (Kn.imm (α := List Task) (r := r_t0) (x := t0) (by repeat (first | exact Has.head | apply Has.tail))) hs) ⟨(Kn.lend (Kn.imm (α := List EmptyT) (r := r_r0.1) (x := r0.Empties) (by repeat (first | exact Has.head | apply Has.tail))) hs), (Kn.lend (Kn.imm (α := List Int) (r := r_r0.2) (x := r0.Shops) (by repeat (first | exact Has.head | apply Has.tail))) hs)⟩ (Kn.lend (Kn.imm (α := List Int) (r := r_next0) (x := next0) (by repeat (first | exact Has.head | apply Has.tail))) hs)) ?_)
    refine ow_ev ev_move ?_
    refine ow_ev (ev_extract (vs := [.int .i64 y11.1, .int .i64 y11.2])) ?_
    refine ow_ev (ev_extract (vs := [.int .i64 y11.1, .int .i64 y11.2])) ?_
    refine ow_ev ev_assign ?_
    refine ow_ev ev_assign ?_
    refine ow_nil (hK6 _ _ ?_); clear hK6
    refine cw_seq fun K7 hK7 => ?_
    refine cw_region ?_
    refine ow_ev ev_move ?_
    refine ow_ev (ev_load_all (b := b1)) ?_
    refine ow_ev ev_move ?_
    obtain ⟨y13, hy14, hM⟩ := bind_some hM
    refine ow_cons (st_callS SelL.nil (fun S w hs hP => circulation_Split_spec _ w t0 r_t0 r0 r_r0 chain0 r_chain0 y13 hy14 hs.lt ((Sk.imm (α := List Task) (r := r_t0) (x := t0) (by repeat (first | exact Has.head | apply Has.tail))) S w hs) ⟨((Sk.imm (α := List EmptyT) (r := r_r0.1) (x := r0.Empties) (by repeat (first | exact Has.head | apply Has.tail))) S w hs), ((Sk.imm (α := List Int) (r := r_r0.2) (x := r0.Shops) (by repeat (first | exact Has.head | apply Has.tail))) S w hs)⟩ ((Sk.imm (α := List Int) (r := r_chain0) (x := chain0) (by repeat (first | exact Has.head | apply Has.tail))) S w hs))  (fun r15 => ?_))
    dsimp only [List.cons_append, List.nil_append]
    refine ow_ev ev_move ?_
    refine ow_ev (ev_extract (vs := [.slice r15.a y13.1.length r15.cap, .int .i64 y13.2])) ?_
    refine ow_ev (ev_extract (vs := [.slice r15.a y13.1.length r15.cap, .int .i64 y13.2])) ?_
    refine ow_ev ev_assign ?_
    refine ow_ev ev_assign ?_
    refine ow_nil (hK7 _ _ ?_); clear hK7
    refine cw_seq fun K8 hK8 => ?_
    refine cw_region ?_
    obtain ⟨y16, hy17, hM⟩ := bind_some hM
    refine ow_cons (st_callv (fun w hm => let ⟨S, hs⟩ := hm; law28_awake_spec _ w  y16 hy17 (lend_lt hs) ) ?_)
    refine ow_ev ev_move ?_
    refine ow_evg rfl ev_move ?_
    refine ow_evg rfl ev_eql ?_
    refine ow_ev ev_and ?_
    refine ow_ev ev_move ?_
    refine ow_evg rfl ev_move ?_
    refine ow_evg rfl ev_eql ?_
    refine ow_ev ev_and ?_
    refine ow_ev ev_move ?_
    refine ow_evg rfl ev_move ?_
    refine ow_evg rfl ev_eql ?_
    refine ow_ev ev_and ?_
    refine ow_ev ev_assign ?_
    refine ow_nil (hK8 _ _ ?_); clear hK8
    obtain rfl := some_inj hM
    refine cw_ret (kw_retc1 (fun w hm => ret_of hm rfl))

end Go.Proofs.Ytedocibniankjaa
