/- Models of functions, and that the code computes them. -/
import Derived.Test.YtedocibniankjaaFe
namespace Go.Proofs.Ytedocibniankjaa
open Go.Dc Go.RowKit
set_option maxRecDepth 10000
set_option linter.unusedVariables false
def law27_FlowProof_m (l0 : List Int) : Option Bool :=
  (keep2_Graph_m l0).bind fun y1 =>
  (flow_Solve_m y1).bind fun y5 =>
  (flow_Cut_m y1).bind fun y9 =>
  if decide (y5.2 = 0) then
    ((law27_awake_m).bind fun y13 =>
    (whn y13 default (ref24_VerifyFlow_m y1 y5.1)).bind fun y15 =>
    some (((y13 && y15) && (!y9.2)) && decide ((y9.1.length : Int) = 0)))
  else
    (if decide (y5.2 = 14) then
      ((law27_awake_m).bind fun y18 =>
      (whn (y18 && y9.2) default (ref24_Excess_m y1 y9.1)).bind fun y20 =>
      some (((y18 && y9.2) && decide (0 < y20)) && decide ((y5.1.X.length : Int) = 0)))
    else
      (some false))
theorem law27_FlowProof_spec (S : Soup) (w : World) (l0 : List Int) (r_l0 : GoRep.R (List Int)) (y : Bool) (hM : law27_FlowProof_m l0 = some y) (hS : ∀ k, S k → k < w.heap.size) (h_l0 : GoRep.ok S w r_l0 l0) :
    Calls Try.prog 10 #[.slice r_l0.a l0.length r_l0.cap] w (Ret w (.bool y)) := by
  refine calls_cw (args := [_]) Try.func10 rfl ((pre_nil hS).start |>.immP (α := List Int) (r := r_l0) (x := l0) h_l0) rfl ?_
  unfold law27_FlowProof_m at hM
  refine cw_seq fun K1 hK1 => ?_
  refine cw_region ?_
  refine ow_ev ev_assign ?_
  refine ow_nil (hK1 _ _ ?_); clear hK1
  refine cw_seq fun K2 hK2 => ?_
  refine cw_region ?_
  refine ow_ev ev_move ?_
  obtain ⟨y1, hy2, hM⟩ := bind_some hM
  refine ow_cons (st_callF SelL.nil (fun S w hs hP => keep2_Graph_spec _ w l0 r_l0 y1 hy2 (lend_lt hs) (Kn.lend (Kn.imm (α := List Int) (r := r_l0) (x := l0) (by repeat (first | exact Has.head | apply Has.tail))) hs)) (by intro r c hc; simp only [List.mem_cons, List.not_mem_nil, or_false] at hc; rcases hc with rfl | rfl <;> first | exact flatC_own | exact flatC_trow (fun _ _ _ _ => trivial)) (fun r3 => ?_))
  dsimp only [List.cons_append, List.nil_append]
  refine ow_cons (st_alloc rfl (k := fun b4 => ?_))
  refine ow_cons (st_store_all (b := b4) (vs := [.slice r3.1.a y1.Supply.length r3.1.cap, .slice r3.2.a y1.Arcs.length r3.2.cap]) (k := ?_))
  refine ow_nil (hK2 _ _ ?_); clear hK2
  refine cw_seq fun K3 hK3 => ?_
  refine cw_region ?_
  refine ow_ev (ev_load_all (b := b4)) ?_
  obtain ⟨y5, hy6, hM⟩ := bind_some hM
  refine ow_cons (st_callF SelL.nil (fun S w hs hP => flow_Solve_spec _ w y1 r3 y5 hy6 (lend_lt hs) ⟨(Kn.lend (Kn.trow (e := 3) (r := r3.1) (by repeat (first | exact Has.head | apply Has.tail))) hs), (Kn.lend (Kn.trow (e := 40) (r := r3.2) (by repeat (first | exact Has.head | apply Has.tail))) hs)⟩) (by intro r c hc; simp only [List.mem_cons, List.not_mem_nil, or_false] at hc; rcases hc with rfl | rfl <;> first | exact flatC_own | exact flatC_trow (fun _ _ _ _ => trivial)) (fun r7 => ?_))
  dsimp only [List.cons_append, List.nil_append]
  refine ow_ev ev_move ?_
  refine ow_ev (ev_extract (vs := [.agg #[.slice r7.1.a y5.1.X.length r7.1.cap, .slice r7.2.a y5.1.Price.length r7.2.cap, .int .i64 y5.1.Cost], .int .i64 y5.2])) ?_
  refine ow_ev (ev_extract (vs := [.agg #[.slice r7.1.a y5.1.X.length r7.1.cap, .slice r7.2.a y5.1.Price.length r7.2.cap, .int .i64 y5.1.Cost], .int .i64 y5.2])) ?_
  refine ow_cons (st_alloc rfl (k := fun b8 => ?_))
  refine ow_cons (st_store_all (b := b8) (vs := [.slice r7.1.a y5.1.X.length r7.1.cap, .slice r7.2.a y5.1.Price.length r7.2.cap, .int .i64 y5.1.Cost]) (k := ?_))
  refine ow_ev ev_assign ?_
  refine ow_nil (hK3 _ _ ?_); clear hK3
  refine cw_seq fun K4 hK4 => ?_
  refine cw_region ?_
  refine ow_ev (ev_load_all (b := b4)) ?_
  obtain ⟨y9, hy10, hM⟩ := bind_some hM
  refine ow_cons (st_callF SelL.nil (fun S w hs hP => flow_Cut_spec _ w y1 r3 y9 hy10 (lend_lt hs) ⟨(Kn.lend (Kn.trow (e := 3) (r := r3.1) (by repeat (first | exact Has.head | apply Has.tail))) hs), (Kn.lend (Kn.trow (e := 40) (r := r3.2) (by repeat (first | exact Has.head | apply Has.tail))) hs)⟩) (by intro r c hc; simp only [List.mem_cons, List.not_mem_nil, or_false] at hc; rcases hc with rfl <;> first | exact flatC_own | exact flatC_trow (fun _ _ _ _ => trivial)) (fun r11 => ?_))
  dsimp only [List.cons_append, List.nil_append]
  refine ow_ev ev_move ?_
  refine ow_ev (ev_extract (vs := [.slice r11.a y9.1.length r11.cap, .bool y9.2])) ?_
  refine ow_ev (ev_extract (vs := [.slice r11.a y9.1.length r11.cap, .bool y9.2])) ?_
  refine ow_ev ev_assign ?_
  refine ow_ev ev_assign ?_
  refine ow_nil (hK4 _ _ ?_); clear hK4
  refine cw_seq fun K5 hK5 => ?_
  refine cw_seq fun K6 hK6 => ?_
  refine cw_region ?_
  refine ow_ev ev_move ?_
  refine ow_nil (hK6 _ _ ?_); clear hK6
  refine cw_block ?_
  refine cw_seq fun K7 hK7 => ?_
  refine cw_region ?_
  refine ow_ev ev_eql ?_
  refine ow_ev ev_assign ?_
  refine ow_nil (hK7 _ _ ?_); clear hK7
  refine cw_cond rfl (fun hc12 => ?_) (fun hc12 => ?_)
  ·
    replace hM := (ite_t hc12).symm.trans hM
    refine cw_seq fun K8 hK8 => ?_
    refine cw_region ?_
    obtain ⟨y13, hy14, hM⟩ := bind_some hM
    refine ow_cons (st_callv (fun w hm => let ⟨S, hs⟩ := hm; law27_awake_spec _ w  y13 hy14 (lend_lt hs) ) ?_)
    refine ow_ev ev_move ?_
    refine ow_evg rfl (ev_load_all (b := b4)) ?_
    refine ow_evg rfl (ev_load_all (b := b8)) ?_
    obtain ⟨y15, hy16, hM⟩ := bind_some hM
    refine ow_callg rfl (fun hg w hm => let ⟨S, hs⟩ := hm; ref24_VerifyFlow_spec _ w y1 r3 y5.1 r7 y15 (whn_some hy16 hg) (lend_lt hs) ⟨(Kn.lend (Kn.trow (e := 3) (r := r3.1) (by repeat (first | exact Has.head | apply Has.tail))) hs), (Kn.lend (Kn.trow (e := 40) (r := r3.2) (by repeat (first | exact Has.head | apply Has.tail))) hs)⟩ ⟨(Kn.lend (Kn.trow (e := 3) (r := r7.1) (by repeat (first | exact Has.head | apply Has.tail))) hs), (Kn.lend (Kn.trow (e := 3) (r := r7.2) (by repeat (first | exact Has.head | apply Has.tail))) hs)⟩) ?_
    refine ow_ev ev_and ?_
    refine ow_ev ev_move ?_
    refine ow_evg rfl ev_move ?_
    refine ow_evg rfl ev_not ?_
    refine ow_ev ev_and ?_
    refine ow_ev ev_move ?_
    refine ow_evg rfl ev_move ?_
    refine ow_evg rfl ev_len ?_
    refine ow_evg rfl ev_eql ?_
    refine ow_ev ev_and ?_
    refine ow_ev ev_assign ?_
    refine ow_nil (hK8 _ _ ?_); clear hK8
    obtain rfl := some_inj hM
    refine cw_ret (kw_retc1 (fun w hm => ret_of hm rfl))
  ·
    replace hM := (ite_f hc12).symm.trans hM
    refine cw_seq fun K9 hK9 => ?_
    refine cw_region ?_
    refine ow_ev ev_eql ?_
    refine ow_ev ev_assign ?_
    refine ow_nil (hK9 _ _ ?_); clear hK9
    refine cw_cond rfl (fun hc17 => ?_) (fun hc17 => ?_)
    ·
      replace hM := (ite_t hc17).symm.trans hM
      refine cw_seq fun K10 hK10 => ?_
      refine cw_region ?_
      obtain ⟨y18, hy19, hM⟩ := bind_some hM
      refine ow_cons (st_callv (fun w hm => let ⟨S, hs⟩ := hm; law27_awake_spec _ w  y18 hy19 (lend_lt hs) ) ?_)
      refine ow_ev ev_move ?_
      refine ow_evg rfl ev_move ?_
      refine ow_ev ev_and ?_
      refine ow_ev ev_move ?_
      refine ow_evg rfl (ev_load_all (b := b4)) ?_
      refine ow_evg rfl ev_move ?_
      obtain ⟨y20, hy21, hM⟩ := bind_some hM
      refine ow_callg rfl (fun hg w hm => let ⟨S, hs⟩ := hm; ref24_Excess_spec _ w y1 r3 y9.1 r11 y20 (whn_some hy21 hg) (lend_lt hs) ⟨(Kn.lend (Kn.trow (e := 3) (r := r3.1) (by repeat (first | exact Has.head | apply Has.tail))) hs), (Kn.lend (Kn.trow (e := 40) (r := r3.2) (by repeat (first | exact Has.head | apply Has.tail))) hs)⟩ (Kn.lend (Kn.trow (e := 3) (r := r11) (by repeat (first | exact Has.head | apply Has.tail))) hs)) ?_
      refine ow_evg rfl ev_gtr ?_
      refine ow_ev ev_and ?_
      refine ow_ev ev_move ?_
      refine ow_evg rfl (ev_field_addr 0) ?_
      refine ow_evg rfl (ev_load_own (b := b8)) ?_
      refine ow_evg rfl ev_len ?_
      refine ow_evg rfl ev_eql ?_
      refine ow_ev ev_and ?_
      refine ow_ev ev_assign ?_
      refine ow_nil (hK10 _ _ ?_); clear hK10
      obtain rfl := some_inj hM
      refine cw_ret (kw_retc1 (fun w hm => ret_of hm rfl))
    ·
      replace hM := (ite_f hc17).symm.trans hM
      refine cw_skip (hK5 _ _ ?_); clear hK5
      refine cw_seq fun K11 hK11 => ?_
      refine cw_region ?_
      refine ow_ev ev_assign ?_
      refine ow_nil (hK11 _ _ ?_); clear hK11
      obtain rfl := some_inj hM
      refine cw_ret (kw_retc1 (fun w hm => ret_of hm rfl))

end Go.Proofs.Ytedocibniankjaa
