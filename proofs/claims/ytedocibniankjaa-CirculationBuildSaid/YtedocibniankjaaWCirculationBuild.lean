/- Models of functions, and that the code computes them. -/
import Derived.Test.YtedocibniankjaaCq
namespace Go.Proofs.Ytedocibniankjaa
open Go.Dc Go.RowKit
set_option maxRecDepth 10000
set_option linter.unusedVariables false
def law28_CirculationBuild_m (l0 : List Int) : Option Bool :=
  (keep2_Tasks_m l0).bind fun y1 =>
  (circulation_Build_m y1.1 y1.2).bind fun y5 =>
  (whn (!(decide (y5.2.2 ≠ 0))) default (ref24_VerifyCover_m y1.1 y1.2 y5.1 y5.2.1)).bind fun y9 =>
  if (decide (y5.2.2 ≠ 0) || (!y9)) then
    (some false)
  else
    ((ref24_BestCirculation_m y1.1 y1.2).bind fun y12 =>
    (circulation_Empty_m y1.1 y1.2 y5.1).bind fun y14 =>
    (law28_awake_m).bind fun y16 =>
    (whn y16 default (ref24_Joined_m y5.1)).bind fun y18 =>
    chk (!y16 || i64b ((y1.1.length : Int) - y18)) <|
    some (((y16 && decide (((y1.1.length : Int) - y18) = y12.1)) && decide (y14.2 = 0)) && decide (y14.1 = y12.2)))
theorem law28_CirculationBuild_spec (S : Soup) (w : World) (l0 : List Int) (r_l0 : GoRep.R (List Int)) (y : Bool) (hM : law28_CirculationBuild_m l0 = some y) (hS : ∀ k, S k → k < w.heap.size) (h_l0 : GoRep.ok S w r_l0 l0) :
    Calls Try.prog 15 #[.slice r_l0.a l0.length r_l0.cap] w (Ret w (.bool y)) := by
  refine calls_cw (args := [_]) Try.func15 rfl ((pre_nil hS).start |>.immP (α := List Int) (r := r_l0) (x := l0) h_l0) rfl ?_
  unfold law28_CirculationBuild_m at hM
  refine cw_seq fun K1 hK1 => ?_
  refine cw_region ?_
  refine ow_ev ev_assign ?_
  refine ow_nil (hK1 _ _ ?_); clear hK1
  refine cw_seq fun K2 hK2 => ?_
  refine cw_region ?_
  refine ow_ev ev_move ?_
  obtain ⟨y1, hy2, hM⟩ := bind_some hM
  refine ow_cons (st_callF SelL.nil (fun S w hs hP => keep2_Tasks_spec _ w l0 r_l0 y1 hy2 (lend_lt hs) (Kn.lend (Kn.imm (α := List Int) (r := r_l0) (x := l0) (by repeat (first | exact Has.head | apply Has.tail))) hs)) (by intro r c hc; simp only [List.mem_cons, List.not_mem_nil, or_false] at hc; rcases hc with rfl | rfl | rfl <;> first | exact flatC_own | exact flatC_trow (fun _ _ _ _ => trivial)) (fun r3 => ?_))
  dsimp only [List.cons_append, List.nil_append]
  refine ow_ev ev_move ?_
  refine ow_ev (ev_extract (vs := [.slice r3.1.a y1.1.length r3.1.cap, .agg #[.int .i64 y1.2.Turn, .slice r3.2.1.a y1.2.Empties.length r3.2.1.cap, .slice r3.2.2.a y1.2.Shops.length r3.2.2.cap, .int .i64 y1.2.Service, .int .i64 y1.2.Limit]])) ?_
  refine ow_ev (ev_extract (vs := [.slice r3.1.a y1.1.length r3.1.cap, .agg #[.int .i64 y1.2.Turn, .slice r3.2.1.a y1.2.Empties.length r3.2.1.cap, .slice r3.2.2.a y1.2.Shops.length r3.2.2.cap, .int .i64 y1.2.Service, .int .i64 y1.2.Limit]])) ?_
  refine ow_cons (st_alloc rfl (k := fun b4 => ?_))
  refine ow_ev ev_assign ?_
  refine ow_cons (st_store_all (b := b4) (vs := [.int .i64 y1.2.Turn, .slice r3.2.1.a y1.2.Empties.length r3.2.1.cap, .slice r3.2.2.a y1.2.Shops.length r3.2.2.cap, .int .i64 y1.2.Service, .int .i64 y1.2.Limit]) (k := ?_))
  refine ow_nil (hK2 _ _ ?_); clear hK2
  refine cw_seq fun K3 hK3 => ?_
  refine cw_region ?_
  refine ow_ev ev_move ?_
  refine ow_ev (ev_load_all (b := b4)) ?_
  obtain ⟨y5, hy6, hM⟩ := bind_some hM
  refine ow_cons (st_callF SelL.nil (fun S w hs hP => circulation_Build_spec _ w y1.1 r3.1 y1.2 r3.2 y5 hy6 (lend_lt hs) (Kn.lend (Kn.trow (e := 60) (r := r3.1) (by repeat (first | exact Has.head | apply Has.tail))) hs) ⟨(Kn.lend (Kn.trow (e := 58) (r := r3.2.1) (by repeat (first | exact Has.head | apply Has.tail))) hs), (Kn.lend (Kn.trow (e := 3) (r := r3.2.2) (by repeat (first | exact Has.head | apply Has.tail))) hs)⟩) (by intro r c hc; simp only [List.mem_cons, List.not_mem_nil, or_false] at hc; rcases hc with rfl | rfl | rfl <;> first | exact flatC_own | exact flatC_trow (fun _ _ _ _ => trivial)) (fun r7 => ?_))
  dsimp only [List.cons_append, List.nil_append]
  refine ow_ev ev_move ?_
  refine ow_ev (ev_extract (vs := [.slice r7.1.a y5.1.length r7.1.cap, .agg #[.slice r7.2.1.a y5.2.1.Left.length r7.2.1.cap, .slice r7.2.2.a y5.2.1.Right.length r7.2.2.cap], .int .i64 y5.2.2])) ?_
  refine ow_ev (ev_extract (vs := [.slice r7.1.a y5.1.length r7.1.cap, .agg #[.slice r7.2.1.a y5.2.1.Left.length r7.2.1.cap, .slice r7.2.2.a y5.2.1.Right.length r7.2.2.cap], .int .i64 y5.2.2])) ?_
  refine ow_ev (ev_extract (vs := [.slice r7.1.a y5.1.length r7.1.cap, .agg #[.slice r7.2.1.a y5.2.1.Left.length r7.2.1.cap, .slice r7.2.2.a y5.2.1.Right.length r7.2.2.cap], .int .i64 y5.2.2])) ?_
  refine ow_cons (st_alloc rfl (k := fun b8 => ?_))
  refine ow_ev ev_assign ?_
  refine ow_cons (st_store_all (b := b8) (vs := [.slice r7.2.1.a y5.2.1.Left.length r7.2.1.cap, .slice r7.2.2.a y5.2.1.Right.length r7.2.2.cap]) (k := ?_))
  refine ow_ev ev_assign ?_
  refine ow_nil (hK3 _ _ ?_); clear hK3
  refine cw_seq fun K4 hK4 => ?_
  refine cw_seq fun K5 hK5 => ?_
  refine cw_region ?_
  refine ow_ev ev_move ?_
  refine ow_ev ev_neq ?_
  refine ow_ev ev_move ?_
  refine ow_evg rfl ev_move ?_
  refine ow_evg rfl (ev_load_all (b := b4)) ?_
  refine ow_evg rfl ev_move ?_
  refine ow_evg rfl (ev_load_all (b := b8)) ?_
  obtain ⟨y9, hy10, hM⟩ := bind_some hM
  refine ow_callg rfl (fun hg w hm => let ⟨S, hs⟩ := hm; ref24_VerifyCover_spec _ w y1.1 r3.1 y1.2 r3.2 y5.1 r7.1 y5.2.1 r7.2 y9 (whn_some hy10 hg) (lend_lt hs) (Kn.lend (Kn.trow (e := 60) (r := r3.1) (by repeat (first | exact Has.head | apply Has.tail))) hs) ⟨(Kn.lend (Kn.trow (e := 58) (r := r3.2.1) (by repeat (first | exact Has.head | apply Has.tail))) hs), (Kn.lend (Kn.trow (e := 3) (r := r3.2.2) (by repeat (first | exact Has.head | apply Has.tail))) hs)⟩ (Kn.lend (Kn.trow (e := 3) (r := r7.1) (by repeat (first | exact Has.head | apply Has.tail))) hs) ⟨(Kn.lend (Kn.trow (e := 3) (r := r7.2.1) (by repeat (first | exact Has.head | apply Has.tail))) hs), (Kn.lend (Kn.trow (e := 3) (r := r7.2.2) (by repeat (first | exact Has.head | apply Has.tail))) hs)⟩) ?_
  refine ow_evg rfl ev_not ?_
  refine ow_ev ev_or ?_
  refine ow_nil (hK5 _ _ ?_); clear hK5
  refine cw_cond rfl (fun hc11 => ?_) (fun hc11 => ?_)
  ·
    replace hM := (ite_t hc11).symm.trans hM
    refine cw_seq fun K6 hK6 => ?_
    refine cw_region ?_
    refine ow_ev ev_assign ?_
    refine ow_nil (hK6 _ _ ?_); clear hK6
    obtain rfl := some_inj hM
    refine cw_ret (kw_retc1 (fun w hm => ret_of hm rfl))
  ·
    replace hM := (ite_f hc11).symm.trans hM
    refine cw_skip (hK4 _ _ ?_); clear hK4
    refine cw_seq fun K7 hK7 => ?_
    refine cw_region ?_
    refine ow_ev ev_move ?_
    refine ow_ev (ev_load_all (b := b4)) ?_
    obtain ⟨y12, hy13, hM⟩ := bind_some hM
    refine ow_cons (st_callv (fun w hm => let ⟨S, hs⟩ := hm; ref24_BestCirculation_spec _ w y1.1 r3.1 y1.2 r3.2 y12 hy13 (lend_lt hs) (Kn.lend (Kn.trow (e := 60) (r := r3.1) (by repeat (first | exact Has.head | apply Has.tail))) hs) ⟨(Kn.lend (Kn.trow (e := 58) (r := r3.2.1) (by repeat (first | exact Has.head | apply Has.tail))) hs), (Kn.lend (Kn.trow (e := 3) (r := r3.2.2) (by repeat (first | exact Has.head | apply Has.tail))) hs)⟩) ?_)
    refine ow_ev ev_move ?_
    refine ow_ev (ev_extract (vs := [.int .i64 y12.1, .int .i64 y12.2])) ?_
    refine ow_ev (ev_extract (vs := [.int .i64 y12.1, .int .i64 y12.2])) ?_
    refine ow_ev ev_assign ?_
    refine ow_ev ev_assign ?_
    refine ow_nil (hK7 _ _ ?_); clear hK7
    refine cw_seq fun K8 hK8 => ?_
    refine cw_region ?_
    refine ow_ev ev_move ?_
    refine ow_ev (ev_load_all (b := b4)) ?_
    refine ow_ev ev_move ?_
    obtain ⟨y14, hy15, hM⟩ := bind_some hM
    refine ow_cons (st_callv (fun w hm => let ⟨S, hs⟩ := hm; circulation_Empty_spec _ w y1.1 r3.1 y1.2 r3.2 y5.1 r7.1 y14 hy15 (lend_lt hs) (Kn.lend (Kn.trow (e := 60) (r := r3.1) (by repeat (first | exact Has.head | apply Has.tail))) hs) ⟨(Kn.lend (Kn.trow (e := 58) (r := r3.2.1) (by repeat (first | exact Has.head | apply Has.tail))) hs), (Kn.lend (Kn.trow (e := 3) (r := r3.2.2) (by repeat (first | exact Has.head | apply Has.tail))) hs)⟩ (Kn.lend (Kn.trow (e := 3) (r := r7.1) (by repeat (first | exact Has.head | apply Has.tail))) hs)) ?_)
    refine ow_ev ev_move ?_
    refine ow_ev (ev_extract (vs := [.int .i64 y14.1, .int .i64 y14.2])) ?_
    refine ow_ev (ev_extract (vs := [.int .i64 y14.1, .int .i64 y14.2])) ?_
    refine ow_ev ev_assign ?_
    refine ow_ev ev_assign ?_
    refine ow_nil (hK8 _ _ ?_); clear hK8
    refine cw_seq fun K9 hK9 => ?_
    refine cw_region ?_
    obtain ⟨y16, hy17, hM⟩ := bind_some hM
    refine ow_cons (st_callv (fun w hm => let ⟨S, hs⟩ := hm; law28_awake_spec _ w  y16 hy17 (lend_lt hs) ) ?_)
    refine ow_ev ev_move ?_
    refine ow_evg rfl ev_move ?_
    refine ow_evg rfl ev_len ?_
    refine ow_evg rfl ev_move ?_
    obtain ⟨y18, hy19, hM⟩ := bind_some hM
    refine ow_callg rfl (fun hg w hm => let ⟨S, hs⟩ := hm; ref24_Joined_spec _ w y5.1 r7.1 y18 (whn_some hy19 hg) (lend_lt hs) (Kn.lend (Kn.trow (e := 3) (r := r7.1) (by repeat (first | exact Has.head | apply Has.tail))) hs)) ?_
    obtain ⟨hI20, hM⟩ := chk_some hM
    refine ow_evg rfl (ev_sub (hr := fun hg => i64b_I64 (gor hI20 hg))) ?_
    refine ow_evg rfl ev_move ?_
    refine ow_evg rfl ev_eql ?_
    refine ow_ev ev_and ?_
    refine ow_ev ev_move ?_
    refine ow_evg rfl ev_move ?_
    refine ow_evg rfl ev_eql ?_
    refine ow_ev ev_and ?_
    refine ow_ev ev_move ?_
    refine ow_evg rfl ev_move ?_
    refine ow_evg rfl ev_move ?_
    refine ow_evg rfl ev_eql ?_
    refine ow_ev ev_and ?_
    refine ow_ev ev_assign ?_
    refine ow_nil (hK9 _ _ ?_); clear hK9
    obtain rfl := some_inj hM
    refine cw_ret (kw_retc1 (fun w hm => ret_of hm rfl))

end Go.Proofs.Ytedocibniankjaa
