/- Models of functions, and that the code computes them. -/
import Derived.Test.YtnihhidbiepnhaaRf
import Derived.Test.YtnihhidbiepnhaaRl
import Derived.Test.YtnihhidbiepnhaaFl
namespace Go.Proofs.Ytnihhidbiepnhaa
open Go.Dc Go.RowKit
set_option maxRecDepth 10000
set_option linter.unusedVariables false
def law7_RouteBudget_m (l0 : List Int) (v0 : Int) (to0 : Int) : Option Bool :=
  (keep_Layout_m l0).bind fun y1 =>
  (keep_Pick_m v0 (y1.Sections.length : Int)).bind fun y5 =>
  chk (decide (50 ≠ 0) && i64b (v0.tdiv 50)) <|
  (keep_Pick_m (v0.tdiv 50) 2).bind fun y8 =>
  (keep_Pick_m to0 (y1.Sections.length : Int)).bind fun y11 =>
  (route_Find_m y1 (Step.mk y5 y8) y11 1000).bind fun y13 =>
  if (decide (y13.2.2 ≠ 0) || decide (y13.2.1 < 2)) then
    ((law7_awake_m).bind fun y17 =>
    some (y17 && decide (y13.2.2 = 6)))
  else
    ((route_Find_m y1 (Step.mk y5 y8) y11 y13.2.1).bind fun y19 =>
    chk (i64b (y13.2.1 - 1)) <|
    (route_Find_m y1 (Step.mk y5 y8) y11 (y13.2.1 - 1)).bind fun y23 =>
    (law7_awake_m).bind fun y26 =>
    (whn ((y26 && decide (y19.2.2 = 0)) && decide (y19.2.1 = y13.2.1)) default (keep_SameRoutes_m y13.1 y19.1)).bind fun y28 =>
    some ((((y26 && decide (y19.2.2 = 0)) && decide (y19.2.1 = y13.2.1)) && y28) && decide (y23.2.2 = 15)))
theorem law7_RouteBudget_spec (S : Soup) (w : World) (l0 : List Int) (r_l0 : GoRep.R (List Int)) (v0 : Int) (to0 : Int) (y : Bool) (hM : law7_RouteBudget_m l0 v0 to0 = some y) (hS : ∀ k, S k → k < w.heap.size) (h_l0 : GoRep.ok S w r_l0 l0) :
    Calls Try.prog 16 #[.slice r_l0.a l0.length r_l0.cap, .int .i64 v0, .int .i64 to0] w (Ret w (.bool y)) := by
  refine calls_cw (args := [_, _, _]) Try.func16 rfl ((pre_nil hS).start |>.immP (α := List Int) (r := r_l0) (x := l0) h_l0) rfl ?_
  unfold law7_RouteBudget_m at hM
  refine cw_seq fun K1 hK1 => ?_
  refine cw_region ?_
  refine ow_ev ev_assign ?_
  refine ow_nil (hK1 _ _ ?_); clear hK1
  refine cw_seq fun K2 hK2 => ?_
  refine cw_region ?_
  refine ow_ev ev_move ?_
  obtain ⟨y1, hy2, hM⟩ := bind_some hM
  refine ow_cons (st_callF SelL.nil (fun S w hs hP => keep_Layout_spec _ w l0 r_l0 y1 hy2 (lend_lt hs) (Kn.lend (Kn.imm (α := List Int) (r := r_l0) (x := l0) (by repeat (first | exact Has.head | apply Has.tail))) hs)) (by intro r c hc; simp only [List.mem_cons, List.not_mem_nil, or_false] at hc; rcases hc with rfl | rfl | rfl | rfl <;> first | exact flatC_own | exact flatC_trow (fun _ _ _ _ => trivial)) (fun r3 => ?_))
  dsimp only [List.cons_append, List.nil_append]
  refine ow_cons (st_alloc rfl (k := fun b4 => ?_))
  refine ow_cons (st_store_all (b := b4) (vs := [.slice r3.1.a y1.Stations.length r3.1.cap, .slice r3.2.1.a y1.Points.length r3.2.1.cap, .slice r3.2.2.1.a y1.Sections.length r3.2.2.1.cap, .slice r3.2.2.2.a y1.Links.length r3.2.2.2.cap]) (k := ?_))
  refine ow_nil (hK2 _ _ ?_); clear hK2
  refine cw_seq fun K3 hK3 => ?_
  refine cw_region ?_
  refine ow_ev ev_move ?_
  refine ow_ev (ev_field_addr 2) ?_
  refine ow_ev (ev_load_own (b := b4)) ?_
  refine ow_ev ev_len ?_
  obtain ⟨y5, hy6, hM⟩ := bind_some hM
  refine ow_cons (st_callv (fun w hm => let ⟨S, hs⟩ := hm; keep_Pick_spec _ w v0 (y1.Sections.length : Int) y5 hy6 (lend_lt hs) ) ?_)
  refine ow_ev ev_move ?_
  obtain ⟨hI7, hM⟩ := chk_some hM
  refine ow_ev (ev_quo' (hr := fun hg => quo_ok hI7)) ?_
  obtain ⟨y8, hy9, hM⟩ := bind_some hM
  refine ow_cons (st_callv (fun w hm => let ⟨S, hs⟩ := hm; keep_Pick_spec _ w (v0.tdiv 50) 2 y8 hy9 (lend_lt hs) ) ?_)
  refine ow_ev (ev_build [.int .i64 y5, .int .i64 y8]) ?_
  refine ow_cons (st_alloc rfl (k := fun b10 => ?_))
  refine ow_cons (st_store_all (b := b10) (vs := [.int .i64 y5, .int .i64 y8]) (k := ?_))
  refine ow_nil (hK3 _ _ ?_); clear hK3
  refine cw_seq fun K4 hK4 => ?_
  refine cw_region ?_
  refine ow_ev ev_move ?_
  refine ow_ev (ev_field_addr 2) ?_
  refine ow_ev (ev_load_own (b := b4)) ?_
  refine ow_ev ev_len ?_
  obtain ⟨y11, hy12, hM⟩ := bind_some hM
  refine ow_cons (st_callv (fun w hm => let ⟨S, hs⟩ := hm; keep_Pick_spec _ w to0 (y1.Sections.length : Int) y11 hy12 (lend_lt hs) ) ?_)
  refine ow_ev ev_assign ?_
  refine ow_nil (hK4 _ _ ?_); clear hK4
  refine cw_seq fun K5 hK5 => ?_
  refine cw_region ?_
  refine ow_ev (ev_load_all (b := b4)) ?_
  refine ow_ev (ev_load_all (b := b10)) ?_
  refine ow_ev ev_move ?_
  refine ow_imp (fun w hm => hm.freeze (r := r3.1) (by repeat (first | exact Upd.head | apply Upd.tail))) ?_
  refine ow_imp (fun w hm => hm.freeze (r := r3.2.1) (by repeat (first | exact Upd.head | apply Upd.tail))) ?_
  refine ow_imp (fun w hm => hm.freeze (r := r3.2.2.1) (by repeat (first | exact Upd.head | apply Upd.tail))) ?_
  refine ow_imp (fun w hm => hm.freeze (r := r3.2.2.2) (by repeat (first | exact Upd.head | apply Upd.tail))) ?_
  obtain ⟨y13, hy14, hM⟩ := bind_some hM
  refine ow_cons (st_callS SelL.nil (fun S w hs hP => route_Find_spec _ w y1 r3 (Step.mk y5 y8) y11 1000 y13 hy14 hs.lt ⟨((Sk.imm (α := List Str) (r := r3.1) (x := y1.Stations) (by repeat (first | exact Has.head | apply Has.tail))) S w hs), ((Sk.imm (α := List Str) (r := r3.2.1) (x := y1.Points) (by repeat (first | exact Has.head | apply Has.tail))) S w hs), ((Sk.imm (α := List Section) (r := r3.2.2.1) (x := y1.Sections) (by repeat (first | exact Has.head | apply Has.tail))) S w hs), ((Sk.imm (α := List Link) (r := r3.2.2.2) (x := y1.Links) (by repeat (first | exact Has.head | apply Has.tail))) S w hs)⟩)  (fun r15 => ?_))
  dsimp only [List.cons_append, List.nil_append]
  refine ow_ev ev_move ?_
  refine ow_ev (ev_extract (vs := [.slice r15.a y13.1.length r15.cap, .int .i64 y13.2.1, .int .i64 y13.2.2])) ?_
  refine ow_ev (ev_extract (vs := [.slice r15.a y13.1.length r15.cap, .int .i64 y13.2.1, .int .i64 y13.2.2])) ?_
  refine ow_ev (ev_extract (vs := [.slice r15.a y13.1.length r15.cap, .int .i64 y13.2.1, .int .i64 y13.2.2])) ?_
  refine ow_ev ev_assign ?_
  refine ow_ev ev_assign ?_
  refine ow_ev ev_assign ?_
  refine ow_nil (hK5 _ _ ?_); clear hK5
  refine cw_seq fun K6 hK6 => ?_
  refine cw_seq fun K7 hK7 => ?_
  refine cw_region ?_
  refine ow_ev ev_move ?_
  refine ow_ev ev_neq ?_
  refine ow_ev ev_move ?_
  refine ow_evg rfl ev_move ?_
  refine ow_evg rfl ev_lss ?_
  refine ow_ev ev_or ?_
  refine ow_nil (hK7 _ _ ?_); clear hK7
  refine cw_cond rfl (fun hc16 => ?_) (fun hc16 => ?_)
  ·
    replace hM := (ite_t hc16).symm.trans hM
    refine cw_seq fun K8 hK8 => ?_
    refine cw_region ?_
    obtain ⟨y17, hy18, hM⟩ := bind_some hM
    refine ow_cons (st_callv (fun w hm => let ⟨S, hs⟩ := hm; law7_awake_spec _ w  y17 hy18 (lend_lt hs) ) ?_)
    refine ow_ev ev_move ?_
    refine ow_evg rfl ev_move ?_
    refine ow_evg rfl ev_eql ?_
    refine ow_ev ev_and ?_
    refine ow_ev ev_assign ?_
    refine ow_nil (hK8 _ _ ?_); clear hK8
    obtain rfl := some_inj hM
    refine cw_ret (kw_retc1 (fun w hm => ret_of hm rfl))
  ·
    replace hM := (ite_f hc16).symm.trans hM
    refine cw_skip (hK6 _ _ ?_); clear hK6
    refine cw_seq fun K9 hK9 => ?_
    refine cw_region ?_
    refine ow_ev (ev_load_all (b := b4)) ?_
    refine ow_ev (ev_load_all (b := b10)) ?_
    refine ow_ev ev_move ?_
    refine ow_ev ev_move ?_
    obtain ⟨y19, hy20, hM⟩ := bind_some hM
    refine ow_cons (st_callS SelL.nil (fun S w hs hP => route_Find_spec _ w y1 r3 (Step.mk y5 y8) y11 y13.2.1 y19 hy20 hs.lt ⟨((Sk.imm (α := List Str) (r := r3.1) (x := y1.Stations) (by repeat (first | exact Has.head | apply Has.tail))) S w hs), ((Sk.imm (α := List Str) (r := r3.2.1) (x := y1.Points) (by repeat (first | exact Has.head | apply Has.tail))) S w hs), ((Sk.imm (α := List Section) (r := r3.2.2.1) (x := y1.Sections) (by repeat (first | exact Has.head | apply Has.tail))) S w hs), ((Sk.imm (α := List Link) (r := r3.2.2.2) (x := y1.Links) (by repeat (first | exact Has.head | apply Has.tail))) S w hs)⟩)  (fun r21 => ?_))
    dsimp only [List.cons_append, List.nil_append]
    refine ow_ev ev_move ?_
    refine ow_ev (ev_extract (vs := [.slice r21.a y19.1.length r21.cap, .int .i64 y19.2.1, .int .i64 y19.2.2])) ?_
    refine ow_ev (ev_extract (vs := [.slice r21.a y19.1.length r21.cap, .int .i64 y19.2.1, .int .i64 y19.2.2])) ?_
    refine ow_ev (ev_extract (vs := [.slice r21.a y19.1.length r21.cap, .int .i64 y19.2.1, .int .i64 y19.2.2])) ?_
    refine ow_ev ev_assign ?_
    refine ow_ev ev_assign ?_
    refine ow_ev ev_assign ?_
    refine ow_nil (hK9 _ _ ?_); clear hK9
    refine cw_seq fun K10 hK10 => ?_
    refine cw_region ?_
    refine ow_ev (ev_load_all (b := b4)) ?_
    refine ow_ev (ev_load_all (b := b10)) ?_
    refine ow_ev ev_move ?_
    refine ow_ev ev_move ?_
    obtain ⟨hI22, hM⟩ := chk_some hM
    refine ow_ev (ev_sub (hr := fun hg => i64b_I64 hI22)) ?_
    obtain ⟨y23, hy24, hM⟩ := bind_some hM
    refine ow_cons (st_callS SelL.nil (fun S w hs hP => route_Find_spec _ w y1 r3 (Step.mk y5 y8) y11 (y13.2.1 - 1) y23 hy24 hs.lt ⟨((Sk.imm (α := List Str) (r := r3.1) (x := y1.Stations) (by repeat (first | exact Has.head | apply Has.tail))) S w hs), ((Sk.imm (α := List Str) (r := r3.2.1) (x := y1.Points) (by repeat (first | exact Has.head | apply Has.tail))) S w hs), ((Sk.imm (α := List Section) (r := r3.2.2.1) (x := y1.Sections) (by repeat (first | exact Has.head | apply Has.tail))) S w hs), ((Sk.imm (α := List Link) (r := r3.2.2.2) (x := y1.Links) (by repeat (first | exact Has.head | apply Has.tail))) S w hs)⟩)  (fun r25 => ?_))
    dsimp only [List.cons_append, List.nil_append]
    refine ow_ev ev_move ?_
    refine ow_ev (ev_extract (vs := [.slice r25.a y23.1.length r25.cap, .int .i64 y23.2.1, .int .i64 y23.2.2])) ?_
    refine ow_ev (ev_extract (vs := [.slice r25.a y23.1.length r25.cap, .int .i64 y23.2.1, .int .i64 y23.2.2])) ?_
    refine ow_ev (ev_extract (vs := [.slice r25.a y23.1.length r25.cap, .int .i64 y23.2.1, .int .i64 y23.2.2])) ?_
    refine ow_ev ev_assign ?_
    refine ow_ev ev_assign ?_
    refine ow_ev ev_assign ?_
    refine ow_nil (hK10 _ _ ?_); clear hK10
    refine cw_seq fun K11 hK11 => ?_
    refine cw_region ?_
    obtain ⟨y26, hy27, hM⟩ := bind_some hM
    refine ow_cons (st_callv (fun w hm => let ⟨S, hs⟩ := hm; law7_awake_spec _ w  y26 hy27 (lend_lt hs) ) ?_)
    refine ow_ev ev_move ?_
    refine ow_evg rfl ev_move ?_
    refine ow_evg rfl ev_eql ?_
    refine ow_ev ev_and ?_
    refine ow_ev ev_move ?_
    refine ow_evg rfl ev_move ?_
    refine ow_evg rfl ev_move ?_
    refine ow_evg rfl ev_eql ?_
    refine ow_ev ev_and ?_
    refine ow_ev ev_move ?_
    refine ow_evg rfl ev_move ?_
    refine ow_evg rfl ev_move ?_
    obtain ⟨y28, hy29, hM⟩ := bind_some hM
    refine ow_callg rfl (fun hg w hm => let ⟨S, hs⟩ := hm; keep_SameRoutes_spec _ w y13.1 r15 y19.1 r21 y28 (whn_some hy29 hg) (lend_lt hs) (Kn.lend (Kn.trow (e := 48) (r := r15) (by repeat (first | exact Has.head | apply Has.tail))) hs) (Kn.lend (Kn.trow (e := 48) (r := r21) (by repeat (first | exact Has.head | apply Has.tail))) hs)) ?_
    refine ow_ev ev_and ?_
    refine ow_ev ev_move ?_
    refine ow_evg rfl ev_move ?_
    refine ow_evg rfl ev_eql ?_
    refine ow_ev ev_and ?_
    refine ow_ev ev_assign ?_
    refine ow_nil (hK11 _ _ ?_); clear hK11
    obtain rfl := some_inj hM
    refine cw_ret (kw_retc1 (fun w hm => ret_of hm rfl))

end Go.Proofs.Ytnihhidbiepnhaa
