/- Models of functions, and that the code computes them. -/
import Derived.Test.YtnihhidbiepnhaaRe
import Derived.Test.YtnihhidbiepnhaaRq
import Derived.Test.YtnihhidbiepnhaaRr
namespace Go.Proofs.Ytnihhidbiepnhaa
open Go.Dc Go.RowKit
set_option maxRecDepth 10000
set_option linter.unusedVariables false
def law7_cells_m (l0 : Layout) (r0 : Route) : Option Bool :=
  (route_Cells_m l0 r0).bind fun y3 =>
  (ref6_Cells_m l0 r0).bind fun y6 =>
  (route_Check_m l0 r0).bind fun y9 =>
  (ref6_CheckRoute_m l0 r0).bind fun y11 =>
  (whn (decide (y9 = y11)) default (keep_Same_api_Cell_m y3.1 y6.1)).bind fun y13 =>
  some (((decide (y9 = y11) && y13) && decide (y3.2.1 = y6.2.1)) && decide (y3.2.2 = y6.2.2))
theorem law7_cells_spec (S : Soup) (w : World) (l0 : Layout) (r_l0 : GoRep.R Layout) (r0 : Route) (r_r0 : GoRep.R Route) (y : Bool) (hM : law7_cells_m l0 r0 = some y) (hS : ∀ k, S k → k < w.heap.size) (h_l0 : GoRep.ok S w r_l0 l0) (h_r0 : GoRep.ok S w r_r0 r0) :
    Calls Try.prog 35 #[.agg #[.slice r_l0.1.a l0.Stations.length r_l0.1.cap, .slice r_l0.2.1.a l0.Points.length r_l0.2.1.cap, .slice r_l0.2.2.1.a l0.Sections.length r_l0.2.2.1.cap, .slice r_l0.2.2.2.a l0.Links.length r_l0.2.2.2.cap], .agg #[.slice r_r0.a r0.Steps.length r_r0.cap, .int .i64 r0.Overlap]] w (Ret w (.bool y)) := by
  refine calls_cw (args := [_, _]) Try.func35 rfl ((pre_nil hS).start |>.immP (α := List Str) (r := r_l0.1) (x := l0.Stations) h_l0.1|>.immP (α := List Str) (r := r_l0.2.1) (x := l0.Points) h_l0.2.1|>.immP (α := List Section) (r := r_l0.2.2.1) (x := l0.Sections) h_l0.2.2.1|>.immP (α := List Link) (r := r_l0.2.2.2) (x := l0.Links) h_l0.2.2.2|>.immP (α := List Step) (r := r_r0) (x := r0.Steps) h_r0) rfl ?_
  unfold law7_cells_m at hM
  refine cw_seq fun K1 hK1 => ?_
  refine cw_region ?_
  refine ow_cons (st_box (l := [.slice r_l0.1.a l0.Stations.length r_l0.1.cap, .slice r_l0.2.1.a l0.Points.length r_l0.2.1.cap, .slice r_l0.2.2.1.a l0.Sections.length r_l0.2.2.1.cap, .slice r_l0.2.2.2.a l0.Links.length r_l0.2.2.2.cap]) (k := fun b1 => ?_))
  refine ow_cons (st_box (l := [.slice r_r0.a r0.Steps.length r_r0.cap, .int .i64 r0.Overlap]) (k := fun b2 => ?_))
  refine ow_ev ev_assign ?_
  refine ow_nil (hK1 _ _ ?_); clear hK1
  refine cw_seq fun K2 hK2 => ?_
  refine cw_region ?_
  refine ow_ev (ev_load_all (b := b1)) ?_
  refine ow_ev (ev_load_all (b := b2)) ?_
  obtain ⟨y3, hy4, hM⟩ := bind_some hM
  refine ow_cons (st_callF SelL.nil (fun S w hs hP => route_Cells_spec _ w l0 r_l0 r0 r_r0 y3 hy4 (lend_lt hs) ⟨(Kn.lend (Kn.imm (α := List Str) (r := r_l0.1) (x := l0.Stations) (by repeat (first | exact Has.head | apply Has.tail))) hs), (Kn.lend (Kn.imm (α := List Str) (r := r_l0.2.1) (x := l0.Points) (by repeat (first | exact Has.head | apply Has.tail))) hs), (Kn.lend (Kn.imm (α := List Section) (r := r_l0.2.2.1) (x := l0.Sections) (by repeat (first | exact Has.head | apply Has.tail))) hs), (Kn.lend (Kn.imm (α := List Link) (r := r_l0.2.2.2) (x := l0.Links) (by repeat (first | exact Has.head | apply Has.tail))) hs)⟩ (Kn.lend (Kn.imm (α := List Step) (r := r_r0) (x := r0.Steps) (by repeat (first | exact Has.head | apply Has.tail))) hs)) (by intro r c hc; simp only [List.mem_cons, List.not_mem_nil, or_false] at hc; rcases hc with rfl <;> first | exact flatC_own | exact flatC_trow (fun _ _ _ _ => trivial)) (fun r5 => ?_))
  dsimp only [List.cons_append, List.nil_append]
  refine ow_ev ev_move ?_
  refine ow_ev (ev_extract (vs := [.slice r5.a y3.1.length r5.cap, .int .i64 y3.2.1, .int .i64 y3.2.2])) ?_
  refine ow_ev (ev_extract (vs := [.slice r5.a y3.1.length r5.cap, .int .i64 y3.2.1, .int .i64 y3.2.2])) ?_
  refine ow_ev (ev_extract (vs := [.slice r5.a y3.1.length r5.cap, .int .i64 y3.2.1, .int .i64 y3.2.2])) ?_
  refine ow_ev ev_assign ?_
  refine ow_ev ev_assign ?_
  refine ow_ev ev_assign ?_
  refine ow_nil (hK2 _ _ ?_); clear hK2
  refine cw_seq fun K3 hK3 => ?_
  refine cw_region ?_
  refine ow_ev (ev_load_all (b := b1)) ?_
  refine ow_ev (ev_load_all (b := b2)) ?_
  obtain ⟨y6, hy7, hM⟩ := bind_some hM
  refine ow_cons (st_callF SelL.nil (fun S w hs hP => ref6_Cells_spec _ w l0 r_l0 r0 r_r0 y6 hy7 (lend_lt hs) ⟨(Kn.lend (Kn.imm (α := List Str) (r := r_l0.1) (x := l0.Stations) (by repeat (first | exact Has.head | apply Has.tail))) hs), (Kn.lend (Kn.imm (α := List Str) (r := r_l0.2.1) (x := l0.Points) (by repeat (first | exact Has.head | apply Has.tail))) hs), (Kn.lend (Kn.imm (α := List Section) (r := r_l0.2.2.1) (x := l0.Sections) (by repeat (first | exact Has.head | apply Has.tail))) hs), (Kn.lend (Kn.imm (α := List Link) (r := r_l0.2.2.2) (x := l0.Links) (by repeat (first | exact Has.head | apply Has.tail))) hs)⟩ (Kn.lend (Kn.imm (α := List Step) (r := r_r0) (x := r0.Steps) (by repeat (first | exact Has.head | apply Has.tail))) hs)) (by intro r c hc; simp only [List.mem_cons, List.not_mem_nil, or_false] at hc; rcases hc with rfl <;> first | exact flatC_own | exact flatC_trow (fun _ _ _ _ => trivial)) (fun r8 => ?_))
  dsimp only [List.cons_append, List.nil_append]
  refine ow_ev ev_move ?_
  refine ow_ev (ev_extract (vs := [.slice r8.a y6.1.length r8.cap, .int .i64 y6.2.1, .int .i64 y6.2.2])) ?_
  refine ow_ev (ev_extract (vs := [.slice r8.a y6.1.length r8.cap, .int .i64 y6.2.1, .int .i64 y6.2.2])) ?_
  refine ow_ev (ev_extract (vs := [.slice r8.a y6.1.length r8.cap, .int .i64 y6.2.1, .int .i64 y6.2.2])) ?_
  refine ow_ev ev_assign ?_
  refine ow_ev ev_assign ?_
  refine ow_ev ev_assign ?_
  refine ow_nil (hK3 _ _ ?_); clear hK3
  refine cw_seq fun K4 hK4 => ?_
  refine cw_region_any _ (List.Sublist.refl _) ?_
  refine aw_ev 0 rfl (ev_load_all (b := b1)) ?_
  refine aw_ev 1 rfl (ev_load_all (b := b2)) ?_
  refine aw_ev 3 rfl (ev_load_all (b := b1)) ?_
  refine aw_ev 4 rfl (ev_load_all (b := b2)) ?_
  obtain ⟨y9, hy10, hM⟩ := bind_some hM
  refine aw_one 2 rfl (st_callv (fun w hm => let ⟨S, hs⟩ := hm; route_Check_spec _ w l0 r_l0 r0 r_r0 y9 hy10 (lend_lt hs) ⟨(Kn.lend (Kn.imm (α := List Str) (r := r_l0.1) (x := l0.Stations) (by repeat (first | exact Has.head | apply Has.tail))) hs), (Kn.lend (Kn.imm (α := List Str) (r := r_l0.2.1) (x := l0.Points) (by repeat (first | exact Has.head | apply Has.tail))) hs), (Kn.lend (Kn.imm (α := List Section) (r := r_l0.2.2.1) (x := l0.Sections) (by repeat (first | exact Has.head | apply Has.tail))) hs), (Kn.lend (Kn.imm (α := List Link) (r := r_l0.2.2.2) (x := l0.Links) (by repeat (first | exact Has.head | apply Has.tail))) hs)⟩ (Kn.lend (Kn.imm (α := List Step) (r := r_r0) (x := r0.Steps) (by repeat (first | exact Has.head | apply Has.tail))) hs)) ⟨fun w hm => hm.sub (by repeat (first | exact List.Sublist.refl _ | apply List.Sublist.cons_cons | apply List.Sublist.cons)), ?_⟩)
  obtain ⟨y11, hy12, hM⟩ := bind_some hM
  refine aw_one 5 rfl (st_callv (fun w hm => let ⟨S, hs⟩ := hm; ref6_CheckRoute_spec _ w l0 r_l0 r0 r_r0 y11 hy12 (lend_lt hs) ⟨(Kn.lend (Kn.imm (α := List Str) (r := r_l0.1) (x := l0.Stations) (by repeat (first | exact Has.head | apply Has.tail))) hs), (Kn.lend (Kn.imm (α := List Str) (r := r_l0.2.1) (x := l0.Points) (by repeat (first | exact Has.head | apply Has.tail))) hs), (Kn.lend (Kn.imm (α := List Section) (r := r_l0.2.2.1) (x := l0.Sections) (by repeat (first | exact Has.head | apply Has.tail))) hs), (Kn.lend (Kn.imm (α := List Link) (r := r_l0.2.2.2) (x := l0.Links) (by repeat (first | exact Has.head | apply Has.tail))) hs)⟩ (Kn.lend (Kn.imm (α := List Step) (r := r_r0) (x := r0.Steps) (by repeat (first | exact Has.head | apply Has.tail))) hs)) ⟨fun w hm => hm.sub (by repeat (first | exact List.Sublist.refl _ | apply List.Sublist.cons_cons | apply List.Sublist.cons)), ?_⟩)
  refine aw_ev 6 rfl ev_eql ?_
  refine aw_ev 7 rfl ev_move ?_
  refine aw_evg 8 rfl rfl ev_move ?_
  refine aw_evg 9 rfl rfl ev_move ?_
  obtain ⟨y13, hy14, hM⟩ := bind_some hM
  refine aw_callg 10 rfl rfl (fun hg w hm => let ⟨S, hs⟩ := hm; keep_Same_api_Cell_spec _ w y3.1 r5 y6.1 r8 y13 (whn_some hy14 hg) (lend_lt hs) (Kn.lend (Kn.trow (e := 57) (r := r5) (by repeat (first | exact Has.head | apply Has.tail))) hs) (Kn.lend (Kn.trow (e := 57) (r := r8) (by repeat (first | exact Has.head | apply Has.tail))) hs)) ?_
  refine aw_ev 11 rfl ev_and ?_
  refine aw_ev 12 rfl ev_move ?_
  refine aw_evg 13 rfl rfl ev_move ?_
  refine aw_evg 14 rfl rfl ev_move ?_
  refine aw_evg 15 rfl rfl ev_eql ?_
  refine aw_ev 16 rfl ev_and ?_
  refine aw_ev 17 rfl ev_move ?_
  refine aw_evg 18 rfl rfl ev_move ?_
  refine aw_evg 19 rfl rfl ev_move ?_
  refine aw_evg 20 rfl rfl ev_eql ?_
  refine aw_ev 21 rfl ev_and ?_
  refine aw_ev 22 rfl ev_assign ?_
  refine aw_done (hK4 _ _ ?_); clear hK4
  obtain rfl := some_inj hM
  refine cw_ret (kw_retc1 (fun w hm => ret_of hm rfl))

def law7_resources_m (l0 : Layout) (r0 : Route) (s0 : Route) : Option Bool :=
  (route_Resources_m l0 r0).bind fun y4 =>
  (ref6_Resources_m l0 r0).bind fun y7 =>
  (route_Clashes_m l0 r0 s0).bind fun y10 =>
  (ref6_Clashes_m l0 r0 s0).bind fun y12 =>
  (keep_Same_int_m y4.1 y7.1).bind fun y14 =>
  some (((y14 && decide (y4.2 = y7.2)) && (y10.1 == y12.1)) && decide (y10.2 = y12.2))
theorem law7_resources_spec (S : Soup) (w : World) (l0 : Layout) (r_l0 : GoRep.R Layout) (r0 : Route) (r_r0 : GoRep.R Route) (s0 : Route) (r_s0 : GoRep.R Route) (y : Bool) (hM : law7_resources_m l0 r0 s0 = some y) (hS : ∀ k, S k → k < w.heap.size) (h_l0 : GoRep.ok S w r_l0 l0) (h_r0 : GoRep.ok S w r_r0 r0) (h_s0 : GoRep.ok S w r_s0 s0) :
    Calls Try.prog 36 #[.agg #[.slice r_l0.1.a l0.Stations.length r_l0.1.cap, .slice r_l0.2.1.a l0.Points.length r_l0.2.1.cap, .slice r_l0.2.2.1.a l0.Sections.length r_l0.2.2.1.cap, .slice r_l0.2.2.2.a l0.Links.length r_l0.2.2.2.cap], .agg #[.slice r_r0.a r0.Steps.length r_r0.cap, .int .i64 r0.Overlap], .agg #[.slice r_s0.a s0.Steps.length r_s0.cap, .int .i64 s0.Overlap]] w (Ret w (.bool y)) := by
  refine calls_cw (args := [_, _, _]) Try.func36 rfl ((pre_nil hS).start |>.immP (α := List Str) (r := r_l0.1) (x := l0.Stations) h_l0.1|>.immP (α := List Str) (r := r_l0.2.1) (x := l0.Points) h_l0.2.1|>.immP (α := List Section) (r := r_l0.2.2.1) (x := l0.Sections) h_l0.2.2.1|>.immP (α := List Link) (r := r_l0.2.2.2) (x := l0.Links) h_l0.2.2.2|>.immP (α := List Step) (r := r_r0) (x := r0.Steps) h_r0|>.immP (α := List Step) (r := r_s0) (x := s0.Steps) h_s0) rfl ?_
  unfold law7_resources_m at hM
  refine cw_seq fun K1 hK1 => ?_
  refine cw_region ?_
  refine ow_cons (st_box (l := [.slice r_l0.1.a l0.Stations.length r_l0.1.cap, .slice r_l0.2.1.a l0.Points.length r_l0.2.1.cap, .slice r_l0.2.2.1.a l0.Sections.length r_l0.2.2.1.cap, .slice r_l0.2.2.2.a l0.Links.length r_l0.2.2.2.cap]) (k := fun b1 => ?_))
  refine ow_cons (st_box (l := [.slice r_r0.a r0.Steps.length r_r0.cap, .int .i64 r0.Overlap]) (k := fun b2 => ?_))
  refine ow_cons (st_box (l := [.slice r_s0.a s0.Steps.length r_s0.cap, .int .i64 s0.Overlap]) (k := fun b3 => ?_))
  refine ow_ev ev_assign ?_
  refine ow_nil (hK1 _ _ ?_); clear hK1
  refine cw_seq fun K2 hK2 => ?_
  refine cw_region ?_
  refine ow_ev (ev_load_all (b := b1)) ?_
  refine ow_ev (ev_load_all (b := b2)) ?_
  obtain ⟨y4, hy5, hM⟩ := bind_some hM
  refine ow_cons (st_callF SelL.nil (fun S w hs hP => route_Resources_spec _ w l0 r_l0 r0 r_r0 y4 hy5 (lend_lt hs) ⟨(Kn.lend (Kn.imm (α := List Str) (r := r_l0.1) (x := l0.Stations) (by repeat (first | exact Has.head | apply Has.tail))) hs), (Kn.lend (Kn.imm (α := List Str) (r := r_l0.2.1) (x := l0.Points) (by repeat (first | exact Has.head | apply Has.tail))) hs), (Kn.lend (Kn.imm (α := List Section) (r := r_l0.2.2.1) (x := l0.Sections) (by repeat (first | exact Has.head | apply Has.tail))) hs), (Kn.lend (Kn.imm (α := List Link) (r := r_l0.2.2.2) (x := l0.Links) (by repeat (first | exact Has.head | apply Has.tail))) hs)⟩ (Kn.lend (Kn.imm (α := List Step) (r := r_r0) (x := r0.Steps) (by repeat (first | exact Has.head | apply Has.tail))) hs)) (by intro r c hc; simp only [List.mem_cons, List.not_mem_nil, or_false] at hc; rcases hc with rfl <;> first | exact flatC_own | exact flatC_trow (fun _ _ _ _ => trivial)) (fun r6 => ?_))
  dsimp only [List.cons_append, List.nil_append]
  refine ow_ev ev_move ?_
  refine ow_ev (ev_extract (vs := [.slice r6.a y4.1.length r6.cap, .int .i64 y4.2])) ?_
  refine ow_ev (ev_extract (vs := [.slice r6.a y4.1.length r6.cap, .int .i64 y4.2])) ?_
  refine ow_ev ev_assign ?_
  refine ow_ev ev_assign ?_
  refine ow_nil (hK2 _ _ ?_); clear hK2
  refine cw_seq fun K3 hK3 => ?_
  refine cw_region ?_
  refine ow_ev (ev_load_all (b := b1)) ?_
  refine ow_ev (ev_load_all (b := b2)) ?_
  obtain ⟨y7, hy8, hM⟩ := bind_some hM
  refine ow_cons (st_callF SelL.nil (fun S w hs hP => ref6_Resources_spec _ w l0 r_l0 r0 r_r0 y7 hy8 (lend_lt hs) ⟨(Kn.lend (Kn.imm (α := List Str) (r := r_l0.1) (x := l0.Stations) (by repeat (first | exact Has.head | apply Has.tail))) hs), (Kn.lend (Kn.imm (α := List Str) (r := r_l0.2.1) (x := l0.Points) (by repeat (first | exact Has.head | apply Has.tail))) hs), (Kn.lend (Kn.imm (α := List Section) (r := r_l0.2.2.1) (x := l0.Sections) (by repeat (first | exact Has.head | apply Has.tail))) hs), (Kn.lend (Kn.imm (α := List Link) (r := r_l0.2.2.2) (x := l0.Links) (by repeat (first | exact Has.head | apply Has.tail))) hs)⟩ (Kn.lend (Kn.imm (α := List Step) (r := r_r0) (x := r0.Steps) (by repeat (first | exact Has.head | apply Has.tail))) hs)) (by intro r c hc; simp only [List.mem_cons, List.not_mem_nil, or_false] at hc; rcases hc with rfl <;> first | exact flatC_own | exact flatC_trow (fun _ _ _ _ => trivial)) (fun r9 => ?_))
  dsimp only [List.cons_append, List.nil_append]
  refine ow_ev ev_move ?_
  refine ow_ev (ev_extract (vs := [.slice r9.a y7.1.length r9.cap, .int .i64 y7.2])) ?_
  refine ow_ev (ev_extract (vs := [.slice r9.a y7.1.length r9.cap, .int .i64 y7.2])) ?_
  refine ow_ev ev_assign ?_
  refine ow_ev ev_assign ?_
  refine ow_nil (hK3 _ _ ?_); clear hK3
  refine cw_seq fun K4 hK4 => ?_
  refine cw_region ?_
  refine ow_ev (ev_load_all (b := b1)) ?_
  refine ow_ev (ev_load_all (b := b2)) ?_
  refine ow_ev (ev_load_all (b := b3)) ?_
  obtain ⟨y10, hy11, hM⟩ := bind_some hM
  refine ow_cons (st_callv (fun w hm => let ⟨S, hs⟩ := hm; route_Clashes_spec _ w l0 r_l0 r0 r_r0 s0 r_s0 y10 hy11 (lend_lt hs) ⟨(Kn.lend (Kn.imm (α := List Str) (r := r_l0.1) (x := l0.Stations) (by repeat (first | exact Has.head | apply Has.tail))) hs), (Kn.lend (Kn.imm (α := List Str) (r := r_l0.2.1) (x := l0.Points) (by repeat (first | exact Has.head | apply Has.tail))) hs), (Kn.lend (Kn.imm (α := List Section) (r := r_l0.2.2.1) (x := l0.Sections) (by repeat (first | exact Has.head | apply Has.tail))) hs), (Kn.lend (Kn.imm (α := List Link) (r := r_l0.2.2.2) (x := l0.Links) (by repeat (first | exact Has.head | apply Has.tail))) hs)⟩ (Kn.lend (Kn.imm (α := List Step) (r := r_r0) (x := r0.Steps) (by repeat (first | exact Has.head | apply Has.tail))) hs) (Kn.lend (Kn.imm (α := List Step) (r := r_s0) (x := s0.Steps) (by repeat (first | exact Has.head | apply Has.tail))) hs)) ?_)
  refine ow_ev ev_move ?_
  refine ow_ev (ev_extract (vs := [.bool y10.1, .int .i64 y10.2])) ?_
  refine ow_ev (ev_extract (vs := [.bool y10.1, .int .i64 y10.2])) ?_
  refine ow_ev ev_assign ?_
  refine ow_ev ev_assign ?_
  refine ow_nil (hK4 _ _ ?_); clear hK4
  refine cw_seq fun K5 hK5 => ?_
  refine cw_region ?_
  refine ow_ev (ev_load_all (b := b1)) ?_
  refine ow_ev (ev_load_all (b := b2)) ?_
  refine ow_ev (ev_load_all (b := b3)) ?_
  obtain ⟨y12, hy13, hM⟩ := bind_some hM
  refine ow_cons (st_callv (fun w hm => let ⟨S, hs⟩ := hm; ref6_Clashes_spec _ w l0 r_l0 r0 r_r0 s0 r_s0 y12 hy13 (lend_lt hs) ⟨(Kn.lend (Kn.imm (α := List Str) (r := r_l0.1) (x := l0.Stations) (by repeat (first | exact Has.head | apply Has.tail))) hs), (Kn.lend (Kn.imm (α := List Str) (r := r_l0.2.1) (x := l0.Points) (by repeat (first | exact Has.head | apply Has.tail))) hs), (Kn.lend (Kn.imm (α := List Section) (r := r_l0.2.2.1) (x := l0.Sections) (by repeat (first | exact Has.head | apply Has.tail))) hs), (Kn.lend (Kn.imm (α := List Link) (r := r_l0.2.2.2) (x := l0.Links) (by repeat (first | exact Has.head | apply Has.tail))) hs)⟩ (Kn.lend (Kn.imm (α := List Step) (r := r_r0) (x := r0.Steps) (by repeat (first | exact Has.head | apply Has.tail))) hs) (Kn.lend (Kn.imm (α := List Step) (r := r_s0) (x := s0.Steps) (by repeat (first | exact Has.head | apply Has.tail))) hs)) ?_)
  refine ow_ev ev_move ?_
  refine ow_ev (ev_extract (vs := [.bool y12.1, .int .i64 y12.2])) ?_
  refine ow_ev (ev_extract (vs := [.bool y12.1, .int .i64 y12.2])) ?_
  refine ow_ev ev_assign ?_
  refine ow_ev ev_assign ?_
  refine ow_nil (hK5 _ _ ?_); clear hK5
  refine cw_seq fun K6 hK6 => ?_
  refine cw_region ?_
  refine ow_ev ev_move ?_
  refine ow_ev ev_move ?_
  obtain ⟨y14, hy15, hM⟩ := bind_some hM
  refine ow_cons (st_callv (fun w hm => let ⟨S, hs⟩ := hm; keep_Same_int_spec _ w y4.1 r6 y7.1 r9 y14 hy15 (lend_lt hs) (Kn.lend (Kn.trow (e := 3) (r := r6) (by repeat (first | exact Has.head | apply Has.tail))) hs) (Kn.lend (Kn.trow (e := 3) (r := r9) (by repeat (first | exact Has.head | apply Has.tail))) hs)) ?_)
  refine ow_ev ev_move ?_
  refine ow_evg rfl ev_move ?_
  refine ow_evg rfl ev_move ?_
  refine ow_evg rfl ev_eql ?_
  refine ow_ev ev_and ?_
  refine ow_ev ev_move ?_
  refine ow_evg rfl ev_move ?_
  refine ow_evg rfl ev_move ?_
  refine ow_evg rfl ev_bool_eql ?_
  refine ow_ev ev_and ?_
  refine ow_ev ev_move ?_
  refine ow_evg rfl ev_move ?_
  refine ow_evg rfl ev_move ?_
  refine ow_evg rfl ev_eql ?_
  refine ow_ev ev_and ?_
  refine ow_ev ev_assign ?_
  refine ow_nil (hK6 _ _ ?_); clear hK6
  obtain rfl := some_inj hM
  refine cw_ret (kw_retc1 (fun w hm => ret_of hm rfl))

end Go.Proofs.Ytnihhidbiepnhaa
