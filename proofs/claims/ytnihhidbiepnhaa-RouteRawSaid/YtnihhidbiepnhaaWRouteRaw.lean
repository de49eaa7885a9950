/- Models of functions, and that the code computes them. -/
import Derived.Test.YtnihhidbiepnhaaRf
import Derived.Test.YtnihhidbiepnhaaRs
namespace Go.Proofs.Ytnihhidbiepnhaa
open Go.Dc Go.RowKit
set_option maxRecDepth 10000
set_option linter.unusedVariables false
def law7_RouteRaw_m (l0 : Layout) (r0 : Route) (s0 : Route) : Option Bool :=
  (law7_awake_m).bind fun y4 =>
  (whn y4 default (law7_cells_m l0 r0)).bind fun y6 =>
  (whn (y4 && y6) default (law7_resources_m l0 r0 s0)).bind fun y8 =>
  if ((y4 && y6) && y8) then
  ((law7_example_m).bind fun y11 =>
  (law7_cells_m y11 r0).bind fun y14 =>
  if (((y4 && y6) && y8) && y14) then
  ((law7_example_m).bind fun y17 =>
  (law7_resources_m y17 r0 s0).bind fun y20 =>
  some ((((y4 && y6) && y8) && y14) && y20))
  else
  (some false))
  else
  (if false then
  ((law7_example_m).bind fun y23 =>
  (law7_resources_m y23 r0 s0).bind fun y26 =>
  some (false && y26))
  else
  (some false))
theorem law7_RouteRaw_spec (S : Soup) (w : World) (l0 : Layout) (r_l0 : GoRep.R Layout) (r0 : Route) (r_r0 : GoRep.R Route) (s0 : Route) (r_s0 : GoRep.R Route) (y : Bool) (hM : law7_RouteRaw_m l0 r0 s0 = some y) (hS : ∀ k, S k → k < w.heap.size) (h_l0 : GoRep.ok S w r_l0 l0) (h_r0 : GoRep.ok S w r_r0 r0) (h_s0 : GoRep.ok S w r_s0 s0) :
    Calls Try.prog 10 #[.agg #[.slice r_l0.1.a l0.Stations.length r_l0.1.cap, .slice r_l0.2.1.a l0.Points.length r_l0.2.1.cap, .slice r_l0.2.2.1.a l0.Sections.length r_l0.2.2.1.cap, .slice r_l0.2.2.2.a l0.Links.length r_l0.2.2.2.cap], .agg #[.slice r_r0.a r0.Steps.length r_r0.cap, .int .i64 r0.Overlap], .agg #[.slice r_s0.a s0.Steps.length r_s0.cap, .int .i64 s0.Overlap]] w (Ret w (.bool y)) := by
  refine calls_cw (args := [_, _, _]) Try.func10 rfl ((pre_nil hS).start |>.immP (α := List Str) (r := r_l0.1) (x := l0.Stations) h_l0.1|>.immP (α := List Str) (r := r_l0.2.1) (x := l0.Points) h_l0.2.1|>.immP (α := List Section) (r := r_l0.2.2.1) (x := l0.Sections) h_l0.2.2.1|>.immP (α := List Link) (r := r_l0.2.2.2) (x := l0.Links) h_l0.2.2.2|>.immP (α := List Step) (r := r_r0) (x := r0.Steps) h_r0|>.immP (α := List Step) (r := r_s0) (x := s0.Steps) h_s0) rfl ?_
  unfold law7_RouteRaw_m at hM
  refine cw_seq fun K1 hK1 => ?_
  refine cw_region ?_
  refine ow_cons (st_box (l := [.slice r_l0.1.a l0.Stations.length r_l0.1.cap, .slice r_l0.2.1.a l0.Points.length r_l0.2.1.cap, .slice r_l0.2.2.1.a l0.Sections.length r_l0.2.2.1.cap, .slice r_l0.2.2.2.a l0.Links.length r_l0.2.2.2.cap]) (k := fun b1 => ?_))
  refine ow_cons (st_box (l := [.slice r_r0.a r0.Steps.length r_r0.cap, .int .i64 r0.Overlap]) (k := fun b2 => ?_))
  refine ow_cons (st_box (l := [.slice r_s0.a s0.Steps.length r_s0.cap, .int .i64 s0.Overlap]) (k := fun b3 => ?_))
  refine ow_ev ev_assign ?_
  refine ow_nil (hK1 _ _ ?_); clear hK1
  refine cw_seq fun K2 hK2 => ?_
  refine cw_region_any _ (List.Sublist.refl _) ?_
  obtain ⟨y4, hy5, hM⟩ := bind_some hM
  refine aw_one 0 rfl (st_callv (fun w hm => let ⟨S, hs⟩ := hm; law7_awake_spec _ w  y4 hy5 (lend_lt hs) ) ⟨fun w hm => hm.sub (by repeat (first | exact List.Sublist.refl _ | apply List.Sublist.cons_cons | apply List.Sublist.cons)), ?_⟩)
  refine aw_ev 1 rfl ev_move ?_
  refine aw_evg 2 rfl rfl (ev_load_all (b := b1)) ?_
  refine aw_evg 3 rfl rfl (ev_load_all (b := b2)) ?_
  obtain ⟨y6, hy7, hM⟩ := bind_some hM
  refine aw_callg 4 rfl rfl (fun hg w hm => let ⟨S, hs⟩ := hm; law7_cells_spec _ w l0 r_l0 r0 r_r0 y6 (whn_some hy7 hg) (lend_lt hs) ⟨(Kn.lend (Kn.imm (α := List Str) (r := r_l0.1) (x := l0.Stations) (by repeat (first | exact Has.head | apply Has.tail))) hs), (Kn.lend (Kn.imm (α := List Str) (r := r_l0.2.1) (x := l0.Points) (by repeat (first | exact Has.head | apply Has.tail))) hs), (Kn.lend (Kn.imm (α := List Section) (r := r_l0.2.2.1) (x := l0.Sections) (by repeat (first | exact Has.head | apply Has.tail))) hs), (Kn.lend (Kn.imm (α := List Link) (r := r_l0.2.2.2) (x := l0.Links) (by repeat (first | exact Has.head | apply Has.tail))) hs)⟩ (Kn.lend (Kn.imm (α := List Step) (r := r_r0) (x := r0.Steps) (by repeat (first | exact Has.head | apply Has.tail))) hs)) ?_
  refine aw_ev 5 rfl ev_and ?_
  refine aw_ev 6 rfl ev_move ?_
  refine aw_evg 7 rfl rfl (ev_load_all (b := b1)) ?_
  refine aw_evg 8 rfl rfl (ev_load_all (b := b2)) ?_
  refine aw_evg 9 rfl rfl (ev_load_all (b := b3)) ?_
  obtain ⟨y8, hy9, hM⟩ := bind_some hM
  refine aw_callg 10 rfl rfl (fun hg w hm => let ⟨S, hs⟩ := hm; law7_resources_spec _ w l0 r_l0 r0 r_r0 s0 r_s0 y8 (whn_some hy9 hg) (lend_lt hs) ⟨(Kn.lend (Kn.imm (α := List Str) (r := r_l0.1) (x := l0.Stations) (by repeat (first | exact Has.head | apply Has.tail))) hs), (Kn.lend (Kn.imm (α := List Str) (r := r_l0.2.1) (x := l0.Points) (by repeat (first | exact Has.head | apply Has.tail))) hs), (Kn.lend (Kn.imm (α := List Section) (r := r_l0.2.2.1) (x := l0.Sections) (by repeat (first | exact Has.head | apply Has.tail))) hs), (Kn.lend (Kn.imm (α := List Link) (r := r_l0.2.2.2) (x := l0.Links) (by repeat (first | exact Has.head | apply Has.tail))) hs)⟩ (Kn.lend (Kn.imm (α := List Step) (r := r_r0) (x := r0.Steps) (by repeat (first | exact Has.head | apply Has.tail))) hs) (Kn.lend (Kn.imm (α := List Step) (r := r_s0) (x := s0.Steps) (by repeat (first | exact Has.head | apply Has.tail))) hs)) ?_
  refine aw_ev 11 rfl ev_and ?_
  refine aw_ev 12 rfl ev_move ?_
  refine aw_evg 14 rfl rfl (ev_load_all (b := b2)) ?_
  refine aw_cases ((y4 && y6) && y8) (fun hg10 => ?_) (fun hg10 => ?_)
  ·
    replace hM := (ite_t hg10).symm.trans hM
    refine aw_know 21 hg10 rfl ?_
    obtain ⟨y11, hy12, hM⟩ := bind_some hM
    refine aw_gtrue 13 rfl rfl hg10 (st_callF SelL.nil (fun S w hs hP => law7_example_spec _ w  y11 hy12 (lend_lt hs) ) (by intro r c hc; simp only [List.mem_cons, List.not_mem_nil, or_false] at hc; rcases hc with rfl | rfl | rfl | rfl <;> first | exact flatC_own | exact flatC_trow (fun _ _ _ _ => trivial)) (fun r13 => ⟨fun w hm => hm.sub (by repeat (first | exact List.Sublist.refl _ | apply List.Sublist.cons_cons | apply List.Sublist.cons)), ?_⟩))
    dsimp only [List.cons_append, List.nil_append]
    obtain ⟨y14, hy15, hM⟩ := bind_some hM
    refine aw_gtrue 15 rfl rfl hg10 (st_callv (fun w hm => let ⟨S, hs⟩ := hm; law7_cells_spec _ w y11 r13 r0 r_r0 y14 hy15 (lend_lt hs) ⟨(Kn.lend (Kn.trow (e := 9) (r := r13.1) (by repeat (first | exact Has.head | apply Has.tail))) hs), (Kn.lend (Kn.trow (e := 9) (r := r13.2.1) (by repeat (first | exact Has.head | apply Has.tail))) hs), (Kn.lend (Kn.trow (e := 31) (r := r13.2.2.1) (by repeat (first | exact Has.head | apply Has.tail))) hs), (Kn.lend (Kn.trow (e := 91) (r := r13.2.2.2) (by repeat (first | exact Has.head | apply Has.tail))) hs)⟩ (Kn.lend (Kn.imm (α := List Step) (r := r_r0) (x := r0.Steps) (by repeat (first | exact Has.head | apply Has.tail))) hs)) ⟨fun w hm => hm.sub (by repeat (first | exact List.Sublist.refl _ | apply List.Sublist.cons_cons | apply List.Sublist.cons)), ?_⟩)
    refine aw_ev 16 rfl ev_and ?_
    refine aw_ev 17 rfl ev_move ?_
    refine aw_evg 19 rfl rfl (ev_load_all (b := b2)) ?_
    refine aw_evg 20 rfl rfl (ev_load_all (b := b3)) ?_
    refine aw_cases (((y4 && y6) && y8) && y14) (fun hg16 => ?_) (fun hg16 => ?_)
    ·
      replace hM := (ite_t hg16).symm.trans hM
      refine aw_know 26 hg16 rfl ?_
      refine aw_know 27 hg16 rfl ?_
      obtain ⟨y17, hy18, hM⟩ := bind_some hM
      refine aw_gtrue 18 rfl rfl hg16 (st_callF SelL.nil (fun S w hs hP => law7_example_spec _ w  y17 hy18 (lend_lt hs) ) (by intro r c hc; simp only [List.mem_cons, List.not_mem_nil, or_false] at hc; rcases hc with rfl | rfl | rfl | rfl <;> first | exact flatC_own | exact flatC_trow (fun _ _ _ _ => trivial)) (fun r19 => ⟨fun w hm => hm.sub (by repeat (first | exact List.Sublist.refl _ | apply List.Sublist.cons_cons | apply List.Sublist.cons)), ?_⟩))
      dsimp only [List.cons_append, List.nil_append]
      obtain ⟨y20, hy21, hM⟩ := bind_some hM
      refine aw_gtrue 21 rfl rfl hg16 (st_callv (fun w hm => let ⟨S, hs⟩ := hm; law7_resources_spec _ w y17 r19 r0 r_r0 s0 r_s0 y20 hy21 (lend_lt hs) ⟨(Kn.lend (Kn.trow (e := 9) (r := r19.1) (by repeat (first | exact Has.head | apply Has.tail))) hs), (Kn.lend (Kn.trow (e := 9) (r := r19.2.1) (by repeat (first | exact Has.head | apply Has.tail))) hs), (Kn.lend (Kn.trow (e := 31) (r := r19.2.2.1) (by repeat (first | exact Has.head | apply Has.tail))) hs), (Kn.lend (Kn.trow (e := 91) (r := r19.2.2.2) (by repeat (first | exact Has.head | apply Has.tail))) hs)⟩ (Kn.lend (Kn.imm (α := List Step) (r := r_r0) (x := r0.Steps) (by repeat (first | exact Has.head | apply Has.tail))) hs) (Kn.lend (Kn.imm (α := List Step) (r := r_s0) (x := s0.Steps) (by repeat (first | exact Has.head | apply Has.tail))) hs)) ⟨fun w hm => hm.sub (by repeat (first | exact List.Sublist.refl _ | apply List.Sublist.cons_cons | apply List.Sublist.cons)), ?_⟩)
      refine aw_ev 22 rfl ev_and ?_
      refine aw_ev 23 rfl ev_assign ?_
      refine aw_done (hK2 _ _ ?_); clear hK2
      obtain rfl := some_inj hM
      refine cw_ret (kw_retc1 (fun w hm => ret_of hm rfl))
    ·
      replace hM := (ite_f hg16).symm.trans hM
      refine aw_gskip 18 rfl rfl hg16 ?_
      refine aw_gskip 21 rfl rfl hg16 ?_
      refine aw_ev 22 rfl (ev_andF hg16) ?_
      refine aw_ev 23 rfl ev_assign ?_
      refine aw_done (hK2 _ _ ?_); clear hK2
      obtain rfl := some_inj hM
      refine cw_ret (kw_retc1 (fun w hm => ret_of hm rfl))
  ·
    replace hM := (ite_f hg10).symm.trans hM
    refine aw_gskip 13 rfl rfl hg10 ?_
    refine aw_gskip 15 rfl rfl hg10 ?_
    refine aw_ev 16 rfl (ev_andF hg10) ?_
    refine aw_ev 17 rfl ev_move ?_
    refine aw_evg 19 rfl rfl (ev_load_all (b := b2)) ?_
    refine aw_evg 20 rfl rfl (ev_load_all (b := b3)) ?_
    refine aw_cases false (fun hg22 => ?_) (fun hg22 => ?_)
    ·
      replace hM := (ite_t hg22).symm.trans hM
      refine aw_know 26 hg22 rfl ?_
      refine aw_know 27 hg22 rfl ?_
      obtain ⟨y23, hy24, hM⟩ := bind_some hM
      refine aw_gtrue 18 rfl rfl hg22 (st_callF SelL.nil (fun S w hs hP => law7_example_spec _ w  y23 hy24 (lend_lt hs) ) (by intro r c hc; simp only [List.mem_cons, List.not_mem_nil, or_false] at hc; rcases hc with rfl | rfl | rfl | rfl <;> first | exact flatC_own | exact flatC_trow (fun _ _ _ _ => trivial)) (fun r25 => ⟨fun w hm => hm.sub (by repeat (first | exact List.Sublist.refl _ | apply List.Sublist.cons_cons | apply List.Sublist.cons)), ?_⟩))
      dsimp only [List.cons_append, List.nil_append]
      obtain ⟨y26, hy27, hM⟩ := bind_some hM
      refine aw_gtrue 21 rfl rfl hg22 (st_callv (fun w hm => let ⟨S, hs⟩ := hm; law7_resources_spec _ w y23 r25 r0 r_r0 s0 r_s0 y26 hy27 (lend_lt hs) ⟨(Kn.lend (Kn.trow (e := 9) (r := r25.1) (by repeat (first | exact Has.head | apply Has.tail))) hs), (Kn.lend (Kn.trow (e := 9) (r := r25.2.1) (by repeat (first | exact Has.head | apply Has.tail))) hs), (Kn.lend (Kn.trow (e := 31) (r := r25.2.2.1) (by repeat (first | exact Has.head | apply Has.tail))) hs), (Kn.lend (Kn.trow (e := 91) (r := r25.2.2.2) (by repeat (first | exact Has.head | apply Has.tail))) hs)⟩ (Kn.lend (Kn.imm (α := List Step) (r := r_r0) (x := r0.Steps) (by repeat (first | exact Has.head | apply Has.tail))) hs) (Kn.lend (Kn.imm (α := List Step) (r := r_s0) (x := s0.Steps) (by repeat (first | exact Has.head | apply Has.tail))) hs)) ⟨fun w hm => hm.sub (by repeat (first | exact List.Sublist.refl _ | apply List.Sublist.cons_cons | apply List.Sublist.cons)), ?_⟩)
      refine aw_ev 22 rfl ev_and ?_
      refine aw_ev 23 rfl ev_assign ?_
      refine aw_done (hK2 _ _ ?_); clear hK2
      obtain rfl := some_inj hM
      refine cw_ret (kw_retc1 (fun w hm => ret_of hm rfl))
    ·
      replace hM := (ite_f hg22).symm.trans hM
      refine aw_gskip 18 rfl rfl hg22 ?_
      refine aw_gskip 21 rfl rfl hg22 ?_
      refine aw_ev 22 rfl (ev_andF hg22) ?_
      refine aw_ev 23 rfl ev_assign ?_
      refine aw_done (hK2 _ _ ?_); clear hK2
      obtain rfl := some_inj hM
      refine cw_ret (kw_retc1 (fun w hm => ret_of hm rfl))

end Go.Proofs.Ytnihhidbiepnhaa
