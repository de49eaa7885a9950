/- Models of functions, and that the code computes them. -/
import Derived.Test.YtcalibhfgdncaaaGreatDoorPt
import Derived.Test.YtcalibhfgdncaaaGreatDoorPy
import Derived.Test.YtcalibhfgdncaaaGreatDoorPz
namespace Go.Proofs.YtcalibhfgdncaaaGreatDoor
open Go.Dc Go.RowKit
set_option maxRecDepth 10000
set_option linter.unusedVariables false
def law10_PlanLayoutMatters_k1 (raw0 : Layout) (y2 : Layout × Plan) (y12 : Str × Int) : (Int × Int) → Option Bool := fun (at_j1, f_j1) =>
  (law10_awake_m).bind fun y14 =>
  (whn y14 default (plan_Check_m raw0 y2.2)).bind fun y16 =>
  some ((((y14 && decide (y16 = 1)) && decide (y12.2 = 1)) && decide (f_j1 = 1)) && decide (at_j1 = 0))
def law10_PlanLayoutMatters_m (raw0 : Layout) (l0 : List Int) : Option Bool :=
  (keep_Plan_m l0).bind fun y2 =>
  (ref1_Check_m raw0).bind fun y7 =>
  if decide (y7 = 0) then
    ((law10_awake_m).bind fun y10 =>
    some y10)
  else
    ((plan_Format_m raw0 y2.2).bind fun y12 =>
    (law10_text_m).bind fun y18 =>
    (plan_Parse_m raw0 y18).bind fun y21 =>
    law10_PlanLayoutMatters_k1 raw0 y2 y12 (y21.2.1, y21.2.2))
theorem law10_PlanLayoutMatters_spec (S : Soup) (w : World) (raw0 : Layout) (r_raw0 : GoRep.R Layout) (l0 : List Int) (r_l0 : GoRep.R (List Int)) (y : Bool) (hM : law10_PlanLayoutMatters_m raw0 l0 = some y) (hS : ∀ k, S k → k < w.heap.size) (h_raw0 : GoRep.ok S w r_raw0 raw0) (h_l0 : GoRep.ok S w r_l0 l0) :
    Calls Tryz.prog 7 #[.agg #[.slice r_raw0.1.a raw0.Stations.length r_raw0.1.cap, .slice r_raw0.2.1.a raw0.Points.length r_raw0.2.1.cap, .slice r_raw0.2.2.1.a raw0.Sections.length r_raw0.2.2.1.cap, .slice r_raw0.2.2.2.a raw0.Links.length r_raw0.2.2.2.cap], .slice r_l0.a l0.length r_l0.cap] w (Ret w (.bool y)) := by
  refine calls_cw (args := [_, _]) Tryz.func7 rfl ((pre_nil hS).start |>.immP (α := List Str) (r := r_raw0.1) (x := raw0.Stations) h_raw0.1|>.immP (α := List Str) (r := r_raw0.2.1) (x := raw0.Points) h_raw0.2.1|>.immP (α := List Section) (r := r_raw0.2.2.1) (x := raw0.Sections) h_raw0.2.2.1|>.immP (α := List Link) (r := r_raw0.2.2.2) (x := raw0.Links) h_raw0.2.2.2|>.immP (α := List Int) (r := r_l0) (x := l0) h_l0) rfl ?_
  unfold law10_PlanLayoutMatters_m at hM
  refine cw_seq fun K1 hK1 => ?_
  refine cw_region ?_
  refine ow_cons (st_box (l := [.slice r_raw0.1.a raw0.Stations.length r_raw0.1.cap, .slice r_raw0.2.1.a raw0.Points.length r_raw0.2.1.cap, .slice r_raw0.2.2.1.a raw0.Sections.length r_raw0.2.2.1.cap, .slice r_raw0.2.2.2.a raw0.Links.length r_raw0.2.2.2.cap]) (k := fun b1 => ?_))
  refine ow_ev ev_assign ?_
  refine ow_nil (hK1 _ _ ?_); clear hK1
  refine cw_seq fun K2 hK2 => ?_
  refine cw_region ?_
  refine ow_ev ev_move ?_
  obtain ⟨y2, hy3, hM⟩ := bind_some hM
  refine ow_cons (st_callS SelL.nil (fun S w hs hP => keep_Plan_spec _ w l0 r_l0 y2 hy3 hs.lt ((Sk.imm (α := List Int) (r := r_l0) (x := l0) (by repeat (first | exact Has.head | apply Has.tail))) S w hs))  (fun r4 => ?_))
  dsimp only [List.cons_append, List.nil_append]
  refine ow_ev ev_move ?_
  refine ow_ev (ev_extract (vs := [.agg #[.slice r4.1.1.a y2.1.Stations.length r4.1.1.cap, .slice r4.1.2.1.a y2.1.Points.length r4.1.2.1.cap, .slice r4.1.2.2.1.a y2.1.Sections.length r4.1.2.2.1.cap, .slice r4.1.2.2.2.a y2.1.Links.length r4.1.2.2.2.cap], .agg #[.int .i64 y2.2.Period, .slice r4.2.1.a y2.2.Stocks.length r4.2.1.cap, .slice r4.2.2.1.a y2.2.Routes.length r4.2.2.1.cap, .slice r4.2.2.2.1.a y2.2.Lines.length r4.2.2.2.1.cap, .slice r4.2.2.2.2.1.a y2.2.Changes.length r4.2.2.2.2.1.cap, .slice r4.2.2.2.2.2.1.a y2.2.Turns.length r4.2.2.2.2.2.1.cap, .slice r4.2.2.2.2.2.2.1.a y2.2.Syncs.length r4.2.2.2.2.2.2.1.cap, .slice r4.2.2.2.2.2.2.2.a y2.2.Demands.length r4.2.2.2.2.2.2.2.cap]])) ?_
  refine ow_ev (ev_extract (vs := [.agg #[.slice r4.1.1.a y2.1.Stations.length r4.1.1.cap, .slice r4.1.2.1.a y2.1.Points.length r4.1.2.1.cap, .slice r4.1.2.2.1.a y2.1.Sections.length r4.1.2.2.1.cap, .slice r4.1.2.2.2.a y2.1.Links.length r4.1.2.2.2.cap], .agg #[.int .i64 y2.2.Period, .slice r4.2.1.a y2.2.Stocks.length r4.2.1.cap, .slice r4.2.2.1.a y2.2.Routes.length r4.2.2.1.cap, .slice r4.2.2.2.1.a y2.2.Lines.length r4.2.2.2.1.cap, .slice r4.2.2.2.2.1.a y2.2.Changes.length r4.2.2.2.2.1.cap, .slice r4.2.2.2.2.2.1.a y2.2.Turns.length r4.2.2.2.2.2.1.cap, .slice r4.2.2.2.2.2.2.1.a y2.2.Syncs.length r4.2.2.2.2.2.2.1.cap, .slice r4.2.2.2.2.2.2.2.a y2.2.Demands.length r4.2.2.2.2.2.2.2.cap]])) ?_
  refine ow_cons (st_alloc rfl (k := fun b5 => ?_))
  refine ow_cons (st_alloc rfl (k := fun b6 => ?_))
  refine ow_cons (st_store_all (b := b5) (vs := [.slice r4.1.1.a y2.1.Stations.length r4.1.1.cap, .slice r4.1.2.1.a y2.1.Points.length r4.1.2.1.cap, .slice r4.1.2.2.1.a y2.1.Sections.length r4.1.2.2.1.cap, .slice r4.1.2.2.2.a y2.1.Links.length r4.1.2.2.2.cap]) (k := ?_))
  refine ow_cons (st_store_all (b := b6) (vs := [.int .i64 y2.2.Period, .slice r4.2.1.a y2.2.Stocks.length r4.2.1.cap, .slice r4.2.2.1.a y2.2.Routes.length r4.2.2.1.cap, .slice r4.2.2.2.1.a y2.2.Lines.length r4.2.2.2.1.cap, .slice r4.2.2.2.2.1.a y2.2.Changes.length r4.2.2.2.2.1.cap, .slice r4.2.2.2.2.2.1.a y2.2.Turns.length r4.2.2.2.2.2.1.cap, .slice r4.2.2.2.2.2.2.1.a y2.2.Syncs.length r4.2.2.2.2.2.2.1.cap, .slice r4.2.2.2.2.2.2.2.a y2.2.Demands.length r4.2.2.2.2.2.2.2.cap]) (k := ?_))
  refine ow_nil (hK2 _ _ ?_); clear hK2
  refine cw_seq fun K3 hK3 => ?_
  refine cw_seq fun K4 hK4 => ?_
  refine cw_region ?_
  refine ow_ev (ev_load_all (b := b1)) ?_
  obtain ⟨y7, hy8, hM⟩ := bind_some hM
  refine ow_cons (st_callv (fun w hm => let ⟨S, hs⟩ := hm; ref1_Check_spec _ w raw0 r_raw0 y7 hy8 (lend_lt hs) ⟨(Kn.lend (Kn.imm (α := List Str) (r := r_raw0.1) (x := raw0.Stations) (by repeat (first | exact Has.head | apply Has.tail))) hs), (Kn.lend (Kn.imm (α := List Str) (r := r_raw0.2.1) (x := raw0.Points) (by repeat (first | exact Has.head | apply Has.tail))) hs), (Kn.lend (Kn.imm (α := List Section) (r := r_raw0.2.2.1) (x := raw0.Sections) (by repeat (first | exact Has.head | apply Has.tail))) hs), (Kn.lend (Kn.imm (α := List Link) (r := r_raw0.2.2.2) (x := raw0.Links) (by repeat (first | exact Has.head | apply Has.tail))) hs)⟩) ?_)
  refine ow_ev ev_eql ?_
  refine ow_nil (hK4 _ _ ?_); clear hK4
  refine cw_cond rfl (fun hc9 => ?_) (fun hc9 => ?_)
  ·
    replace hM := (ite_t hc9).symm.trans hM
    refine cw_seq fun K5 hK5 => ?_
    refine cw_region ?_
    obtain ⟨y10, hy11, hM⟩ := bind_some hM
    refine ow_cons (st_callv (fun w hm => let ⟨S, hs⟩ := hm; law10_awake_spec _ w  y10 hy11 (lend_lt hs) ) ?_)
    refine ow_ev ev_assign ?_
    refine ow_nil (hK5 _ _ ?_); clear hK5
    obtain rfl := some_inj hM
    refine cw_ret (kw_retc1 (fun w hm => ret_of hm rfl))
  ·
    replace hM := (ite_f hc9).symm.trans hM
    refine cw_skip (hK3 _ _ ?_); clear hK3
    refine cw_seq fun K6 hK6 => ?_
    refine cw_region ?_
    refine ow_ev (ev_load_all (b := b1)) ?_
    refine ow_ev (ev_load_all (b := b6)) ?_
    obtain ⟨y12, hy13, hM⟩ := bind_some hM
    refine ow_cons (st_callv (fun w hm => let ⟨S, hs⟩ := hm; plan_Format_spec _ w raw0 r_raw0 y2.2 r4.2 y12 hy13 (lend_lt hs) ⟨(Kn.lend (Kn.imm (α := List Str) (r := r_raw0.1) (x := raw0.Stations) (by repeat (first | exact Has.head | apply Has.tail))) hs), (Kn.lend (Kn.imm (α := List Str) (r := r_raw0.2.1) (x := raw0.Points) (by repeat (first | exact Has.head | apply Has.tail))) hs), (Kn.lend (Kn.imm (α := List Section) (r := r_raw0.2.2.1) (x := raw0.Sections) (by repeat (first | exact Has.head | apply Has.tail))) hs), (Kn.lend (Kn.imm (α := List Link) (r := r_raw0.2.2.2) (x := raw0.Links) (by repeat (first | exact Has.head | apply Has.tail))) hs)⟩ ⟨(Kn.lend (Kn.imm (α := List Stock) (r := r4.2.1) (x := y2.2.Stocks) (by repeat (first | exact Has.head | apply Has.tail))) hs), (Kn.lend (Kn.imm (α := List Route) (r := r4.2.2.1) (x := y2.2.Routes) (by repeat (first | exact Has.head | apply Has.tail))) hs), (Kn.lend (Kn.imm (α := List Line) (r := r4.2.2.2.1) (x := y2.2.Lines) (by repeat (first | exact Has.head | apply Has.tail))) hs), (Kn.lend (Kn.imm (α := List Change) (r := r4.2.2.2.2.1) (x := y2.2.Changes) (by repeat (first | exact Has.head | apply Has.tail))) hs), (Kn.lend (Kn.imm (α := List Turn) (r := r4.2.2.2.2.2.1) (x := y2.2.Turns) (by repeat (first | exact Has.head | apply Has.tail))) hs), (Kn.lend (Kn.imm (α := List Sync) (r := r4.2.2.2.2.2.2.1) (x := y2.2.Syncs) (by repeat (first | exact Has.head | apply Has.tail))) hs), (Kn.lend (Kn.imm (α := List Demand) (r := r4.2.2.2.2.2.2.2) (x := y2.2.Demands) (by repeat (first | exact Has.head | apply Has.tail))) hs)⟩) ?_)
    refine ow_ev ev_move ?_
    refine ow_ev (ev_extract (vs := [.string y12.1.ba, .int .i64 y12.2])) ?_
    refine ow_ev (ev_extract (vs := [.string y12.1.ba, .int .i64 y12.2])) ?_
    refine ow_ev ev_assign ?_
    refine ow_ev ev_assign ?_
    refine ow_nil (hK6 _ _ ?_); clear hK6
    refine cw_cut (γ := (Int × Int) × Unit) (env := fun ((at_j1, f_j1), _) => [(2, .v (.pointer (some ⟨b1, 0, none⟩))), (6, .v (.pointer (some ⟨b6, 0, none⟩))), (8, .v (.int .i64 y12.2)), (10, .v (.int .i64 at_j1)), (11, .v (.int .i64 f_j1))]) (mem := fun ((at_j1, f_j1), _) => [imm (α := (List Str)) r_raw0.1 raw0.Stations, imm (α := (List Str)) r_raw0.2.1 raw0.Points, imm (α := (List Section)) r_raw0.2.2.1 raw0.Sections, imm (α := (List Link)) r_raw0.2.2.2 raw0.Links, own b1 26 [.slice r_raw0.1.a raw0.Stations.length r_raw0.1.cap, .slice r_raw0.2.1.a raw0.Points.length r_raw0.2.1.cap, .slice r_raw0.2.2.1.a raw0.Sections.length r_raw0.2.2.1.cap, .slice r_raw0.2.2.2.a raw0.Links.length r_raw0.2.2.2.cap], imm (α := (List Stock)) r4.2.1 y2.2.Stocks, imm (α := (List Route)) r4.2.2.1 y2.2.Routes, imm (α := (List Line)) r4.2.2.2.1 y2.2.Lines, imm (α := (List Change)) r4.2.2.2.2.1 y2.2.Changes, imm (α := (List Turn)) r4.2.2.2.2.2.1 y2.2.Turns, imm (α := (List Sync)) r4.2.2.2.2.2.2.1 y2.2.Syncs, imm (α := (List Demand)) r4.2.2.2.2.2.2.2 y2.2.Demands, own b6 35 [.int .i64 y2.2.Period, .slice r4.2.1.a y2.2.Stocks.length r4.2.1.cap, .slice r4.2.2.1.a y2.2.Routes.length r4.2.2.1.cap, .slice r4.2.2.2.1.a y2.2.Lines.length r4.2.2.2.1.cap, .slice r4.2.2.2.2.1.a y2.2.Changes.length r4.2.2.2.2.1.cap, .slice r4.2.2.2.2.2.1.a y2.2.Turns.length r4.2.2.2.2.2.1.cap, .slice r4.2.2.2.2.2.2.1.a y2.2.Syncs.length r4.2.2.2.2.2.2.1.cap, .slice r4.2.2.2.2.2.2.2.a y2.2.Demands.length r4.2.2.2.2.2.2.2.cap]]) (R := fun g => law10_PlanLayoutMatters_k1 raw0 y2 y12 g.1 = some y) ?_ ?_
    · intro KJ1 hJ1
      refine cw_region_any _ (List.Sublist.refl _) ?_
      refine aw_ev 0 rfl (ev_load_all (b := b1)) ?_
      obtain ⟨y18, hy19, hM⟩ := bind_some hM
      refine aw_two 1 7 (⟨_, rfl, rfl, st_callv (fun w hm => let ⟨S, hs⟩ := hm; law10_text_spec _ w  y18 hy19 (lend_lt hs) ) ⟨fun w hm => hm.sub (by repeat (first | exact List.Sublist.refl _ | apply List.Sublist.cons_cons | apply List.Sublist.cons)), ?_⟩⟩) (⟨_, rfl, rfl, st_alloc rfl (k := fun b20 => ⟨fun w hm => hm.sub (by repeat (first | exact List.Sublist.refl _ | apply List.Sublist.cons_cons | apply List.Sublist.cons)), ?_⟩)⟩)
      ·
        obtain ⟨y21, hy22, hM⟩ := bind_some hM
        refine aw_two 2 7 (⟨_, rfl, rfl, st_callS SelL.nil (fun S w hs hP => plan_Parse_spec _ w raw0 r_raw0 y18 y21 hy22 hs.lt ⟨((Sk.imm (α := List Str) (r := r_raw0.1) (x := raw0.Stations) (by repeat (first | exact Has.head | apply Has.tail))) S w hs), ((Sk.imm (α := List Str) (r := r_raw0.2.1) (x := raw0.Points) (by repeat (first | exact Has.head | apply Has.tail))) S w hs), ((Sk.imm (α := List Section) (r := r_raw0.2.2.1) (x := raw0.Sections) (by repeat (first | exact Has.head | apply Has.tail))) S w hs), ((Sk.imm (α := List Link) (r := r_raw0.2.2.2) (x := raw0.Links) (by repeat (first | exact Has.head | apply Has.tail))) S w hs)⟩)  (fun r23 => ⟨fun w hm => hm.sub (by repeat (first | exact List.Sublist.refl _ | apply List.Sublist.cons_cons | apply List.Sublist.cons)), ?_⟩)⟩) (⟨_, rfl, rfl, st_alloc rfl (k := fun b24 => ⟨fun w hm => hm.sub (by repeat (first | exact List.Sublist.refl _ | apply List.Sublist.cons_cons | apply List.Sublist.cons)), ?_⟩)⟩)
        ·
          dsimp only [List.cons_append, List.nil_append]
          refine aw_ev 3 rfl ev_move ?_
          refine aw_ev 4 rfl (ev_extract (vs := [.agg #[.int .i64 y21.1.Period, .slice r23.1.a y21.1.Stocks.length r23.1.cap, .slice r23.2.1.a y21.1.Routes.length r23.2.1.cap, .slice r23.2.2.1.a y21.1.Lines.length r23.2.2.1.cap, .slice r23.2.2.2.1.a y21.1.Changes.length r23.2.2.2.1.cap, .slice r23.2.2.2.2.1.a y21.1.Turns.length r23.2.2.2.2.1.cap, .slice r23.2.2.2.2.2.1.a y21.1.Syncs.length r23.2.2.2.2.2.1.cap, .slice r23.2.2.2.2.2.2.a y21.1.Demands.length r23.2.2.2.2.2.2.cap], .int .i64 y21.2.1, .int .i64 y21.2.2])) ?_
          refine aw_ev 5 rfl (ev_extract (vs := [.agg #[.int .i64 y21.1.Period, .slice r23.1.a y21.1.Stocks.length r23.1.cap, .slice r23.2.1.a y21.1.Routes.length r23.2.1.cap, .slice r23.2.2.1.a y21.1.Lines.length r23.2.2.1.cap, .slice r23.2.2.2.1.a y21.1.Changes.length r23.2.2.2.1.cap, .slice r23.2.2.2.2.1.a y21.1.Turns.length r23.2.2.2.2.1.cap, .slice r23.2.2.2.2.2.1.a y21.1.Syncs.length r23.2.2.2.2.2.1.cap, .slice r23.2.2.2.2.2.2.a y21.1.Demands.length r23.2.2.2.2.2.2.cap], .int .i64 y21.2.1, .int .i64 y21.2.2])) ?_
          refine aw_ev 6 rfl (ev_extract (vs := [.agg #[.int .i64 y21.1.Period, .slice r23.1.a y21.1.Stocks.length r23.1.cap, .slice r23.2.1.a y21.1.Routes.length r23.2.1.cap, .slice r23.2.2.1.a y21.1.Lines.length r23.2.2.1.cap, .slice r23.2.2.2.1.a y21.1.Changes.length r23.2.2.2.1.cap, .slice r23.2.2.2.2.1.a y21.1.Turns.length r23.2.2.2.2.1.cap, .slice r23.2.2.2.2.2.1.a y21.1.Syncs.length r23.2.2.2.2.2.1.cap, .slice r23.2.2.2.2.2.2.a y21.1.Demands.length r23.2.2.2.2.2.2.cap], .int .i64 y21.2.1, .int .i64 y21.2.2])) ?_
          refine aw_one 7 rfl (st_alloc rfl (k := fun b25 => ⟨fun w hm => hm.sub (by repeat (first | exact List.Sublist.refl _ | apply List.Sublist.cons_cons | apply List.Sublist.cons)), ?_⟩))
          refine aw_one 8 rfl (st_store_all (b := b25) (vs := [.int .i64 y21.1.Period, .slice r23.1.a y21.1.Stocks.length r23.1.cap, .slice r23.2.1.a y21.1.Routes.length r23.2.1.cap, .slice r23.2.2.1.a y21.1.Lines.length r23.2.2.1.cap, .slice r23.2.2.2.1.a y21.1.Changes.length r23.2.2.2.1.cap, .slice r23.2.2.2.2.1.a y21.1.Turns.length r23.2.2.2.2.1.cap, .slice r23.2.2.2.2.2.1.a y21.1.Syncs.length r23.2.2.2.2.2.1.cap, .slice r23.2.2.2.2.2.2.a y21.1.Demands.length r23.2.2.2.2.2.2.cap]) (k := ⟨fun w hm => hm.sub (by repeat (first | exact List.Sublist.refl _ | apply List.Sublist.cons_cons | apply List.Sublist.cons)), ?_⟩))
          refine aw_ev 9 rfl ev_assign ?_
          refine aw_ev 10 rfl ev_assign ?_
          refine aw_done (hJ1 ((y21.2.1, y21.2.2), ()) _ _ hM ⟨rfl, rfl, rfl, rfl, rfl, trivial⟩ (fun w hm => hm.reord))
        ·
          refine aw_one 2 rfl (st_callS SelL.nil (fun S w hs hP => plan_Parse_spec _ w raw0 r_raw0 y18 y21 hy22 hs.lt ⟨((Sk.imm (α := List Str) (r := r_raw0.1) (x := raw0.Stations) (by repeat (first | exact Has.head | apply Has.tail))) S w hs), ((Sk.imm (α := List Str) (r := r_raw0.2.1) (x := raw0.Points) (by repeat (first | exact Has.head | apply Has.tail))) S w hs), ((Sk.imm (α := List Section) (r := r_raw0.2.2.1) (x := raw0.Sections) (by repeat (first | exact Has.head | apply Has.tail))) S w hs), ((Sk.imm (α := List Link) (r := r_raw0.2.2.2) (x := raw0.Links) (by repeat (first | exact Has.head | apply Has.tail))) S w hs)⟩)  (fun r26 => ⟨fun w hm => hm.sub (by repeat (first | exact List.Sublist.refl _ | apply List.Sublist.cons_cons | apply List.Sublist.cons)), ?_⟩))
          dsimp only [List.cons_append, List.nil_append]
          refine aw_ev 3 rfl ev_move ?_
          refine aw_ev 4 rfl (ev_extract (vs := [.agg #[.int .i64 y21.1.Period, .slice r26.1.a y21.1.Stocks.length r26.1.cap, .slice r26.2.1.a y21.1.Routes.length r26.2.1.cap, .slice r26.2.2.1.a y21.1.Lines.length r26.2.2.1.cap, .slice r26.2.2.2.1.a y21.1.Changes.length r26.2.2.2.1.cap, .slice r26.2.2.2.2.1.a y21.1.Turns.length r26.2.2.2.2.1.cap, .slice r26.2.2.2.2.2.1.a y21.1.Syncs.length r26.2.2.2.2.2.1.cap, .slice r26.2.2.2.2.2.2.a y21.1.Demands.length r26.2.2.2.2.2.2.cap], .int .i64 y21.2.1, .int .i64 y21.2.2])) ?_
          refine aw_ev 5 rfl (ev_extract (vs := [.agg #[.int .i64 y21.1.Period, .slice r26.1.a y21.1.Stocks.length r26.1.cap, .slice r26.2.1.a y21.1.Routes.length r26.2.1.cap, .slice r26.2.2.1.a y21.1.Lines.length r26.2.2.1.cap, .slice r26.2.2.2.1.a y21.1.Changes.length r26.2.2.2.1.cap, .slice r26.2.2.2.2.1.a y21.1.Turns.length r26.2.2.2.2.1.cap, .slice r26.2.2.2.2.2.1.a y21.1.Syncs.length r26.2.2.2.2.2.1.cap, .slice r26.2.2.2.2.2.2.a y21.1.Demands.length r26.2.2.2.2.2.2.cap], .int .i64 y21.2.1, .int .i64 y21.2.2])) ?_
          refine aw_ev 6 rfl (ev_extract (vs := [.agg #[.int .i64 y21.1.Period, .slice r26.1.a y21.1.Stocks.length r26.1.cap, .slice r26.2.1.a y21.1.Routes.length r26.2.1.cap, .slice r26.2.2.1.a y21.1.Lines.length r26.2.2.1.cap, .slice r26.2.2.2.1.a y21.1.Changes.length r26.2.2.2.1.cap, .slice r26.2.2.2.2.1.a y21.1.Turns.length r26.2.2.2.2.1.cap, .slice r26.2.2.2.2.2.1.a y21.1.Syncs.length r26.2.2.2.2.2.1.cap, .slice r26.2.2.2.2.2.2.a y21.1.Demands.length r26.2.2.2.2.2.2.cap], .int .i64 y21.2.1, .int .i64 y21.2.2])) ?_
          refine aw_one 8 rfl (st_store_all (b := b24) (vs := [.int .i64 y21.1.Period, .slice r26.1.a y21.1.Stocks.length r26.1.cap, .slice r26.2.1.a y21.1.Routes.length r26.2.1.cap, .slice r26.2.2.1.a y21.1.Lines.length r26.2.2.1.cap, .slice r26.2.2.2.1.a y21.1.Changes.length r26.2.2.2.1.cap, .slice r26.2.2.2.2.1.a y21.1.Turns.length r26.2.2.2.2.1.cap, .slice r26.2.2.2.2.2.1.a y21.1.Syncs.length r26.2.2.2.2.2.1.cap, .slice r26.2.2.2.2.2.2.a y21.1.Demands.length r26.2.2.2.2.2.2.cap]) (k := ⟨fun w hm => hm.sub (by repeat (first | exact List.Sublist.refl _ | apply List.Sublist.cons_cons | apply List.Sublist.cons)), ?_⟩))
          refine aw_ev 9 rfl ev_assign ?_
          refine aw_ev 10 rfl ev_assign ?_
          refine aw_done (hJ1 ((y21.2.1, y21.2.2), ()) _ _ hM ⟨rfl, rfl, rfl, rfl, rfl, trivial⟩ (fun w hm => hm.reord))
      ·
        refine aw_one 1 rfl (st_callv (fun w hm => let ⟨S, hs⟩ := hm; law10_text_spec _ w  y18 hy19 (lend_lt hs) ) ⟨fun w hm => hm.sub (by repeat (first | exact List.Sublist.refl _ | apply List.Sublist.cons_cons | apply List.Sublist.cons)), ?_⟩)
        obtain ⟨y27, hy28, hM⟩ := bind_some hM
        refine aw_one 2 rfl (st_callS SelL.nil (fun S w hs hP => plan_Parse_spec _ w raw0 r_raw0 y18 y27 hy28 hs.lt ⟨((Sk.imm (α := List Str) (r := r_raw0.1) (x := raw0.Stations) (by repeat (first | exact Has.head | apply Has.tail))) S w hs), ((Sk.imm (α := List Str) (r := r_raw0.2.1) (x := raw0.Points) (by repeat (first | exact Has.head | apply Has.tail))) S w hs), ((Sk.imm (α := List Section) (r := r_raw0.2.2.1) (x := raw0.Sections) (by repeat (first | exact Has.head | apply Has.tail))) S w hs), ((Sk.imm (α := List Link) (r := r_raw0.2.2.2) (x := raw0.Links) (by repeat (first | exact Has.head | apply Has.tail))) S w hs)⟩)  (fun r29 => ⟨fun w hm => hm.sub (by repeat (first | exact List.Sublist.refl _ | apply List.Sublist.cons_cons | apply List.Sublist.cons)), ?_⟩))
        dsimp only [List.cons_append, List.nil_append]
        refine aw_ev 3 rfl ev_move ?_
        refine aw_ev 4 rfl (ev_extract (vs := [.agg #[.int .i64 y27.1.Period, .slice r29.1.a y27.1.Stocks.length r29.1.cap, .slice r29.2.1.a y27.1.Routes.length r29.2.1.cap, .slice r29.2.2.1.a y27.1.Lines.length r29.2.2.1.cap, .slice r29.2.2.2.1.a y27.1.Changes.length r29.2.2.2.1.cap, .slice r29.2.2.2.2.1.a y27.1.Turns.length r29.2.2.2.2.1.cap, .slice r29.2.2.2.2.2.1.a y27.1.Syncs.length r29.2.2.2.2.2.1.cap, .slice r29.2.2.2.2.2.2.a y27.1.Demands.length r29.2.2.2.2.2.2.cap], .int .i64 y27.2.1, .int .i64 y27.2.2])) ?_
        refine aw_ev 5 rfl (ev_extract (vs := [.agg #[.int .i64 y27.1.Period, .slice r29.1.a y27.1.Stocks.length r29.1.cap, .slice r29.2.1.a y27.1.Routes.length r29.2.1.cap, .slice r29.2.2.1.a y27.1.Lines.length r29.2.2.1.cap, .slice r29.2.2.2.1.a y27.1.Changes.length r29.2.2.2.1.cap, .slice r29.2.2.2.2.1.a y27.1.Turns.length r29.2.2.2.2.1.cap, .slice r29.2.2.2.2.2.1.a y27.1.Syncs.length r29.2.2.2.2.2.1.cap, .slice r29.2.2.2.2.2.2.a y27.1.Demands.length r29.2.2.2.2.2.2.cap], .int .i64 y27.2.1, .int .i64 y27.2.2])) ?_
        refine aw_ev 6 rfl (ev_extract (vs := [.agg #[.int .i64 y27.1.Period, .slice r29.1.a y27.1.Stocks.length r29.1.cap, .slice r29.2.1.a y27.1.Routes.length r29.2.1.cap, .slice r29.2.2.1.a y27.1.Lines.length r29.2.2.1.cap, .slice r29.2.2.2.1.a y27.1.Changes.length r29.2.2.2.1.cap, .slice r29.2.2.2.2.1.a y27.1.Turns.length r29.2.2.2.2.1.cap, .slice r29.2.2.2.2.2.1.a y27.1.Syncs.length r29.2.2.2.2.2.1.cap, .slice r29.2.2.2.2.2.2.a y27.1.Demands.length r29.2.2.2.2.2.2.cap], .int .i64 y27.2.1, .int .i64 y27.2.2])) ?_
        refine aw_one 8 rfl (st_store_all (b := b20) (vs := [.int .i64 y27.1.Period, .slice r29.1.a y27.1.Stocks.length r29.1.cap, .slice r29.2.1.a y27.1.Routes.length r29.2.1.cap, .slice r29.2.2.1.a y27.1.Lines.length r29.2.2.1.cap, .slice r29.2.2.2.1.a y27.1.Changes.length r29.2.2.2.1.cap, .slice r29.2.2.2.2.1.a y27.1.Turns.length r29.2.2.2.2.1.cap, .slice r29.2.2.2.2.2.1.a y27.1.Syncs.length r29.2.2.2.2.2.1.cap, .slice r29.2.2.2.2.2.2.a y27.1.Demands.length r29.2.2.2.2.2.2.cap]) (k := ⟨fun w hm => hm.sub (by repeat (first | exact List.Sublist.refl _ | apply List.Sublist.cons_cons | apply List.Sublist.cons)), ?_⟩))
        refine aw_ev 9 rfl ev_assign ?_
        refine aw_ev 10 rfl ev_assign ?_
        refine aw_done (hJ1 ((y27.2.1, y27.2.2), ()) _ _ hM ⟨rfl, rfl, rfl, rfl, rfl, trivial⟩ (fun w hm => hm.reord))
    ·
      clear hM
      intro g hM
      obtain ⟨⟨at_j1, f_j1⟩, ⟨⟩⟩ := g
      dsimp only at hM ⊢
      dsimp only [law10_PlanLayoutMatters_k1] at hM
      refine cw_seq fun K7 hK7 => ?_
      refine cw_region ?_
      obtain ⟨y14, hy15, hM⟩ := bind_some hM
      refine ow_cons (st_callv (fun w hm => let ⟨S, hs⟩ := hm; law10_awake_spec _ w  y14 hy15 (lend_lt hs) ) ?_)
      refine ow_ev ev_move ?_
      refine ow_evg rfl (ev_load_all (b := b1)) ?_
      refine ow_evg rfl (ev_load_all (b := b6)) ?_
      obtain ⟨y16, hy17, hM⟩ := bind_some hM
      refine ow_callg rfl (fun hg w hm => let ⟨S, hs⟩ := hm; plan_Check_spec _ w raw0 r_raw0 y2.2 r4.2 y16 (whn_some hy17 hg) (lend_lt hs) ⟨(Kn.lend (Kn.imm (α := List Str) (r := r_raw0.1) (x := raw0.Stations) (by repeat (first | exact Has.head | apply Has.tail))) hs), (Kn.lend (Kn.imm (α := List Str) (r := r_raw0.2.1) (x := raw0.Points) (by repeat (first | exact Has.head | apply Has.tail))) hs), (Kn.lend (Kn.imm (α := List Section) (r := r_raw0.2.2.1) (x := raw0.Sections) (by repeat (first | exact Has.head | apply Has.tail))) hs), (Kn.lend (Kn.imm (α := List Link) (r := r_raw0.2.2.2) (x := raw0.Links) (by repeat (first | exact Has.head | apply Has.tail))) hs)⟩ ⟨(Kn.lend (Kn.imm (α := List Stock) (r := r4.2.1) (x := y2.2.Stocks) (by repeat (first | exact Has.head | apply Has.tail))) hs), (Kn.lend (Kn.imm (α := List Route) (r := r4.2.2.1) (x := y2.2.Routes) (by repeat (first | exact Has.head | apply Has.tail))) hs), (Kn.lend (Kn.imm (α := List Line) (r := r4.2.2.2.1) (x := y2.2.Lines) (by repeat (first | exact Has.head | apply Has.tail))) hs), (Kn.lend (Kn.imm (α := List Change) (r := r4.2.2.2.2.1) (x := y2.2.Changes) (by repeat (first | exact Has.head | apply Has.tail))) hs), (Kn.lend (Kn.imm (α := List Turn) (r := r4.2.2.2.2.2.1) (x := y2.2.Turns) (by repeat (first | exact Has.head | apply Has.tail))) hs), (Kn.lend (Kn.imm (α := List Sync) (r := r4.2.2.2.2.2.2.1) (x := y2.2.Syncs) (by repeat (first | exact Has.head | apply Has.tail))) hs), (Kn.lend (Kn.imm (α := List Demand) (r := r4.2.2.2.2.2.2.2) (x := y2.2.Demands) (by repeat (first | exact Has.head | apply Has.tail))) hs)⟩) ?_
      refine ow_evg rfl ev_eql ?_
      refine ow_ev ev_and ?_
      refine ow_ev ev_move ?_
      refine ow_evg rfl ev_move ?_
      refine ow_evg rfl ev_eql ?_
      refine ow_ev ev_and ?_
      refine ow_ev ev_move ?_
      refine ow_evg rfl ev_move ?_
      refine ow_evg rfl ev_eql ?_
      refine ow_ev ev_and ?_
      refine ow_ev ev_move ?_
      refine ow_evg rfl ev_move ?_
      refine ow_evg rfl ev_eql ?_
      refine ow_ev ev_and ?_
      refine ow_ev ev_assign ?_
      refine ow_nil (hK7 _ _ ?_); clear hK7
      obtain rfl := some_inj hM
      refine cw_ret (kw_retc1 (fun w hm => ret_of hm rfl))

end Go.Proofs.YtcalibhfgdncaaaGreatDoor
