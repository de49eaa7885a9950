/- Models of functions, and that the code computes them. -/
import Derived.Test.YtcalibhfgdncaaaGreatDoorPs
namespace Go.Proofs.YtcalibhfgdncaaaGreatDoor
open Go.Dc Go.RowKit
set_option maxRecDepth 10000
set_option linter.unusedVariables false
def plan_Format_m (l0 : Layout) (p0 : Plan) : Option (Str × Int) :=
  (plan_Check_m l0 p0).bind fun y3 =>
  if decide (y3 ≠ 0) then
    (some ((⟨[]⟩ : Str), 1))
  else
    (none)
theorem plan_Format_spec (S : Soup) (w : World) (l0 : Layout) (r_l0 : GoRep.R Layout) (p0 : Plan) (r_p0 : GoRep.R Plan) (y : Str × Int) (hM : plan_Format_m l0 p0 = some y) (hS : ∀ k, S k → k < w.heap.size) (h_l0 : GoRep.ok S w r_l0 l0) (h_p0 : GoRep.ok S w r_p0 p0) :
    Calls Tryz.prog 20 #[.agg #[.slice r_l0.1.a l0.Stations.length r_l0.1.cap, .slice r_l0.2.1.a l0.Points.length r_l0.2.1.cap, .slice r_l0.2.2.1.a l0.Sections.length r_l0.2.2.1.cap, .slice r_l0.2.2.2.a l0.Links.length r_l0.2.2.2.cap], .agg #[.int .i64 p0.Period, .slice r_p0.1.a p0.Stocks.length r_p0.1.cap, .slice r_p0.2.1.a p0.Routes.length r_p0.2.1.cap, .slice r_p0.2.2.1.a p0.Lines.length r_p0.2.2.1.cap, .slice r_p0.2.2.2.1.a p0.Changes.length r_p0.2.2.2.1.cap, .slice r_p0.2.2.2.2.1.a p0.Turns.length r_p0.2.2.2.2.1.cap, .slice r_p0.2.2.2.2.2.1.a p0.Syncs.length r_p0.2.2.2.2.2.1.cap, .slice r_p0.2.2.2.2.2.2.a p0.Demands.length r_p0.2.2.2.2.2.2.cap]] w (Ret w (.tuple #[.string y.1.ba, .int .i64 y.2])) := by
  refine calls_cw (args := [_, _]) Tryz.func20 rfl ((pre_nil hS).start |>.immP (α := List Str) (r := r_l0.1) (x := l0.Stations) h_l0.1|>.immP (α := List Str) (r := r_l0.2.1) (x := l0.Points) h_l0.2.1|>.immP (α := List Section) (r := r_l0.2.2.1) (x := l0.Sections) h_l0.2.2.1|>.immP (α := List Link) (r := r_l0.2.2.2) (x := l0.Links) h_l0.2.2.2|>.immP (α := List Stock) (r := r_p0.1) (x := p0.Stocks) h_p0.1|>.immP (α := List Route) (r := r_p0.2.1) (x := p0.Routes) h_p0.2.1|>.immP (α := List Line) (r := r_p0.2.2.1) (x := p0.Lines) h_p0.2.2.1|>.immP (α := List Change) (r := r_p0.2.2.2.1) (x := p0.Changes) h_p0.2.2.2.1|>.immP (α := List Turn) (r := r_p0.2.2.2.2.1) (x := p0.Turns) h_p0.2.2.2.2.1|>.immP (α := List Sync) (r := r_p0.2.2.2.2.2.1) (x := p0.Syncs) h_p0.2.2.2.2.2.1|>.immP (α := List Demand) (r := r_p0.2.2.2.2.2.2) (x := p0.Demands) h_p0.2.2.2.2.2.2) rfl ?_
  unfold plan_Format_m at hM
  refine cw_seq fun K1 hK1 => ?_
  refine cw_region ?_
  refine ow_cons (st_box (l := [.slice r_l0.1.a l0.Stations.length r_l0.1.cap, .slice r_l0.2.1.a l0.Points.length r_l0.2.1.cap, .slice r_l0.2.2.1.a l0.Sections.length r_l0.2.2.1.cap, .slice r_l0.2.2.2.a l0.Links.length r_l0.2.2.2.cap]) (k := fun b1 => ?_))
  refine ow_cons (st_box (l := [.int .i64 p0.Period, .slice r_p0.1.a p0.Stocks.length r_p0.1.cap, .slice r_p0.2.1.a p0.Routes.length r_p0.2.1.cap, .slice r_p0.2.2.1.a p0.Lines.length r_p0.2.2.1.cap, .slice r_p0.2.2.2.1.a p0.Changes.length r_p0.2.2.2.1.cap, .slice r_p0.2.2.2.2.1.a p0.Turns.length r_p0.2.2.2.2.1.cap, .slice r_p0.2.2.2.2.2.1.a p0.Syncs.length r_p0.2.2.2.2.2.1.cap, .slice r_p0.2.2.2.2.2.2.a p0.Demands.length r_p0.2.2.2.2.2.2.cap]) (k := fun b2 => ?_))
  refine ow_ev ev_assign ?_
  refine ow_ev ev_assign ?_
  refine ow_nil (hK1 _ _ ?_); clear hK1
  refine cw_seq fun K2 hK2 => ?_
  refine cw_seq fun K3 hK3 => ?_
  refine cw_region ?_
  refine ow_ev (ev_load_all (b := b1)) ?_
  refine ow_ev (ev_load_all (b := b2)) ?_
  obtain ⟨y3, hy4, hM⟩ := bind_some hM
  refine ow_cons (st_callv (fun w hm => let ⟨S, hs⟩ := hm; plan_Check_spec _ w l0 r_l0 p0 r_p0 y3 hy4 (lend_lt hs) ⟨(Kn.lend (Kn.imm (α := List Str) (r := r_l0.1) (x := l0.Stations) (by repeat (first | exact Has.head | apply Has.tail))) hs), (Kn.lend (Kn.imm (α := List Str) (r := r_l0.2.1) (x := l0.Points) (by repeat (first | exact Has.head | apply Has.tail))) hs), (Kn.lend (Kn.imm (α := List Section) (r := r_l0.2.2.1) (x := l0.Sections) (by repeat (first | exact Has.head | apply Has.tail))) hs), (Kn.lend (Kn.imm (α := List Link) (r := r_l0.2.2.2) (x := l0.Links) (by repeat (first | exact Has.head | apply Has.tail))) hs)⟩ ⟨(Kn.lend (Kn.imm (α := List Stock) (r := r_p0.1) (x := p0.Stocks) (by repeat (first | exact Has.head | apply Has.tail))) hs), (Kn.lend (Kn.imm (α := List Route) (r := r_p0.2.1) (x := p0.Routes) (by repeat (first | exact Has.head | apply Has.tail))) hs), (Kn.lend (Kn.imm (α := List Line) (r := r_p0.2.2.1) (x := p0.Lines) (by repeat (first | exact Has.head | apply Has.tail))) hs), (Kn.lend (Kn.imm (α := List Change) (r := r_p0.2.2.2.1) (x := p0.Changes) (by repeat (first | exact Has.head | apply Has.tail))) hs), (Kn.lend (Kn.imm (α := List Turn) (r := r_p0.2.2.2.2.1) (x := p0.Turns) (by repeat (first | exact Has.head | apply Has.tail))) hs), (Kn.lend (Kn.imm (α := List Sync) (r := r_p0.2.2.2.2.2.1) (x := p0.Syncs) (by repeat (first | exact Has.head | apply Has.tail))) hs), (Kn.lend (Kn.imm (α := List Demand) (r := r_p0.2.2.2.2.2.2) (x := p0.Demands) (by repeat (first | exact Has.head | apply Has.tail))) hs)⟩) ?_)
  refine ow_ev ev_neq ?_
  refine ow_nil (hK3 _ _ ?_); clear hK3
  refine cw_cond rfl (fun hc5 => ?_) (fun hc5 => ?_)
  ·
    replace hM := (ite_t hc5).symm.trans hM
    refine cw_seq fun K4 hK4 => ?_
    refine cw_region ?_
    refine ow_ev ev_assign ?_
    refine ow_ev ev_assign ?_
    refine ow_nil (hK4 _ _ ?_); clear hK4
    obtain rfl := some_inj hM
    refine cw_ret (kw_retc2 (fun w hm => ret_of hm rfl))
  ·
    replace hM := (ite_f hc5).symm.trans hM
    refine cw_skip (hK2 _ _ ?_); clear hK2
    refine cw_seq fun K5 hK5 => ?_
    cases hM

def plan_Parse_m (l0 : Layout) (src0 : Str) : Option (Plan × Int × Int) :=
  (layout_Check_m l0).bind fun y3 =>
  if decide (y3 ≠ 0) then
    (some ((Plan.mk 0 ([] : List Stock) ([] : List Route) ([] : List Line) ([] : List Change) ([] : List Turn) ([] : List Sync) ([] : List Demand)), 0, 1))
  else
    (none)
theorem plan_Parse_spec (S : Soup) (w : World) (l0 : Layout) (r_l0 : GoRep.R Layout) (src0 : Str) (y : Plan × Int × Int) (hM : plan_Parse_m l0 src0 = some y) (hS : ∀ k, S k → k < w.heap.size) (h_l0 : GoRep.ok S w r_l0 l0) :
    Calls Tryz.prog 18 #[.agg #[.slice r_l0.1.a l0.Stations.length r_l0.1.cap, .slice r_l0.2.1.a l0.Points.length r_l0.2.1.cap, .slice r_l0.2.2.1.a l0.Sections.length r_l0.2.2.1.cap, .slice r_l0.2.2.2.a l0.Links.length r_l0.2.2.2.cap], .string src0.ba] w (Post (β := (GoRep.R Plan)) S [] (fun g => .tuple #[.agg #[.int .i64 y.1.Period, .slice g.1.a y.1.Stocks.length g.1.cap, .slice g.2.1.a y.1.Routes.length g.2.1.cap, .slice g.2.2.1.a y.1.Lines.length g.2.2.1.cap, .slice g.2.2.2.1.a y.1.Changes.length g.2.2.2.1.cap, .slice g.2.2.2.2.1.a y.1.Turns.length g.2.2.2.2.1.cap, .slice g.2.2.2.2.2.1.a y.1.Syncs.length g.2.2.2.2.2.1.cap, .slice g.2.2.2.2.2.2.a y.1.Demands.length g.2.2.2.2.2.2.cap], .int .i64 y.2.1, .int .i64 y.2.2]) (fun g => [trow 71 g.1 y.1.Stocks, trow 90 g.2.1 y.1.Routes, trow 56 g.2.2.1 y.1.Lines, trow 79 g.2.2.2.1 y.1.Changes, trow 94 g.2.2.2.2.1 y.1.Turns, trow 84 g.2.2.2.2.2.1 y.1.Syncs, trow 86 g.2.2.2.2.2.2 y.1.Demands]) w) := by
  refine calls_cw (args := [_, _]) Tryz.func18 rfl ((pre_nil hS).start |>.immP (α := List Str) (r := r_l0.1) (x := l0.Stations) h_l0.1|>.immP (α := List Str) (r := r_l0.2.1) (x := l0.Points) h_l0.2.1|>.immP (α := List Section) (r := r_l0.2.2.1) (x := l0.Sections) h_l0.2.2.1|>.immP (α := List Link) (r := r_l0.2.2.2) (x := l0.Links) h_l0.2.2.2) rfl ?_
  unfold plan_Parse_m at hM
  refine cw_seq fun K1 hK1 => ?_
  refine cw_region ?_
  refine ow_cons (st_box (l := [.slice r_l0.1.a l0.Stations.length r_l0.1.cap, .slice r_l0.2.1.a l0.Points.length r_l0.2.1.cap, .slice r_l0.2.2.1.a l0.Sections.length r_l0.2.2.1.cap, .slice r_l0.2.2.2.a l0.Links.length r_l0.2.2.2.cap]) (k := fun b1 => ?_))
  refine ow_cons (st_alloc rfl (k := fun b2 => ?_))
  refine ow_ev ev_assign ?_
  refine ow_ev ev_assign ?_
  refine ow_nil (hK1 _ _ ?_); clear hK1
  refine cw_seq fun K2 hK2 => ?_
  refine cw_seq fun K3 hK3 => ?_
  refine cw_region ?_
  refine ow_ev (ev_load_all (b := b1)) ?_
  obtain ⟨y3, hy4, hM⟩ := bind_some hM
  refine ow_cons (st_callv (fun w hm => let ⟨S, hs⟩ := hm; layout_Check_spec _ w l0 r_l0 y3 hy4 (lend_lt hs) ⟨(Kn.lend (Kn.imm (α := List Str) (r := r_l0.1) (x := l0.Stations) (by repeat (first | exact Has.head | apply Has.tail))) hs), (Kn.lend (Kn.imm (α := List Str) (r := r_l0.2.1) (x := l0.Points) (by repeat (first | exact Has.head | apply Has.tail))) hs), (Kn.lend (Kn.imm (α := List Section) (r := r_l0.2.2.1) (x := l0.Sections) (by repeat (first | exact Has.head | apply Has.tail))) hs), (Kn.lend (Kn.imm (α := List Link) (r := r_l0.2.2.2) (x := l0.Links) (by repeat (first | exact Has.head | apply Has.tail))) hs)⟩) ?_)
  refine ow_ev ev_neq ?_
  refine ow_nil (hK3 _ _ ?_); clear hK3
  refine cw_cond rfl (fun hc5 => ?_) (fun hc5 => ?_)
  ·
    replace hM := (ite_t hc5).symm.trans hM
    refine cw_seq fun K4 hK4 => ?_
    refine cw_region ?_
    refine ow_ev (ev_build [.int .i64 0, .slice none 0 0, .slice none 0 0, .slice none 0 0, .slice none 0 0, .slice none 0 0, .slice none 0 0, .slice none 0 0]) ?_
    refine ow_cons (st_store_all (b := b2) (vs := [.int .i64 0, .slice none 0 0, .slice none 0 0, .slice none 0 0, .slice none 0 0, .slice none 0 0, .slice none 0 0, .slice none 0 0]) (k := ?_))
    refine ow_ev ev_assign ?_
    refine ow_ev ev_assign ?_
    refine ow_nil (hK4 _ _ ?_); clear hK4
    refine cw_imp (fun w hm => hm.row_nil (α := Stock) 71 (fun _ => ())) ?_
    refine cw_imp (fun w hm => hm.row_nil (α := Route) 90 (fun _ => (⟨none, 0, (fun _ => ())⟩ : SR (GoRep.R Step)))) ?_
    refine cw_imp (fun w hm => hm.row_nil (α := Line) 56 (fun _ => (⟨none, 0, (fun _ => ())⟩ : SR (GoRep.R Ride)))) ?_
    refine cw_imp (fun w hm => hm.row_nil (α := Change) 79 (fun _ => ())) ?_
    refine cw_imp (fun w hm => hm.row_nil (α := Turn) 94 (fun _ => ())) ?_
    refine cw_imp (fun w hm => hm.row_nil (α := Sync) 84 (fun _ => ())) ?_
    refine cw_imp (fun w hm => hm.row_nil (α := Demand) 86 (fun _ => ())) ?_
    obtain rfl := some_inj hM
    refine cw_ret (kw_retc3 (fun w hm => post_of ((⟨none, 0, (fun _ => ())⟩ : SR (GoRep.R Stock) ), (⟨none, 0, (fun _ => (⟨none, 0, (fun _ => ())⟩ : SR (GoRep.R Step)))⟩ : SR (GoRep.R Route)  ), (⟨none, 0, (fun _ => (⟨none, 0, (fun _ => ())⟩ : SR (GoRep.R Ride)))⟩ : SR (GoRep.R Line)   ), (⟨none, 0, (fun _ => ())⟩ : SR (GoRep.R Change)    ), (⟨none, 0, (fun _ => ())⟩ : SR (GoRep.R Turn)     ), (⟨none, 0, (fun _ => ())⟩ : SR (GoRep.R Sync)      ), (⟨none, 0, (fun _ => ())⟩ : SR (GoRep.R Demand)       )) hm rfl))
  ·
    replace hM := (ite_f hc5).symm.trans hM
    refine cw_skip (hK2 _ _ ?_); clear hK2
    refine cw_seq fun K5 hK5 => ?_
    cases hM

def law10_text_m  : Option Str :=
  some (⟨[112, 101, 114, 105, 111, 100, 32, 54, 48, 48, 10, 115, 116, 111, 99, 107, 32, 83, 32, 49, 48, 32, 50, 48, 48, 48, 48, 32, 53, 48, 48, 32, 53, 48, 48, 10, 114, 111, 117, 116, 101, 32, 78, 49, 32, 100, 111, 119, 110, 32, 84, 32, 100, 111, 119, 110, 10, 108, 105, 110, 101, 32, 65, 32, 83, 32, 53, 10, 114, 105, 100, 101, 32, 48, 32, 51, 48, 10]⟩ : Str)
theorem law10_text_spec (S : Soup) (w : World)  (y : Str) (hM : law10_text_m  = some y) (hS : ∀ k, S k → k < w.heap.size)  :
    Calls Tryz.prog 19 #[] w (Ret w (.string y.ba)) := by
  refine calls_cw (args := []) Tryz.func19 rfl ((pre_nil hS).start) rfl ?_
  unfold law10_text_m at hM
  refine cw_seq fun K1 hK1 => ?_
  refine cw_region ?_
  refine ow_ev ev_assign ?_
  refine ow_nil (hK1 _ _ ?_); clear hK1
  refine cw_seq fun K2 hK2 => ?_
  refine cw_region ?_
  refine ow_ev ev_assign ?_
  refine ow_nil (hK2 _ _ ?_); clear hK2
  obtain rfl := some_inj hM
  refine cw_ret (kw_retc1 (fun w hm => ret_of hm rfl))

end Go.Proofs.YtcalibhfgdncaaaGreatDoor
