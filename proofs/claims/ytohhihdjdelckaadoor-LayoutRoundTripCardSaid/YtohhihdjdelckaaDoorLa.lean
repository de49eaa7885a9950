/- Models of functions, and that the code computes them. -/
import Derived.Test.YtohhihdjdelckaaDoorLm
set_option linter.all false
namespace Go.Proofs.YtohhihdjdelckaaDoor
open Go.Dc Go.RowKit
set_option maxRecDepth 10000
def layout_Has_m (l0 : Layout) (s0 : Step) : Option Bool :=
  (whn ((decide (0 ≤ s0.Section) && decide (s0.Section < (l0.Sections.length : Int))) && (decide (s0.Dir = 0) || decide (s0.Dir = 1))) default (layout_Check_m l0)).bind fun y3 =>
  some (((decide (0 ≤ s0.Section) && decide (s0.Section < (l0.Sections.length : Int))) && (decide (s0.Dir = 0) || decide (s0.Dir = 1))) && decide (y3 = 0))
theorem layout_Has_spec (S : Soup) (w : World) (l0 : Layout) (r_l0 : GoRep.R Layout) (s0 : Step) (y : Bool) (hM : layout_Has_m l0 s0 = some y) (hS : ∀ k, S k → k < w.heap.size) (h_l0 : GoRep.ok S w r_l0 l0) :
    Calls Tryd.prog 26 #[.agg #[.slice r_l0.1.a l0.Stations.length r_l0.1.cap, .slice r_l0.2.1.a l0.Points.length r_l0.2.1.cap, .slice r_l0.2.2.1.a l0.Sections.length r_l0.2.2.1.cap, .slice r_l0.2.2.2.a l0.Links.length r_l0.2.2.2.cap], .agg #[.int .i64 s0.Section, .int .i64 s0.Dir]] w (Ret w (.bool y)) := by
  refine calls_cw (args := [_, _]) Tryd.func26 rfl ((pre_nil hS).start |>.immP (α := List Str) (r := r_l0.1) (x := l0.Stations) h_l0.1|>.immP (α := List Str) (r := r_l0.2.1) (x := l0.Points) h_l0.2.1|>.immP (α := List Section) (r := r_l0.2.2.1) (x := l0.Sections) h_l0.2.2.1|>.immP (α := List Link) (r := r_l0.2.2.2) (x := l0.Links) h_l0.2.2.2) rfl ?_
  unfold layout_Has_m at hM
  refine cw_seq fun K1 hK1 => ?_
  refine cw_region ?_
  refine ow_cons (st_box (l := [.slice r_l0.1.a l0.Stations.length r_l0.1.cap, .slice r_l0.2.1.a l0.Points.length r_l0.2.1.cap, .slice r_l0.2.2.1.a l0.Sections.length r_l0.2.2.1.cap, .slice r_l0.2.2.2.a l0.Links.length r_l0.2.2.2.cap]) (k := fun b1 => ?_))
  refine ow_cons (st_box (l := [.int .i64 s0.Section, .int .i64 s0.Dir]) (k := fun b2 => ?_))
  refine ow_ev ev_assign ?_
  refine ow_nil (hK1 _ _ ?_); clear hK1
  refine cw_seq fun K2 hK2 => ?_
  refine cw_region ?_
  refine ow_ev (ev_field_addr 0) ?_
  refine ow_ev (ev_load_own (b := b2)) ?_
  refine ow_ev ev_geq ?_
  refine ow_ev ev_move ?_
  refine ow_evg rfl (ev_field_addr 0) ?_
  refine ow_evg rfl (ev_load_own (b := b2)) ?_
  refine ow_evg rfl (ev_field_addr 2) ?_
  refine ow_evg rfl (ev_load_own (b := b1)) ?_
  refine ow_evg rfl ev_len ?_
  refine ow_evg rfl ev_lss ?_
  refine ow_ev ev_and ?_
  refine ow_ev ev_move ?_
  refine ow_evg rfl (ev_field_addr 1) ?_
  refine ow_evg rfl (ev_load_own (b := b2)) ?_
  refine ow_evg rfl ev_eql ?_
  refine ow_evg rfl ev_move ?_
  refine ow_evg rfl (ev_field_addr 1) ?_
  refine ow_evg rfl (ev_load_own (b := b2)) ?_
  refine ow_evg rfl ev_eql ?_
  refine ow_evg rfl ev_or ?_
  refine ow_ev ev_and ?_
  refine ow_ev ev_move ?_
  refine ow_evg rfl (ev_load_all (b := b1)) ?_
  obtain ⟨y3, hy4, hM⟩ := bind_some hM
  refine ow_callg rfl (fun hg w hm => let ⟨S, hs⟩ := hm; layout_Check_spec _ w l0 r_l0 y3 (whn_some hy4 hg) (lend_lt hs) ⟨(Kn.lend (Kn.imm (α := List Str) (r := r_l0.1) (x := l0.Stations) (by repeat (first | exact Has.head | apply Has.tail))) hs), (Kn.lend (Kn.imm (α := List Str) (r := r_l0.2.1) (x := l0.Points) (by repeat (first | exact Has.head | apply Has.tail))) hs), (Kn.lend (Kn.imm (α := List Section) (r := r_l0.2.2.1) (x := l0.Sections) (by repeat (first | exact Has.head | apply Has.tail))) hs), (Kn.lend (Kn.imm (α := List Link) (r := r_l0.2.2.2) (x := l0.Links) (by repeat (first | exact Has.head | apply Has.tail))) hs)⟩) ?_
  refine ow_evg rfl ev_eql ?_
  refine ow_ev ev_and ?_
  refine ow_ev ev_assign ?_
  refine ow_nil (hK2 _ _ ?_); clear hK2
  obtain rfl := some_inj hM
  refine cw_ret (kw_retc1 (fun w hm => ret_of hm rfl))

end Go.Proofs.YtohhihdjdelckaaDoor
