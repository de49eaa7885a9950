/- Models of functions, and that the code computes them. -/
import Derived.Test.YtohhihdjdelckaaDoorLe
import Derived.Test.YtohhihdjdelckaaDoorLf
set_option linter.all false
namespace Go.Proofs.YtohhihdjdelckaaDoor
open Go.Dc Go.RowKit
set_option maxRecDepth 10000
def law4_LayoutRaw_m (l0 : Layout) (s0 : Step) : Option Bool :=
  (law4_awake_m).bind fun y3 =>
  (whn y3 default (law4_queries_m l0 s0)).bind fun y5 =>
  some (y3 && y5)
theorem law4_LayoutRaw_spec (S : Soup) (w : World) (l0 : Layout) (r_l0 : GoRep.R Layout) (s0 : Step) (y : Bool) (hM : law4_LayoutRaw_m l0 s0 = some y) (hS : ∀ k, S k → k < w.heap.size) (h_l0 : GoRep.ok S w r_l0 l0) (hg_0 : (imm (α := (List Str)) (⟨some ⟨0, 0, none⟩, 2, fun _ => ()⟩ : SR Unit) ([(⟨[65]⟩ : Str), (⟨[66]⟩ : Str)] : List Str)).φ S w) (hg_1 : (gtab 1 pow10).φ S w) :
    Calls Tryd.prog 3 #[.agg #[.slice r_l0.1.a l0.Stations.length r_l0.1.cap, .slice r_l0.2.1.a l0.Points.length r_l0.2.1.cap, .slice r_l0.2.2.1.a l0.Sections.length r_l0.2.2.1.cap, .slice r_l0.2.2.2.a l0.Links.length r_l0.2.2.2.cap], .agg #[.int .i64 s0.Section, .int .i64 s0.Dir]] w (Ret w (.bool y)) := by
  refine calls_cw (args := [_, _]) Tryd.func3 rfl ((pre_nil hS).start |>.immP (α := List Str) (r := r_l0.1) (x := l0.Stations) h_l0.1|>.immP (α := List Str) (r := r_l0.2.1) (x := l0.Points) h_l0.2.1|>.immP (α := List Section) (r := r_l0.2.2.1) (x := l0.Sections) h_l0.2.2.1|>.immP (α := List Link) (r := r_l0.2.2.2) (x := l0.Links) h_l0.2.2.2|>.factP (c := imm (α := (List Str)) (⟨some ⟨0, 0, none⟩, 2, fun _ => ()⟩ : SR Unit) ([(⟨[65]⟩ : Str), (⟨[66]⟩ : Str)] : List Str)) (fun _ h => False.elim h) hg_0|>.factP (c := gtab 1 pow10) (fun _ h => False.elim h) hg_1) rfl ?_
  unfold law4_LayoutRaw_m at hM
  refine cw_seq fun K1 hK1 => ?_
  refine cw_region ?_
  refine ow_cons (st_box (l := [.slice r_l0.1.a l0.Stations.length r_l0.1.cap, .slice r_l0.2.1.a l0.Points.length r_l0.2.1.cap, .slice r_l0.2.2.1.a l0.Sections.length r_l0.2.2.1.cap, .slice r_l0.2.2.2.a l0.Links.length r_l0.2.2.2.cap]) (k := fun b1 => ?_))
  refine ow_cons (st_box (l := [.int .i64 s0.Section, .int .i64 s0.Dir]) (k := fun b2 => ?_))
  refine ow_ev ev_assign ?_
  refine ow_nil (hK1 _ _ ?_); clear hK1
  refine cw_seq fun K2 hK2 => ?_
  refine cw_region ?_
  obtain ⟨y3, hy4, hM⟩ := bind_some hM
  refine ow_cons (st_callv (fun w hm => let ⟨S, hs⟩ := hm; law4_awake_spec _ w  y3 hy4 (lend_lt hs) ) ?_)
  refine ow_ev ev_move ?_
  refine ow_evg rfl (ev_load_all (b := b1)) ?_
  refine ow_evg rfl (ev_load_all (b := b2)) ?_
  obtain ⟨y5, hy6, hM⟩ := bind_some hM
  refine ow_callg rfl (fun hg w hm => let ⟨S, hs⟩ := hm; law4_queries_spec _ w l0 r_l0 s0 y5 (whn_some hy6 hg) (lend_lt hs) ⟨(Kn.lend (Kn.imm (α := List Str) (r := r_l0.1) (x := l0.Stations) (by repeat (first | exact Has.head | apply Has.tail))) hs), (Kn.lend (Kn.imm (α := List Str) (r := r_l0.2.1) (x := l0.Points) (by repeat (first | exact Has.head | apply Has.tail))) hs), (Kn.lend (Kn.imm (α := List Section) (r := r_l0.2.2.1) (x := l0.Sections) (by repeat (first | exact Has.head | apply Has.tail))) hs), (Kn.lend (Kn.imm (α := List Link) (r := r_l0.2.2.2) (x := l0.Links) (by repeat (first | exact Has.head | apply Has.tail))) hs)⟩ (Chunk.mono _ _ _ _ (fun _ h => .inl h) (((by repeat (first | exact Has.head | apply Has.tail)) : Has _ (imm (α := (List Str)) (⟨some ⟨0, 0, none⟩, 2, fun _ => ()⟩ : SR Unit) ([(⟨[65]⟩ : Str), (⟨[66]⟩ : Str)] : List Str))).φ hs)) (Chunk.mono _ _ _ _ (fun _ h => .inl h) (((by repeat (first | exact Has.head | apply Has.tail)) : Has _ (gtab 1 pow10)).φ hs))) ?_
  refine ow_ev ev_and ?_
  refine ow_ev ev_assign ?_
  refine ow_nil (hK2 _ _ ?_); clear hK2
  obtain rfl := some_inj hM
  refine cw_ret (kw_retc1 (fun w hm => ret_of hm rfl))

end Go.Proofs.YtohhihdjdelckaaDoor
