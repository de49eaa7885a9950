/- Models of functions, and that the code computes them. -/
import Derived.Test.YtohhihdjdelckaaDoorLe
import Derived.Test.YtohhihdjdelckaaDoorLc
import Derived.Test.YtohhihdjdelckaaDoorLd
import Derived.Test.YtohhihdjdelckaaDoorRl
import Derived.Test.YtohhihdjdelckaaDoorRs
set_option linter.all false
namespace Go.Proofs.YtohhihdjdelckaaDoor
open Go.Dc Go.RowKit
set_option maxRecDepth 10000
def law4_LayoutRoundTrip_m (l0 : List Int) : Option Bool :=
  (keep_Layout_m l0).bind fun y1 =>
  (layout_Format_m y1).bind fun y5 =>
  (layout_Parse_m y5).bind fun y7 =>
  (law4_awake_m).bind fun y11 =>
  (whn ((y11 && decide (y7.2.2 = 0)) && decide (y7.2.1 = 0)) default (keep_SameLayout_m y1 y7.1)).bind fun y13 =>
  some (((y11 && decide (y7.2.2 = 0)) && decide (y7.2.1 = 0)) && y13)
theorem law4_LayoutRoundTrip_spec (S : Soup) (w : World) (l0 : List Int) (r_l0 : GoRep.R (List Int)) (y : Bool) (hM : law4_LayoutRoundTrip_m l0 = some y) (hS : ∀ k, S k → k < w.heap.size) (h_l0 : GoRep.ok S w r_l0 l0) (hg_0 : (imm (α := (List Str)) (⟨some ⟨0, 0, none⟩, 2, fun _ => ()⟩ : SR Unit) ([(⟨[65]⟩ : Str), (⟨[66]⟩ : Str)] : List Str)).φ S w) (hg_1 : (gtab 1 pow10).φ S w) :
    Calls Tryd.prog 9 #[.slice r_l0.a l0.length r_l0.cap] w (Ret w (.bool y)) := by
  refine calls_cw (args := [_]) Tryd.func9 rfl ((pre_nil hS).start |>.immP (α := List Int) (r := r_l0) (x := l0) h_l0|>.factP (c := imm (α := (List Str)) (⟨some ⟨0, 0, none⟩, 2, fun _ => ()⟩ : SR Unit) ([(⟨[65]⟩ : Str), (⟨[66]⟩ : Str)] : List Str)) (fun _ h => False.elim h) hg_0|>.factP (c := gtab 1 pow10) (fun _ h => False.elim h) hg_1) rfl ?_
  unfold law4_LayoutRoundTrip_m at hM
  refine cw_seq fun K1 hK1 => ?_
  refine cw_region ?_
  refine ow_ev ev_assign ?_
  refine ow_nil (hK1 _ _ ?_); clear hK1
  refine cw_seq fun K2 hK2 => ?_
  refine cw_region ?_
  refine ow_ev ev_move ?_
  obtain ⟨y1, hy2, hM⟩ := bind_some hM
  refine ow_cons (st_callF SelL.nil (fun S w hs hP => keep_Layout_spec _ w l0 r_l0 y1 hy2 (lend_lt hs) (Kn.lend (Kn.imm (α := List Int) (r := r_l0) (x := l0) (by repeat (first | exact Has.head | apply Has.tail))) hs)) (by intro r c hc; simp only [List.mem_cons, List.not_mem_nil, or_false] at hc; rcases hc with rfl | rfl | rfl | rfl <;> first | exact flatC_own | exact flatC_trow (fun _ _ _ _ => trivial)) (fun r3 => ?_))
  dsimp only [List.cons_append, List.nil_append]
  refine ow_cons (st_alloc rfl (k := fun b4 => ?_))
  refine ow_cons (st_store_all (b := b4) (vs := [.slice r3.1.a y1.Stations.length r3.1.cap, .slice r3.2.1.a y1.Points.length r3.2.1.cap, .slice r3.2.2.1.a y1.Sections.length r3.2.2.1.cap, .slice r3.2.2.2.a y1.Links.length r3.2.2.2.cap]) (k := ?_))
  refine ow_nil (hK2 _ _ ?_); clear hK2
  refine cw_seq fun K3 hK3 => ?_
  refine cw_region ?_
  refine ow_ev (ev_load_all (b := b4)) ?_
  obtain ⟨y5, hy6, hM⟩ := bind_some hM
  refine ow_cons (st_callv (fun w hm => let ⟨S, hs⟩ := hm; layout_Format_spec _ w y1 r3 y5 hy6 (lend_lt hs) ⟨(Kn.lend (Kn.trow (e := 9) (r := r3.1) (by repeat (first | exact Has.head | apply Has.tail))) hs), (Kn.lend (Kn.trow (e := 9) (r := r3.2.1) (by repeat (first | exact Has.head | apply Has.tail))) hs), (Kn.lend (Kn.trow (e := 57) (r := r3.2.2.1) (by repeat (first | exact Has.head | apply Has.tail))) hs), (Kn.lend (Kn.trow (e := 72) (r := r3.2.2.2) (by repeat (first | exact Has.head | apply Has.tail))) hs)⟩ (Chunk.mono _ _ _ _ (fun _ h => .inl h) (((by repeat (first | exact Has.head | apply Has.tail)) : Has _ (imm (α := (List Str)) (⟨some ⟨0, 0, none⟩, 2, fun _ => ()⟩ : SR Unit) ([(⟨[65]⟩ : Str), (⟨[66]⟩ : Str)] : List Str))).φ hs)) (Chunk.mono _ _ _ _ (fun _ h => .inl h) (((by repeat (first | exact Has.head | apply Has.tail)) : Has _ (gtab 1 pow10)).φ hs))) ?_)
  obtain ⟨y7, hy8, hM⟩ := bind_some hM
  refine ow_cons (st_callF SelL.nil (fun S w hs hP => layout_Parse_spec _ w y5 y7 hy8 (lend_lt hs) (Chunk.mono _ _ _ _ (fun _ h => .inl h) (((by repeat (first | exact Has.head | apply Has.tail)) : Has _ (imm (α := (List Str)) (⟨some ⟨0, 0, none⟩, 2, fun _ => ()⟩ : SR Unit) ([(⟨[65]⟩ : Str), (⟨[66]⟩ : Str)] : List Str))).φ hs))) (by intro r c hc; simp only [List.mem_cons, List.not_mem_nil, or_false] at hc; rcases hc with rfl | rfl | rfl | rfl <;> first | exact flatC_own | exact flatC_trow (fun _ _ _ _ => trivial)) (fun r9 => ?_))
  dsimp only [List.cons_append, List.nil_append]
  refine ow_ev ev_move ?_
  refine ow_ev (ev_extract (vs := [.agg #[.slice r9.1.a y7.1.Stations.length r9.1.cap, .slice r9.2.1.a y7.1.Points.length r9.2.1.cap, .slice r9.2.2.1.a y7.1.Sections.length r9.2.2.1.cap, .slice r9.2.2.2.a y7.1.Links.length r9.2.2.2.cap], .int .i64 y7.2.1, .int .i64 y7.2.2])) ?_
  refine ow_ev (ev_extract (vs := [.agg #[.slice r9.1.a y7.1.Stations.length r9.1.cap, .slice r9.2.1.a y7.1.Points.length r9.2.1.cap, .slice r9.2.2.1.a y7.1.Sections.length r9.2.2.1.cap, .slice r9.2.2.2.a y7.1.Links.length r9.2.2.2.cap], .int .i64 y7.2.1, .int .i64 y7.2.2])) ?_
  refine ow_ev (ev_extract (vs := [.agg #[.slice r9.1.a y7.1.Stations.length r9.1.cap, .slice r9.2.1.a y7.1.Points.length r9.2.1.cap, .slice r9.2.2.1.a y7.1.Sections.length r9.2.2.1.cap, .slice r9.2.2.2.a y7.1.Links.length r9.2.2.2.cap], .int .i64 y7.2.1, .int .i64 y7.2.2])) ?_
  refine ow_cons (st_alloc rfl (k := fun b10 => ?_))
  refine ow_cons (st_store_all (b := b10) (vs := [.slice r9.1.a y7.1.Stations.length r9.1.cap, .slice r9.2.1.a y7.1.Points.length r9.2.1.cap, .slice r9.2.2.1.a y7.1.Sections.length r9.2.2.1.cap, .slice r9.2.2.2.a y7.1.Links.length r9.2.2.2.cap]) (k := ?_))
  refine ow_ev ev_assign ?_
  refine ow_ev ev_assign ?_
  refine ow_nil (hK3 _ _ ?_); clear hK3
  refine cw_seq fun K4 hK4 => ?_
  refine cw_region ?_
  obtain ⟨y11, hy12, hM⟩ := bind_some hM
  refine ow_cons (st_callv (fun w hm => let ⟨S, hs⟩ := hm; law4_awake_spec _ w  y11 hy12 (lend_lt hs) ) ?_)
  refine ow_ev ev_move ?_
  refine ow_evg rfl ev_move ?_
  refine ow_evg rfl ev_eql ?_
  refine ow_ev ev_and ?_
  refine ow_ev ev_move ?_
  refine ow_evg rfl ev_move ?_
  refine ow_evg rfl ev_eql ?_
  refine ow_ev ev_and ?_
  refine ow_ev ev_move ?_
  refine ow_evg rfl (ev_load_all (b := b4)) ?_
  refine ow_evg rfl (ev_load_all (b := b10)) ?_
  obtain ⟨y13, hy14, hM⟩ := bind_some hM
  refine ow_callg rfl (fun hg w hm => let ⟨S, hs⟩ := hm; keep_SameLayout_spec _ w y1 r3 y7.1 r9 y13 (whn_some hy14 hg) (lend_lt hs) ⟨(Kn.lend (Kn.trow (e := 9) (r := r3.1) (by repeat (first | exact Has.head | apply Has.tail))) hs), (Kn.lend (Kn.trow (e := 9) (r := r3.2.1) (by repeat (first | exact Has.head | apply Has.tail))) hs), (Kn.lend (Kn.trow (e := 57) (r := r3.2.2.1) (by repeat (first | exact Has.head | apply Has.tail))) hs), (Kn.lend (Kn.trow (e := 72) (r := r3.2.2.2) (by repeat (first | exact Has.head | apply Has.tail))) hs)⟩ ⟨(Kn.lend (Kn.trow (e := 9) (r := r9.1) (by repeat (first | exact Has.head | apply Has.tail))) hs), (Kn.lend (Kn.trow (e := 9) (r := r9.2.1) (by repeat (first | exact Has.head | apply Has.tail))) hs), (Kn.lend (Kn.trow (e := 57) (r := r9.2.2.1) (by repeat (first | exact Has.head | apply Has.tail))) hs), (Kn.lend (Kn.trow (e := 72) (r := r9.2.2.2) (by repeat (first | exact Has.head | apply Has.tail))) hs)⟩) ?_
  refine ow_ev ev_and ?_
  refine ow_ev ev_assign ?_
  refine ow_nil (hK4 _ _ ?_); clear hK4
  obtain rfl := some_inj hM
  refine cw_ret (kw_retc1 (fun w hm => ret_of hm rfl))

end Go.Proofs.YtohhihdjdelckaaDoor
