/- Models of functions, and that the code computes them. -/
import Derived.Test.YtohhihdjdelckaaDoorLc
import Derived.Test.YtohhihdjdelckaaDoorRc
import Derived.Test.YtohhihdjdelckaaDoorRs
namespace Go.Proofs.YtohhihdjdelckaaDoor
open Go.Dc Go.RowKit
set_option maxRecDepth 10000
set_option linter.unusedVariables false
def law4_parses_m (s0 : Str) : Option Bool :=
  (layout_Parse_m s0).bind fun y1 =>
  (ref1_Parse_m s0).bind fun y5 =>
  (keep_SameLayout_m y1.1 y5.1).bind fun y9 =>
  some ((y9 && decide (y1.2.1 = y5.2.1)) && decide (y1.2.2 = y5.2.2))
theorem law4_parses_spec (S : Soup) (w : World) (s0 : Str) (y : Bool) (hM : law4_parses_m s0 = some y) (hS : ∀ k, S k → k < w.heap.size) (hg_0 : (imm (α := (List Str)) (⟨some ⟨0, 0, none⟩, 2, fun _ => ()⟩ : SR Unit) ([(⟨[65]⟩ : Str), (⟨[66]⟩ : Str)] : List Str)).φ S w) :
    Calls Tryd.prog 16 #[.string s0.ba] w (Ret w (.bool y)) := by
  refine calls_cw (args := [_]) Tryd.func16 rfl ((pre_nil hS).start |>.factP (c := imm (α := (List Str)) (⟨some ⟨0, 0, none⟩, 2, fun _ => ()⟩ : SR Unit) ([(⟨[65]⟩ : Str), (⟨[66]⟩ : Str)] : List Str)) (fun _ h => False.elim h) hg_0) rfl ?_
  unfold law4_parses_m at hM
  refine cw_seq fun K1 hK1 => ?_
  refine cw_region ?_
  refine ow_ev ev_assign ?_
  refine ow_nil (hK1 _ _ ?_); clear hK1
  refine cw_seq fun K2 hK2 => ?_
  refine cw_region ?_
  refine ow_ev ev_move ?_
  obtain ⟨y1, hy2, hM⟩ := bind_some hM
  refine ow_cons (st_callF SelL.nil (fun S w hs hP => layout_Parse_spec _ w s0 y1 hy2 (lend_lt hs) (Chunk.mono _ _ _ _ (fun _ h => .inl h) (((by repeat (first | exact Has.head | apply Has.tail)) : Has _ (imm (α := (List Str)) (⟨some ⟨0, 0, none⟩, 2, fun _ => ()⟩ : SR Unit) ([(⟨[65]⟩ : Str), (⟨[66]⟩ : Str)] : List Str))).φ hs))) (by intro r c hc; simp only [List.mem_cons, List.not_mem_nil, or_false] at hc; rcases hc with rfl | rfl | rfl | rfl <;> first | exact flatC_own | exact flatC_trow (fun _ _ _ _ => trivial)) (fun r3 => ?_))
  dsimp only [List.cons_append, List.nil_append]
  refine ow_ev ev_move ?_
  refine ow_ev (ev_extract (vs := [.agg #[.slice r3.1.a y1.1.Stations.length r3.1.cap, .slice r3.2.1.a y1.1.Points.length r3.2.1.cap, .slice r3.2.2.1.a y1.1.Sections.length r3.2.2.1.cap, .slice r3.2.2.2.a y1.1.Links.length r3.2.2.2.cap], .int .i64 y1.2.1, .int .i64 y1.2.2])) ?_
  refine ow_ev (ev_extract (vs := [.agg #[.slice r3.1.a y1.1.Stations.length r3.1.cap, .slice r3.2.1.a y1.1.Points.length r3.2.1.cap, .slice r3.2.2.1.a y1.1.Sections.length r3.2.2.1.cap, .slice r3.2.2.2.a y1.1.Links.length r3.2.2.2.cap], .int .i64 y1.2.1, .int .i64 y1.2.2])) ?_
  refine ow_ev (ev_extract (vs := [.agg #[.slice r3.1.a y1.1.Stations.length r3.1.cap, .slice r3.2.1.a y1.1.Points.length r3.2.1.cap, .slice r3.2.2.1.a y1.1.Sections.length r3.2.2.1.cap, .slice r3.2.2.2.a y1.1.Links.length r3.2.2.2.cap], .int .i64 y1.2.1, .int .i64 y1.2.2])) ?_
  refine ow_cons (st_alloc rfl (k := fun b4 => ?_))
  refine ow_cons (st_store_all (b := b4) (vs := [.slice r3.1.a y1.1.Stations.length r3.1.cap, .slice r3.2.1.a y1.1.Points.length r3.2.1.cap, .slice r3.2.2.1.a y1.1.Sections.length r3.2.2.1.cap, .slice r3.2.2.2.a y1.1.Links.length r3.2.2.2.cap]) (k := ?_))
  refine ow_ev ev_assign ?_
  refine ow_ev ev_assign ?_
  refine ow_nil (hK2 _ _ ?_); clear hK2
  refine cw_seq fun K3 hK3 => ?_
  refine cw_region ?_
  refine ow_ev ev_move ?_
  obtain ⟨y5, hy6, hM⟩ := bind_some hM
  refine ow_cons (st_callF SelL.nil (fun S w hs hP => ref1_Parse_spec _ w s0 y5 hy6 (lend_lt hs) ) (by intro r c hc; simp only [List.mem_cons, List.not_mem_nil, or_false] at hc; rcases hc with rfl | rfl | rfl | rfl <;> first | exact flatC_own | exact flatC_trow (fun _ _ _ _ => trivial)) (fun r7 => ?_))
  dsimp only [List.cons_append, List.nil_append]
  refine ow_ev ev_move ?_
  refine ow_ev (ev_extract (vs := [.agg #[.slice r7.1.a y5.1.Stations.length r7.1.cap, .slice r7.2.1.a y5.1.Points.length r7.2.1.cap, .slice r7.2.2.1.a y5.1.Sections.length r7.2.2.1.cap, .slice r7.2.2.2.a y5.1.Links.length r7.2.2.2.cap], .int .i64 y5.2.1, .int .i64 y5.2.2])) ?_
  refine ow_ev (ev_extract (vs := [.agg #[.slice r7.1.a y5.1.Stations.length r7.1.cap, .slice r7.2.1.a y5.1.Points.length r7.2.1.cap, .slice r7.2.2.1.a y5.1.Sections.length r7.2.2.1.cap, .slice r7.2.2.2.a y5.1.Links.length r7.2.2.2.cap], .int .i64 y5.2.1, .int .i64 y5.2.2])) ?_
  refine ow_ev (ev_extract (vs := [.agg #[.slice r7.1.a y5.1.Stations.length r7.1.cap, .slice r7.2.1.a y5.1.Points.length r7.2.1.cap, .slice r7.2.2.1.a y5.1.Sections.length r7.2.2.1.cap, .slice r7.2.2.2.a y5.1.Links.length r7.2.2.2.cap], .int .i64 y5.2.1, .int .i64 y5.2.2])) ?_
  refine ow_cons (st_alloc rfl (k := fun b8 => ?_))
  refine ow_cons (st_store_all (b := b8) (vs := [.slice r7.1.a y5.1.Stations.length r7.1.cap, .slice r7.2.1.a y5.1.Points.length r7.2.1.cap, .slice r7.2.2.1.a y5.1.Sections.length r7.2.2.1.cap, .slice r7.2.2.2.a y5.1.Links.length r7.2.2.2.cap]) (k := ?_))
  refine ow_ev ev_assign ?_
  refine ow_ev ev_assign ?_
  refine ow_nil (hK3 _ _ ?_); clear hK3
  refine cw_seq fun K4 hK4 => ?_
  refine cw_region ?_
  refine ow_ev (ev_load_all (b := b4)) ?_
  refine ow_ev (ev_load_all (b := b8)) ?_
  obtain ⟨y9, hy10, hM⟩ := bind_some hM
  refine ow_cons (st_callv (fun w hm => let ⟨S, hs⟩ := hm; keep_SameLayout_spec _ w y1.1 r3 y5.1 r7 y9 hy10 (lend_lt hs) ⟨(Kn.lend (Kn.trow (e := 9) (r := r3.1) (by repeat (first | exact Has.head | apply Has.tail))) hs), (Kn.lend (Kn.trow (e := 9) (r := r3.2.1) (by repeat (first | exact Has.head | apply Has.tail))) hs), (Kn.lend (Kn.trow (e := 57) (r := r3.2.2.1) (by repeat (first | exact Has.head | apply Has.tail))) hs), (Kn.lend (Kn.trow (e := 72) (r := r3.2.2.2) (by repeat (first | exact Has.head | apply Has.tail))) hs)⟩ ⟨(Kn.lend (Kn.trow (e := 9) (r := r7.1) (by repeat (first | exact Has.head | apply Has.tail))) hs), (Kn.lend (Kn.trow (e := 9) (r := r7.2.1) (by repeat (first | exact Has.head | apply Has.tail))) hs), (Kn.lend (Kn.trow (e := 57) (r := r7.2.2.1) (by repeat (first | exact Has.head | apply Has.tail))) hs), (Kn.lend (Kn.trow (e := 72) (r := r7.2.2.2) (by repeat (first | exact Has.head | apply Has.tail))) hs)⟩) ?_)
  refine ow_ev ev_move ?_
  refine ow_evg rfl ev_move ?_
  refine ow_evg rfl ev_move ?_
  refine ow_evg rfl ev_eql ?_
  refine ow_ev ev_and ?_
  refine ow_ev ev_move ?_
  refine ow_evg rfl ev_move ?_
  refine ow_evg rfl ev_move ?_
  refine ow_evg rfl ev_eql ?_
  refine ow_ev ev_and ?_
  refine ow_ev ev_assign ?_
  refine ow_nil (hK4 _ _ ?_); clear hK4
  obtain rfl := some_inj hM
  refine cw_ret (kw_retc1 (fun w hm => ret_of hm rfl))

end Go.Proofs.YtohhihdjdelckaaDoor
