/- Models of functions, and that the code computes them. -/
import Derived.Test.YtohhihdjdelckaaDoorLe
import Derived.Test.YtohhihdjdelckaaDoorLf
import Derived.Test.YtohhihdjdelckaaDoorRl
import Derived.Test.YtohhihdjdelckaaDoorRt
set_option linter.all false
namespace Go.Proofs.YtohhihdjdelckaaDoor
open Go.Dc Go.RowKit
set_option maxRecDepth 10000
def law4_LayoutQueries_m (l0 : List Int) (v0 : Int) : Option Bool :=
  (keep_Layout_m l0).bind fun y1 =>
  (law4_awake_m).bind fun y5 =>
  (whn y5 default (layout_Check_m y1)).bind fun y7 =>
  (whn (y5 && decide (y7 = 0)) default (keep_Step_m y1 v0)).bind fun y9 =>
  (whn (y5 && decide (y7 = 0)) default (law4_queries_m y1 y9)).bind fun y11 =>
  some ((y5 && decide (y7 = 0)) && y11)
theorem law4_LayoutQueries_spec (S : Soup) (w : World) (l0 : List Int) (r_l0 : GoRep.R (List Int)) (v0 : Int) (y : Bool) (hM : law4_LayoutQueries_m l0 v0 = some y) (hS : ∀ k, S k → k < w.heap.size) (h_l0 : GoRep.ok S w r_l0 l0) (hg_0 : (imm (α := (List Str)) (⟨some ⟨0, 0, none⟩, 2, fun _ => ()⟩ : SR Unit) ([(⟨[65]⟩ : Str), (⟨[66]⟩ : Str)] : List Str)).φ S w) (hg_1 : (gtab 1 pow10).φ S w) :
    Calls Tryd.prog 4 #[.slice r_l0.a l0.length r_l0.cap, .int .i64 v0] w (Ret w (.bool y)) := by
  refine calls_cw (args := [_, _]) Tryd.func4 rfl ((pre_nil hS).start |>.immP (α := List Int) (r := r_l0) (x := l0) h_l0|>.factP (c := imm (α := (List Str)) (⟨some ⟨0, 0, none⟩, 2, fun _ => ()⟩ : SR Unit) ([(⟨[65]⟩ : Str), (⟨[66]⟩ : Str)] : List Str)) (fun _ h => False.elim h) hg_0|>.factP (c := gtab 1 pow10) (fun _ h => False.elim h) hg_1) rfl ?_
  unfold law4_LayoutQueries_m at hM
  refine cw_seq fun K1 hK1 => ?_
  refine cw_region ?_
  refine ow_ev ev_assign ?_
  refine ow_nil (hK1 _ _ ?_); clear hK1
  refine cw_seq fun K2 hK2 => ?_
  refine cw_region ?_
  refine ow_ev ev_move ?_
  obtain ⟨y1, hy2, hM⟩ := bind_some hM
  refine ow_cons (st_callF SelL.nil (fun S w hs hP => keep_Layout_spec _ w l0 r_l0 y1 hy2 (lend_lt hs) (Kn.lend (Kn.imm (α := List Int) (r := r_l0) (x := l0) (by repeat (first | exact Has.head | apply Has.tail))) hs)) (by intro r c hc; simp only [List.mem_cons, List.not_mem_nil, or_false] at hc; rcases hc with rfl | rfl | rfl | rfl <;> first | exact flatC_own | exact flatC_trow (fun _ _ _ _ => trivial)) (fun r3 => ?_))
  dsimp only [List.cons_append, List.nil_append]
  refine ow_cons (st_alloc rfl (k := fun b4 => ?_))
  refine ow_cons (st_store_all (b := b4) (vs := [.slice r3.1.a y1.Stations.length r3.1.cap, .slice r3.2.1.a y1.Points.length r3.2.1.cap, .slice r3.2.2.1.a y1.Sections.length r3.2.2.1.cap, .slice r3.2.2.2.a y1.Links.length r3.2.2.2.cap]) (k := ?_))
  refine ow_nil (hK2 _ _ ?_); clear hK2
  refine cw_seq fun K3 hK3 => ?_
  refine cw_region_any _ (List.Sublist.refl _) ?_
  obtain ⟨y5, hy6, hM⟩ := bind_some hM
  refine aw_one 0 rfl (st_callv (fun w hm => let ⟨S, hs⟩ := hm; law4_awake_spec _ w  y5 hy6 (lend_lt hs) ) ⟨fun w hm => hm.sub (by repeat (first | exact List.Sublist.refl _ | apply List.Sublist.cons_cons | apply List.Sublist.cons)), ?_⟩)
  refine aw_ev 1 rfl ev_move ?_
  refine aw_evg 2 rfl rfl (ev_load_all (b := b4)) ?_
  obtain ⟨y7, hy8, hM⟩ := bind_some hM
  refine aw_callg 3 rfl rfl (fun hg w hm => let ⟨S, hs⟩ := hm; layout_Check_spec _ w y1 r3 y7 (whn_some hy8 hg) (lend_lt hs) ⟨(Kn.lend (Kn.trow (e := 9) (r := r3.1) (by repeat (first | exact Has.head | apply Has.tail))) hs), (Kn.lend (Kn.trow (e := 9) (r := r3.2.1) (by repeat (first | exact Has.head | apply Has.tail))) hs), (Kn.lend (Kn.trow (e := 57) (r := r3.2.2.1) (by repeat (first | exact Has.head | apply Has.tail))) hs), (Kn.lend (Kn.trow (e := 72) (r := r3.2.2.2) (by repeat (first | exact Has.head | apply Has.tail))) hs)⟩) ?_
  refine aw_evg 4 rfl rfl ev_eql ?_
  refine aw_ev 5 rfl ev_and ?_
  refine aw_ev 6 rfl ev_move ?_
  refine aw_evg 7 rfl rfl (ev_load_all (b := b4)) ?_
  refine aw_evg 8 rfl rfl (ev_load_all (b := b4)) ?_
  refine aw_evg 9 rfl rfl ev_move ?_
  obtain ⟨y9, hy10, hM⟩ := bind_some hM
  refine aw_callg 10 rfl rfl (fun hg w hm => let ⟨S, hs⟩ := hm; keep_Step_spec _ w y1 r3 v0 y9 (whn_some hy10 hg) (lend_lt hs) ⟨(Kn.lend (Kn.trow (e := 9) (r := r3.1) (by repeat (first | exact Has.head | apply Has.tail))) hs), (Kn.lend (Kn.trow (e := 9) (r := r3.2.1) (by repeat (first | exact Has.head | apply Has.tail))) hs), (Kn.lend (Kn.trow (e := 57) (r := r3.2.2.1) (by repeat (first | exact Has.head | apply Has.tail))) hs), (Kn.lend (Kn.trow (e := 72) (r := r3.2.2.2) (by repeat (first | exact Has.head | apply Has.tail))) hs)⟩) ?_
  obtain ⟨y11, hy12, hM⟩ := bind_some hM
  refine aw_callg 11 rfl rfl (fun hg w hm => let ⟨S, hs⟩ := hm; law4_queries_spec _ w y1 r3 y9 y11 (whn_some hy12 hg) (lend_lt hs) ⟨(Kn.lend (Kn.trow (e := 9) (r := r3.1) (by repeat (first | exact Has.head | apply Has.tail))) hs), (Kn.lend (Kn.trow (e := 9) (r := r3.2.1) (by repeat (first | exact Has.head | apply Has.tail))) hs), (Kn.lend (Kn.trow (e := 57) (r := r3.2.2.1) (by repeat (first | exact Has.head | apply Has.tail))) hs), (Kn.lend (Kn.trow (e := 72) (r := r3.2.2.2) (by repeat (first | exact Has.head | apply Has.tail))) hs)⟩ (Chunk.mono _ _ _ _ (fun _ h => .inl h) (((by repeat (first | exact Has.head | apply Has.tail)) : Has _ (imm (α := (List Str)) (⟨some ⟨0, 0, none⟩, 2, fun _ => ()⟩ : SR Unit) ([(⟨[65]⟩ : Str), (⟨[66]⟩ : Str)] : List Str))).φ hs)) (Chunk.mono _ _ _ _ (fun _ h => .inl h) (((by repeat (first | exact Has.head | apply Has.tail)) : Has _ (gtab 1 pow10)).φ hs))) ?_
  refine aw_ev 12 rfl ev_and ?_
  refine aw_ev 13 rfl ev_assign ?_
  refine aw_done (hK3 _ _ ?_); clear hK3
  obtain rfl := some_inj hM
  refine cw_ret (kw_retc1 (fun w hm => ret_of hm rfl))

end Go.Proofs.YtohhihdjdelckaaDoor
