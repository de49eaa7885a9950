/- Models of functions, and that the code computes them. -/
import Derived.Test.YtohhihdjdelckaaDoorLa
import Derived.Test.YtohhihdjdelckaaDoorRd
import Derived.Test.YtohhihdjdelckaaDoorLd
import Derived.Test.YtohhihdjdelckaaDoorRs
set_option linter.all false
namespace Go.Proofs.YtohhihdjdelckaaDoor
open Go.Dc Go.RowKit
set_option maxRecDepth 10000
def law4_queries_m (l0 : Layout) (s0 : Step) : Option Bool :=
  (layout_Check_m l0).bind fun y3 =>
  (ref1_Check_m l0).bind fun y5 =>
  (whn (decide (y3 = y5)) default (layout_Has_m l0 s0)).bind fun y7 =>
  (whn (decide (y3 = y5)) default (ref1_HasStep_m l0 s0)).bind fun y9 =>
  (whn (decide (y3 = y5) && (y7 == y9)) default (layout_Reverse_m s0)).bind fun y11 =>
  (whn (decide (y3 = y5) && (y7 == y9)) default (ref1_Reverse_m s0)).bind fun y13 =>
  if ((decide (y3 = y5) && (y7 == y9)) && decide (y11 = y13)) then
  ((layout_Hops_m l0 s0).bind fun y16 =>
  (ref1_Hops_m l0 s0).bind fun y19 =>
  (keep_Same_api_Hop_m y16 y19).bind fun y22 =>
  (whn (((decide (y3 = y5) && (y7 == y9)) && decide (y11 = y13)) && y22) default (layout_Resources_m l0)).bind fun y24 =>
  (whn (((decide (y3 = y5) && (y7 == y9)) && decide (y11 = y13)) && y22) default (ref1_Resources_m l0)).bind fun y26 =>
  (whn ((((decide (y3 = y5) && (y7 == y9)) && decide (y11 = y13)) && y22) && decide (y24 = y26)) default (layout_Format_m l0)).bind fun y28 =>
  (whn ((((decide (y3 = y5) && (y7 == y9)) && decide (y11 = y13)) && y22) && decide (y24 = y26)) default (ref1_Format_m l0)).bind fun y30 =>
  some (((((decide (y3 = y5) && (y7 == y9)) && decide (y11 = y13)) && y22) && decide (y24 = y26)) && decide (y28 = y30)))
  else
  ((whn false default (layout_Resources_m l0)).bind fun y32 =>
  (whn false default (ref1_Resources_m l0)).bind fun y34 =>
  (whn (false && decide (y32 = y34)) default (layout_Format_m l0)).bind fun y36 =>
  (whn (false && decide (y32 = y34)) default (ref1_Format_m l0)).bind fun y38 =>
  some ((false && decide (y32 = y34)) && decide (y36 = y38)))
theorem law4_queries_spec (S : Soup) (w : World) (l0 : Layout) (r_l0 : GoRep.R Layout) (s0 : Step) (y : Bool) (hM : law4_queries_m l0 s0 = some y) (hS : ∀ k, S k → k < w.heap.size) (h_l0 : GoRep.ok S w r_l0 l0) (hg_0 : (imm (α := (List Str)) (⟨some ⟨0, 0, none⟩, 2, fun _ => ()⟩ : SR Unit) ([(⟨[65]⟩ : Str), (⟨[66]⟩ : Str)] : List Str)).φ S w) (hg_1 : (gtab 1 pow10).φ S w) :
    Calls Tryd.prog 11 #[.agg #[.slice r_l0.1.a l0.Stations.length r_l0.1.cap, .slice r_l0.2.1.a l0.Points.length r_l0.2.1.cap, .slice r_l0.2.2.1.a l0.Sections.length r_l0.2.2.1.cap, .slice r_l0.2.2.2.a l0.Links.length r_l0.2.2.2.cap], .agg #[.int .i64 s0.Section, .int .i64 s0.Dir]] w (Ret w (.bool y)) := by
  refine calls_cw (args := [_, _]) Tryd.func11 rfl ((pre_nil hS).start |>.immP (α := List Str) (r := r_l0.1) (x := l0.Stations) h_l0.1|>.immP (α := List Str) (r := r_l0.2.1) (x := l0.Points) h_l0.2.1|>.immP (α := List Section) (r := r_l0.2.2.1) (x := l0.Sections) h_l0.2.2.1|>.immP (α := List Link) (r := r_l0.2.2.2) (x := l0.Links) h_l0.2.2.2|>.factP (c := imm (α := (List Str)) (⟨some ⟨0, 0, none⟩, 2, fun _ => ()⟩ : SR Unit) ([(⟨[65]⟩ : Str), (⟨[66]⟩ : Str)] : List Str)) (fun _ h => False.elim h) hg_0|>.factP (c := gtab 1 pow10) (fun _ h => False.elim h) hg_1) rfl ?_
  unfold law4_queries_m at hM
  refine cw_seq fun K1 hK1 => ?_
  refine cw_region ?_
  refine ow_cons (st_box (l := [.slice r_l0.1.a l0.Stations.length r_l0.1.cap, .slice r_l0.2.1.a l0.Points.length r_l0.2.1.cap, .slice r_l0.2.2.1.a l0.Sections.length r_l0.2.2.1.cap, .slice r_l0.2.2.2.a l0.Links.length r_l0.2.2.2.cap]) (k := fun b1 => ?_))
  refine ow_cons (st_box (l := [.int .i64 s0.Section, .int .i64 s0.Dir]) (k := fun b2 => ?_))
  refine ow_ev ev_assign ?_
  refine ow_nil (hK1 _ _ ?_); clear hK1
  refine cw_seq fun K2 hK2 => ?_
  refine cw_region_any _ (List.Sublist.refl _) ?_
  refine aw_ev 0 rfl (ev_load_all (b := b1)) ?_
  refine aw_ev 2 rfl (ev_load_all (b := b1)) ?_
  obtain ⟨y3, hy4, hM⟩ := bind_some hM
  refine aw_one 1 rfl (st_callv (fun w hm => let ⟨S, hs⟩ := hm; layout_Check_spec _ w l0 r_l0 y3 hy4 (lend_lt hs) ⟨(Kn.lend (Kn.imm (α := List Str) (r := r_l0.1) (x := l0.Stations) (by repeat (first | exact Has.head | apply Has.tail))) hs), (Kn.lend (Kn.imm (α := List Str) (r := r_l0.2.1) (x := l0.Points) (by repeat (first | exact Has.head | apply Has.tail))) hs), (Kn.lend (Kn.imm (α := List Section) (r := r_l0.2.2.1) (x := l0.Sections) (by repeat (first | exact Has.head | apply Has.tail))) hs), (Kn.lend (Kn.imm (α := List Link) (r := r_l0.2.2.2) (x := l0.Links) (by repeat (first | exact Has.head | apply Has.tail))) hs)⟩) ⟨fun w hm => hm.sub (by repeat (first | exact List.Sublist.refl _ | apply List.Sublist.cons_cons | apply List.Sublist.cons)), ?_⟩)
  obtain ⟨y5, hy6, hM⟩ := bind_some hM
  refine aw_one 3 rfl (st_callv (fun w hm => let ⟨S, hs⟩ := hm; ref1_Check_spec _ w l0 r_l0 y5 hy6 (lend_lt hs) ⟨(Kn.lend (Kn.imm (α := List Str) (r := r_l0.1) (x := l0.Stations) (by repeat (first | exact Has.head | apply Has.tail))) hs), (Kn.lend (Kn.imm (α := List Str) (r := r_l0.2.1) (x := l0.Points) (by repeat (first | exact Has.head | apply Has.tail))) hs), (Kn.lend (Kn.imm (α := List Section) (r := r_l0.2.2.1) (x := l0.Sections) (by repeat (first | exact Has.head | apply Has.tail))) hs), (Kn.lend (Kn.imm (α := List Link) (r := r_l0.2.2.2) (x := l0.Links) (by repeat (first | exact Has.head | apply Has.tail))) hs)⟩) ⟨fun w hm => hm.sub (by repeat (first | exact List.Sublist.refl _ | apply List.Sublist.cons_cons | apply List.Sublist.cons)), ?_⟩)
  refine aw_ev 4 rfl ev_eql ?_
  refine aw_ev 5 rfl ev_move ?_
  refine aw_evg 6 rfl rfl (ev_load_all (b := b1)) ?_
  refine aw_evg 7 rfl rfl (ev_load_all (b := b2)) ?_
  refine aw_evg 9 rfl rfl (ev_load_all (b := b1)) ?_
  refine aw_evg 10 rfl rfl (ev_load_all (b := b2)) ?_
  obtain ⟨y7, hy8, hM⟩ := bind_some hM
  refine aw_callg 8 rfl rfl (fun hg w hm => let ⟨S, hs⟩ := hm; layout_Has_spec _ w l0 r_l0 s0 y7 (whn_some hy8 hg) (lend_lt hs) ⟨(Kn.lend (Kn.imm (α := List Str) (r := r_l0.1) (x := l0.Stations) (by repeat (first | exact Has.head | apply Has.tail))) hs), (Kn.lend (Kn.imm (α := List Str) (r := r_l0.2.1) (x := l0.Points) (by repeat (first | exact Has.head | apply Has.tail))) hs), (Kn.lend (Kn.imm (α := List Section) (r := r_l0.2.2.1) (x := l0.Sections) (by repeat (first | exact Has.head | apply Has.tail))) hs), (Kn.lend (Kn.imm (α := List Link) (r := r_l0.2.2.2) (x := l0.Links) (by repeat (first | exact Has.head | apply Has.tail))) hs)⟩) ?_
  obtain ⟨y9, hy10, hM⟩ := bind_some hM
  refine aw_callg 11 rfl rfl (fun hg w hm => let ⟨S, hs⟩ := hm; ref1_HasStep_spec _ w l0 r_l0 s0 y9 (whn_some hy10 hg) (lend_lt hs) ⟨(Kn.lend (Kn.imm (α := List Str) (r := r_l0.1) (x := l0.Stations) (by repeat (first | exact Has.head | apply Has.tail))) hs), (Kn.lend (Kn.imm (α := List Str) (r := r_l0.2.1) (x := l0.Points) (by repeat (first | exact Has.head | apply Has.tail))) hs), (Kn.lend (Kn.imm (α := List Section) (r := r_l0.2.2.1) (x := l0.Sections) (by repeat (first | exact Has.head | apply Has.tail))) hs), (Kn.lend (Kn.imm (α := List Link) (r := r_l0.2.2.2) (x := l0.Links) (by repeat (first | exact Has.head | apply Has.tail))) hs)⟩) ?_
  refine aw_evg 12 rfl rfl ev_bool_eql ?_
  refine aw_ev 13 rfl ev_and ?_
  refine aw_ev 14 rfl ev_move ?_
  refine aw_evg 15 rfl rfl (ev_load_all (b := b2)) ?_
  refine aw_evg 17 rfl rfl (ev_load_all (b := b2)) ?_
  obtain ⟨y11, hy12, hM⟩ := bind_some hM
  refine aw_callg 16 rfl rfl (fun hg w hm => let ⟨S, hs⟩ := hm; layout_Reverse_spec _ w s0 y11 (whn_some hy12 hg) (lend_lt hs) ) ?_
  obtain ⟨y13, hy14, hM⟩ := bind_some hM
  refine aw_callg 18 rfl rfl (fun hg w hm => let ⟨S, hs⟩ := hm; ref1_Reverse_spec _ w s0 y13 (whn_some hy14 hg) (lend_lt hs) ) ?_
  refine aw_evg 19 rfl rfl (ev_eqlF [.int .i64, .int .i64] (decide (y11 = y13)) (Step_eqv _ _)) ?_
  refine aw_ev 20 rfl ev_and ?_
  refine aw_ev 21 rfl ev_move ?_
  refine aw_evg 22 rfl rfl (ev_load_all (b := b1)) ?_
  refine aw_evg 23 rfl rfl (ev_load_all (b := b2)) ?_
  refine aw_evg 25 rfl rfl (ev_load_all (b := b1)) ?_
  refine aw_evg 26 rfl rfl (ev_load_all (b := b2)) ?_
  refine aw_cases ((decide (y3 = y5) && (y7 == y9)) && decide (y11 = y13)) (fun hg15 => ?_) (fun hg15 => ?_)
  ·
    replace hM := (ite_t hg15).symm.trans hM
    refine aw_know 27 hg15 rfl ?_
    refine aw_know 28 hg15 rfl ?_
    refine aw_know 30 hg15 rfl ?_
    refine aw_know 31 hg15 rfl ?_
    obtain ⟨y16, hy17, hM⟩ := bind_some hM
    refine aw_gtrue 24 rfl rfl hg15 (st_callF SelL.nil (fun S w hs hP => layout_Hops_spec _ w l0 r_l0 s0 y16 hy17 (lend_lt hs) ⟨(Kn.lend (Kn.imm (α := List Str) (r := r_l0.1) (x := l0.Stations) (by repeat (first | exact Has.head | apply Has.tail))) hs), (Kn.lend (Kn.imm (α := List Str) (r := r_l0.2.1) (x := l0.Points) (by repeat (first | exact Has.head | apply Has.tail))) hs), (Kn.lend (Kn.imm (α := List Section) (r := r_l0.2.2.1) (x := l0.Sections) (by repeat (first | exact Has.head | apply Has.tail))) hs), (Kn.lend (Kn.imm (α := List Link) (r := r_l0.2.2.2) (x := l0.Links) (by repeat (first | exact Has.head | apply Has.tail))) hs)⟩) (by intro r c hc; simp only [List.mem_cons, List.not_mem_nil, or_false] at hc; rcases hc with rfl <;> first | exact flatC_own | exact flatC_trow (fun _ _ _ _ => trivial)) (fun r18 => ⟨fun w hm => hm.sub (by repeat (first | exact List.Sublist.refl _ | apply List.Sublist.cons_cons | apply List.Sublist.cons)), ?_⟩))
    dsimp only [List.cons_append, List.nil_append]
    obtain ⟨y19, hy20, hM⟩ := bind_some hM
    refine aw_gtrue 27 rfl rfl hg15 (st_callF SelL.nil (fun S w hs hP => ref1_Hops_spec _ w l0 r_l0 s0 y19 hy20 (lend_lt hs) ⟨(Kn.lend (Kn.imm (α := List Str) (r := r_l0.1) (x := l0.Stations) (by repeat (first | exact Has.head | apply Has.tail))) hs), (Kn.lend (Kn.imm (α := List Str) (r := r_l0.2.1) (x := l0.Points) (by repeat (first | exact Has.head | apply Has.tail))) hs), (Kn.lend (Kn.imm (α := List Section) (r := r_l0.2.2.1) (x := l0.Sections) (by repeat (first | exact Has.head | apply Has.tail))) hs), (Kn.lend (Kn.imm (α := List Link) (r := r_l0.2.2.2) (x := l0.Links) (by repeat (first | exact Has.head | apply Has.tail))) hs)⟩) (by intro r c hc; simp only [List.mem_cons, List.not_mem_nil, or_false] at hc; rcases hc with rfl <;> first | exact flatC_own | exact flatC_trow (fun _ _ _ _ => trivial)) (fun r21 => ⟨fun w hm => hm.sub (by repeat (first | exact List.Sublist.refl _ | apply List.Sublist.cons_cons | apply List.Sublist.cons)), ?_⟩))
    dsimp only [List.cons_append, List.nil_append]
    obtain ⟨y22, hy23, hM⟩ := bind_some hM
    refine aw_gtrue 28 rfl rfl hg15 (st_callv (fun w hm => let ⟨S, hs⟩ := hm; keep_Same_api_Hop_spec _ w y16 r18 y19 r21 y22 hy23 (lend_lt hs) (Kn.lend (Kn.trow (e := 52) (r := r18) (by repeat (first | exact Has.head | apply Has.tail))) hs) (Kn.lend (Kn.trow (e := 52) (r := r21) (by repeat (first | exact Has.head | apply Has.tail))) hs)) ⟨fun w hm => hm.sub (by repeat (first | exact List.Sublist.refl _ | apply List.Sublist.cons_cons | apply List.Sublist.cons)), ?_⟩)
    refine aw_ev 29 rfl ev_and ?_
    refine aw_ev 30 rfl ev_move ?_
    refine aw_evg 31 rfl rfl (ev_load_all (b := b1)) ?_
    refine aw_evg 33 rfl rfl (ev_load_all (b := b1)) ?_
    obtain ⟨y24, hy25, hM⟩ := bind_some hM
    refine aw_callg 32 rfl rfl (fun hg w hm => let ⟨S, hs⟩ := hm; layout_Resources_spec _ w l0 r_l0 y24 (whn_some hy25 hg) (lend_lt hs) ⟨(Kn.lend (Kn.imm (α := List Str) (r := r_l0.1) (x := l0.Stations) (by repeat (first | exact Has.head | apply Has.tail))) hs), (Kn.lend (Kn.imm (α := List Str) (r := r_l0.2.1) (x := l0.Points) (by repeat (first | exact Has.head | apply Has.tail))) hs), (Kn.lend (Kn.imm (α := List Section) (r := r_l0.2.2.1) (x := l0.Sections) (by repeat (first | exact Has.head | apply Has.tail))) hs), (Kn.lend (Kn.imm (α := List Link) (r := r_l0.2.2.2) (x := l0.Links) (by repeat (first | exact Has.head | apply Has.tail))) hs)⟩) ?_
    obtain ⟨y26, hy27, hM⟩ := bind_some hM
    refine aw_callg 34 rfl rfl (fun hg w hm => let ⟨S, hs⟩ := hm; ref1_Resources_spec _ w l0 r_l0 y26 (whn_some hy27 hg) (lend_lt hs) ⟨(Kn.lend (Kn.imm (α := List Str) (r := r_l0.1) (x := l0.Stations) (by repeat (first | exact Has.head | apply Has.tail))) hs), (Kn.lend (Kn.imm (α := List Str) (r := r_l0.2.1) (x := l0.Points) (by repeat (first | exact Has.head | apply Has.tail))) hs), (Kn.lend (Kn.imm (α := List Section) (r := r_l0.2.2.1) (x := l0.Sections) (by repeat (first | exact Has.head | apply Has.tail))) hs), (Kn.lend (Kn.imm (α := List Link) (r := r_l0.2.2.2) (x := l0.Links) (by repeat (first | exact Has.head | apply Has.tail))) hs)⟩) ?_
    refine aw_evg 35 rfl rfl ev_eql ?_
    refine aw_ev 36 rfl ev_and ?_
    refine aw_ev 37 rfl ev_move ?_
    refine aw_evg 38 rfl rfl (ev_load_all (b := b1)) ?_
    refine aw_evg 40 rfl rfl (ev_load_all (b := b1)) ?_
    obtain ⟨y28, hy29, hM⟩ := bind_some hM
    refine aw_callg 39 rfl rfl (fun hg w hm => let ⟨S, hs⟩ := hm; layout_Format_spec _ w l0 r_l0 y28 (whn_some hy29 hg) (lend_lt hs) ⟨(Kn.lend (Kn.imm (α := List Str) (r := r_l0.1) (x := l0.Stations) (by repeat (first | exact Has.head | apply Has.tail))) hs), (Kn.lend (Kn.imm (α := List Str) (r := r_l0.2.1) (x := l0.Points) (by repeat (first | exact Has.head | apply Has.tail))) hs), (Kn.lend (Kn.imm (α := List Section) (r := r_l0.2.2.1) (x := l0.Sections) (by repeat (first | exact Has.head | apply Has.tail))) hs), (Kn.lend (Kn.imm (α := List Link) (r := r_l0.2.2.2) (x := l0.Links) (by repeat (first | exact Has.head | apply Has.tail))) hs)⟩ (Chunk.mono _ _ _ _ (fun _ h => .inl h) (((by repeat (first | exact Has.head | apply Has.tail)) : Has _ (imm (α := (List Str)) (⟨some ⟨0, 0, none⟩, 2, fun _ => ()⟩ : SR Unit) ([(⟨[65]⟩ : Str), (⟨[66]⟩ : Str)] : List Str))).φ hs)) (Chunk.mono _ _ _ _ (fun _ h => .inl h) (((by repeat (first | exact Has.head | apply Has.tail)) : Has _ (gtab 1 pow10)).φ hs))) ?_
    obtain ⟨y30, hy31, hM⟩ := bind_some hM
    refine aw_callg 41 rfl rfl (fun hg w hm => let ⟨S, hs⟩ := hm; ref1_Format_spec _ w l0 r_l0 y30 (whn_some hy31 hg) (lend_lt hs) ⟨(Kn.lend (Kn.imm (α := List Str) (r := r_l0.1) (x := l0.Stations) (by repeat (first | exact Has.head | apply Has.tail))) hs), (Kn.lend (Kn.imm (α := List Str) (r := r_l0.2.1) (x := l0.Points) (by repeat (first | exact Has.head | apply Has.tail))) hs), (Kn.lend (Kn.imm (α := List Section) (r := r_l0.2.2.1) (x := l0.Sections) (by repeat (first | exact Has.head | apply Has.tail))) hs), (Kn.lend (Kn.imm (α := List Link) (r := r_l0.2.2.2) (x := l0.Links) (by repeat (first | exact Has.head | apply Has.tail))) hs)⟩) ?_
    refine aw_evg 42 rfl rfl ev_str_eql ?_
    refine aw_ev 43 rfl ev_and ?_
    refine aw_ev 44 rfl ev_assign ?_
    refine aw_done (hK2 _ _ ?_); clear hK2
    obtain rfl := some_inj hM
    refine cw_ret (kw_retc1 (fun w hm => ret_of hm rfl))
  ·
    replace hM := (ite_f hg15).symm.trans hM
    refine aw_gskip 24 rfl rfl hg15 ?_
    refine aw_gskip 27 rfl rfl hg15 ?_
    refine aw_gskip 28 rfl rfl hg15 ?_
    refine aw_ev 29 rfl (ev_andF hg15) ?_
    refine aw_ev 30 rfl ev_move ?_
    refine aw_evg 31 rfl rfl (ev_load_all (b := b1)) ?_
    refine aw_evg 33 rfl rfl (ev_load_all (b := b1)) ?_
    obtain ⟨y32, hy33, hM⟩ := bind_some hM
    refine aw_callg 32 rfl rfl (fun hg w hm => let ⟨S, hs⟩ := hm; layout_Resources_spec _ w l0 r_l0 y32 (whn_some hy33 hg) (lend_lt hs) ⟨(Kn.lend (Kn.imm (α := List Str) (r := r_l0.1) (x := l0.Stations) (by repeat (first | exact Has.head | apply Has.tail))) hs), (Kn.lend (Kn.imm (α := List Str) (r := r_l0.2.1) (x := l0.Points) (by repeat (first | exact Has.head | apply Has.tail))) hs), (Kn.lend (Kn.imm (α := List Section) (r := r_l0.2.2.1) (x := l0.Sections) (by repeat (first | exact Has.head | apply Has.tail))) hs), (Kn.lend (Kn.imm (α := List Link) (r := r_l0.2.2.2) (x := l0.Links) (by repeat (first | exact Has.head | apply Has.tail))) hs)⟩) ?_
    obtain ⟨y34, hy35, hM⟩ := bind_some hM
    refine aw_callg 34 rfl rfl (fun hg w hm => let ⟨S, hs⟩ := hm; ref1_Resources_spec _ w l0 r_l0 y34 (whn_some hy35 hg) (lend_lt hs) ⟨(Kn.lend (Kn.imm (α := List Str) (r := r_l0.1) (x := l0.Stations) (by repeat (first | exact Has.head | apply Has.tail))) hs), (Kn.lend (Kn.imm (α := List Str) (r := r_l0.2.1) (x := l0.Points) (by repeat (first | exact Has.head | apply Has.tail))) hs), (Kn.lend (Kn.imm (α := List Section) (r := r_l0.2.2.1) (x := l0.Sections) (by repeat (first | exact Has.head | apply Has.tail))) hs), (Kn.lend (Kn.imm (α := List Link) (r := r_l0.2.2.2) (x := l0.Links) (by repeat (first | exact Has.head | apply Has.tail))) hs)⟩) ?_
    refine aw_evg 35 rfl rfl ev_eql ?_
    refine aw_ev 36 rfl ev_and ?_
    refine aw_ev 37 rfl ev_move ?_
    refine aw_evg 38 rfl rfl (ev_load_all (b := b1)) ?_
    refine aw_evg 40 rfl rfl (ev_load_all (b := b1)) ?_
    obtain ⟨y36, hy37, hM⟩ := bind_some hM
    refine aw_callg 39 rfl rfl (fun hg w hm => let ⟨S, hs⟩ := hm; layout_Format_spec _ w l0 r_l0 y36 (whn_some hy37 hg) (lend_lt hs) ⟨(Kn.lend (Kn.imm (α := List Str) (r := r_l0.1) (x := l0.Stations) (by repeat (first | exact Has.head | apply Has.tail))) hs), (Kn.lend (Kn.imm (α := List Str) (r := r_l0.2.1) (x := l0.Points) (by repeat (first | exact Has.head | apply Has.tail))) hs), (Kn.lend (Kn.imm (α := List Section) (r := r_l0.2.2.1) (x := l0.Sections) (by repeat (first | exact Has.head | apply Has.tail))) hs), (Kn.lend (Kn.imm (α := List Link) (r := r_l0.2.2.2) (x := l0.Links) (by repeat (first | exact Has.head | apply Has.tail))) hs)⟩ (Chunk.mono _ _ _ _ (fun _ h => .inl h) (((by repeat (first | exact Has.head | apply Has.tail)) : Has _ (imm (α := (List Str)) (⟨some ⟨0, 0, none⟩, 2, fun _ => ()⟩ : SR Unit) ([(⟨[65]⟩ : Str), (⟨[66]⟩ : Str)] : List Str))).φ hs)) (Chunk.mono _ _ _ _ (fun _ h => .inl h) (((by repeat (first | exact Has.head | apply Has.tail)) : Has _ (gtab 1 pow10)).φ hs))) ?_
    obtain ⟨y38, hy39, hM⟩ := bind_some hM
    refine aw_callg 41 rfl rfl (fun hg w hm => let ⟨S, hs⟩ := hm; ref1_Format_spec _ w l0 r_l0 y38 (whn_some hy39 hg) (lend_lt hs) ⟨(Kn.lend (Kn.imm (α := List Str) (r := r_l0.1) (x := l0.Stations) (by repeat (first | exact Has.head | apply Has.tail))) hs), (Kn.lend (Kn.imm (α := List Str) (r := r_l0.2.1) (x := l0.Points) (by repeat (first | exact Has.head | apply Has.tail))) hs), (Kn.lend (Kn.imm (α := List Section) (r := r_l0.2.2.1) (x := l0.Sections) (by repeat (first | exact Has.head | apply Has.tail))) hs), (Kn.lend (Kn.imm (α := List Link) (r := r_l0.2.2.2) (x := l0.Links) (by repeat (first | exact Has.head | apply Has.tail))) hs)⟩) ?_
    refine aw_evg 42 rfl rfl ev_str_eql ?_
    refine aw_ev 43 rfl ev_and ?_
    refine aw_ev 44 rfl ev_assign ?_
    refine aw_done (hK2 _ _ ?_); clear hK2
    obtain rfl := some_inj hM
    refine cw_ret (kw_retc1 (fun w hm => ret_of hm rfl))

end Go.Proofs.YtohhihdjdelckaaDoor
