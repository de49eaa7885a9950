/- Models of functions, and that the code computes them. -/
import Derived.Test.YtnihhidbiepnhaaRf
import Derived.Test.YtnihhidbiepnhaaRl
import Derived.Test.YtnihhidbiepnhaaFl
import Derived.Test.YtnihhidbiepnhaaRt
namespace Go.Proofs.Ytnihhidbiepnhaa
open Go.Dc Go.RowKit
set_option maxRecDepth 10000
set_option linter.unusedVariables false
def law7_RouteFinds_m (raw0 : Layout) (l0 : List Int) (v0 : Int) (to0 : Int) (budget0 : Int) : Option Bool :=
  (keep_Layout_m l0).bind fun y2 =>
  (law7_awake_m).bind fun y6 =>
  (whn y6 default (keep_Step_m raw0 v0)).bind fun y8 =>
  (whn y6 default (keep_Pick_m budget0 300)).bind fun y10 =>
  chk (!y6 || i64b (y10 - 1)) <|
  (whn y6 default (law7_finds_m raw0 y8 to0 (y10 - 1))).bind fun y13 =>
  chk (!(y6 && y13) || i64b ((y2.Sections.length : Int) + 2)) <|
  (whn (y6 && y13) default (keep_Step_m y2 v0)).bind fun y16 =>
  (whn (y6 && y13) default (keep_Pick_m to0 ((y2.Sections.length : Int) + 2))).bind fun y18 =>
  chk (!(y6 && y13) || i64b (y18 - 1)) <|
  (whn (y6 && y13) default (keep_Pick_m budget0 60)).bind fun y21 =>
  chk (!(y6 && y13) || i64b (y21 - 1)) <|
  (whn (y6 && y13) default (law7_finds_m y2 y16 (y18 - 1) (y21 - 1))).bind fun y24 =>
  (whn ((y6 && y13) && y24) default (keep_Step_m y2 v0)).bind fun y26 =>
  (whn ((y6 && y13) && y24) default (keep_Pick_m to0 (y2.Sections.length : Int))).bind fun y28 =>
  (whn ((y6 && y13) && y24) default (law7_finds_m y2 y26 y28 budget0)).bind fun y30 =>
  some (((y6 && y13) && y24) && y30)
theorem law7_RouteFinds_spec (S : Soup) (w : World) (raw0 : Layout) (r_raw0 : GoRep.R Layout) (l0 : List Int) (r_l0 : GoRep.R (List Int)) (v0 : Int) (to0 : Int) (budget0 : Int) (y : Bool) (hM : law7_RouteFinds_m raw0 l0 v0 to0 budget0 = some y) (hS : ∀ k, S k → k < w.heap.size) (h_raw0 : GoRep.ok S w r_raw0 raw0) (h_l0 : GoRep.ok S w r_l0 l0) :
    Calls Try.prog 13 #[.agg #[.slice r_raw0.1.a raw0.Stations.length r_raw0.1.cap, .slice r_raw0.2.1.a raw0.Points.length r_raw0.2.1.cap, .slice r_raw0.2.2.1.a raw0.Sections.length r_raw0.2.2.1.cap, .slice r_raw0.2.2.2.a raw0.Links.length r_raw0.2.2.2.cap], .slice r_l0.a l0.length r_l0.cap, .int .i64 v0, .int .i64 to0, .int .i64 budget0] w (Ret w (.bool y)) := by
  refine calls_cw (args := [_, _, _, _, _]) Try.func13 rfl ((pre_nil hS).start |>.immP (α := List Str) (r := r_raw0.1) (x := raw0.Stations) h_raw0.1|>.immP (α := List Str) (r := r_raw0.2.1) (x := raw0.Points) h_raw0.2.1|>.immP (α := List Section) (r := r_raw0.2.2.1) (x := raw0.Sections) h_raw0.2.2.1|>.immP (α := List Link) (r := r_raw0.2.2.2) (x := raw0.Links) h_raw0.2.2.2|>.immP (α := List Int) (r := r_l0) (x := l0) h_l0) rfl ?_
  unfold law7_RouteFinds_m at hM
  refine cw_seq fun K1 hK1 => ?_
  refine cw_region ?_
  refine ow_cons (st_box (l := [.slice r_raw0.1.a raw0.Stations.length r_raw0.1.cap, .slice r_raw0.2.1.a raw0.Points.length r_raw0.2.1.cap, .slice r_raw0.2.2.1.a raw0.Sections.length r_raw0.2.2.1.cap, .slice r_raw0.2.2.2.a raw0.Links.length r_raw0.2.2.2.cap]) (k := fun b1 => ?_))
  refine ow_ev ev_assign ?_
  refine ow_nil (hK1 _ _ ?_); clear hK1
  refine cw_seq fun K2 hK2 => ?_
  refine cw_region ?_
  refine ow_ev ev_move ?_
  obtain ⟨y2, hy3, hM⟩ := bind_some hM
  refine ow_cons (st_callF SelL.nil (fun S w hs hP => keep_Layout_spec _ w l0 r_l0 y2 hy3 (lend_lt hs) (Kn.lend (Kn.imm (α := List Int) (r := r_l0) (x := l0) (by repeat (first | exact Has.head | apply Has.tail))) hs)) (by intro r c hc; simp only [List.mem_cons, List.not_mem_nil, or_false] at hc; rcases hc with rfl | rfl | rfl | rfl <;> first | exact flatC_own | exact flatC_trow (fun _ _ _ _ => trivial)) (fun r4 => ?_))
  dsimp only [List.cons_append, List.nil_append]
  refine ow_cons (st_alloc rfl (k := fun b5 => ?_))
  refine ow_cons (st_store_all (b := b5) (vs := [.slice r4.1.a y2.Stations.length r4.1.cap, .slice r4.2.1.a y2.Points.length r4.2.1.cap, .slice r4.2.2.1.a y2.Sections.length r4.2.2.1.cap, .slice r4.2.2.2.a y2.Links.length r4.2.2.2.cap]) (k := ?_))
  refine ow_nil (hK2 _ _ ?_); clear hK2
  refine cw_seq fun K3 hK3 => ?_
  refine cw_region_any _ (List.Sublist.refl _) ?_
  obtain ⟨y6, hy7, hM⟩ := bind_some hM
  refine aw_one 0 rfl (st_callv (fun w hm => let ⟨S, hs⟩ := hm; law7_awake_spec _ w  y6 hy7 (lend_lt hs) ) ⟨fun w hm => hm.sub (by repeat (first | exact List.Sublist.refl _ | apply List.Sublist.cons_cons | apply List.Sublist.cons)), ?_⟩)
  refine aw_ev 1 rfl ev_move ?_
  refine aw_evg 2 rfl rfl (ev_load_all (b := b1)) ?_
  refine aw_evg 3 rfl rfl (ev_load_all (b := b1)) ?_
  refine aw_evg 4 rfl rfl ev_move ?_
  refine aw_evg 6 rfl rfl ev_move ?_
  refine aw_evg 7 rfl rfl ev_move ?_
  obtain ⟨y8, hy9, hM⟩ := bind_some hM
  refine aw_callg 5 rfl rfl (fun hg w hm => let ⟨S, hs⟩ := hm; keep_Step_spec _ w raw0 r_raw0 v0 y8 (whn_some hy9 hg) (lend_lt hs) ⟨(Kn.lend (Kn.imm (α := List Str) (r := r_raw0.1) (x := raw0.Stations) (by repeat (first | exact Has.head | apply Has.tail))) hs), (Kn.lend (Kn.imm (α := List Str) (r := r_raw0.2.1) (x := raw0.Points) (by repeat (first | exact Has.head | apply Has.tail))) hs), (Kn.lend (Kn.imm (α := List Section) (r := r_raw0.2.2.1) (x := raw0.Sections) (by repeat (first | exact Has.head | apply Has.tail))) hs), (Kn.lend (Kn.imm (α := List Link) (r := r_raw0.2.2.2) (x := raw0.Links) (by repeat (first | exact Has.head | apply Has.tail))) hs)⟩) ?_
  obtain ⟨y10, hy11, hM⟩ := bind_some hM
  refine aw_callg 8 rfl rfl (fun hg w hm => let ⟨S, hs⟩ := hm; keep_Pick_spec _ w budget0 300 y10 (whn_some hy11 hg) (lend_lt hs) ) ?_
  obtain ⟨hI12, hM⟩ := chk_some hM
  refine aw_evg 9 rfl rfl (ev_sub (hr := fun hg => i64b_I64 (gor hI12 hg))) ?_
  obtain ⟨y13, hy14, hM⟩ := bind_some hM
  refine aw_callg 10 rfl rfl (fun hg w hm => let ⟨S, hs⟩ := hm; law7_finds_spec _ w raw0 r_raw0 y8 to0 (y10 - 1) y13 (whn_some hy14 hg) (lend_lt hs) ⟨(Kn.lend (Kn.imm (α := List Str) (r := r_raw0.1) (x := raw0.Stations) (by repeat (first | exact Has.head | apply Has.tail))) hs), (Kn.lend (Kn.imm (α := List Str) (r := r_raw0.2.1) (x := raw0.Points) (by repeat (first | exact Has.head | apply Has.tail))) hs), (Kn.lend (Kn.imm (α := List Section) (r := r_raw0.2.2.1) (x := raw0.Sections) (by repeat (first | exact Has.head | apply Has.tail))) hs), (Kn.lend (Kn.imm (α := List Link) (r := r_raw0.2.2.2) (x := raw0.Links) (by repeat (first | exact Has.head | apply Has.tail))) hs)⟩) ?_
  refine aw_ev 11 rfl ev_and ?_
  refine aw_ev 12 rfl ev_move ?_
  refine aw_evg 13 rfl rfl (ev_load_all (b := b5)) ?_
  refine aw_evg 14 rfl rfl (ev_load_all (b := b5)) ?_
  refine aw_evg 15 rfl rfl ev_move ?_
  refine aw_evg 17 rfl rfl ev_move ?_
  refine aw_evg 18 rfl rfl (ev_field_addr 2) ?_
  refine aw_evg 19 rfl rfl (ev_load_own (b := b5)) ?_
  refine aw_evg 20 rfl rfl ev_len ?_
  obtain ⟨hI15, hM⟩ := chk_some hM
  refine aw_evg 21 rfl rfl (ev_add (hr := fun hg => i64b_I64 (gor hI15 hg))) ?_
  refine aw_evg 24 rfl rfl ev_move ?_
  obtain ⟨y16, hy17, hM⟩ := bind_some hM
  refine aw_callg 16 rfl rfl (fun hg w hm => let ⟨S, hs⟩ := hm; keep_Step_spec _ w y2 r4 v0 y16 (whn_some hy17 hg) (lend_lt hs) ⟨(Kn.lend (Kn.trow (e := 9) (r := r4.1) (by repeat (first | exact Has.head | apply Has.tail))) hs), (Kn.lend (Kn.trow (e := 9) (r := r4.2.1) (by repeat (first | exact Has.head | apply Has.tail))) hs), (Kn.lend (Kn.trow (e := 31) (r := r4.2.2.1) (by repeat (first | exact Has.head | apply Has.tail))) hs), (Kn.lend (Kn.trow (e := 91) (r := r4.2.2.2) (by repeat (first | exact Has.head | apply Has.tail))) hs)⟩) ?_
  obtain ⟨y18, hy19, hM⟩ := bind_some hM
  refine aw_callg 22 rfl rfl (fun hg w hm => let ⟨S, hs⟩ := hm; keep_Pick_spec _ w to0 ((y2.Sections.length : Int) + 2) y18 (whn_some hy19 hg) (lend_lt hs) ) ?_
  obtain ⟨hI20, hM⟩ := chk_some hM
  refine aw_evg 23 rfl rfl (ev_sub (hr := fun hg => i64b_I64 (gor hI20 hg))) ?_
  obtain ⟨y21, hy22, hM⟩ := bind_some hM
  refine aw_callg 25 rfl rfl (fun hg w hm => let ⟨S, hs⟩ := hm; keep_Pick_spec _ w budget0 60 y21 (whn_some hy22 hg) (lend_lt hs) ) ?_
  obtain ⟨hI23, hM⟩ := chk_some hM
  refine aw_evg 26 rfl rfl (ev_sub (hr := fun hg => i64b_I64 (gor hI23 hg))) ?_
  obtain ⟨y24, hy25, hM⟩ := bind_some hM
  refine aw_callg 27 rfl rfl (fun hg w hm => let ⟨S, hs⟩ := hm; law7_finds_spec _ w y2 r4 y16 (y18 - 1) (y21 - 1) y24 (whn_some hy25 hg) (lend_lt hs) ⟨(Kn.lend (Kn.trow (e := 9) (r := r4.1) (by repeat (first | exact Has.head | apply Has.tail))) hs), (Kn.lend (Kn.trow (e := 9) (r := r4.2.1) (by repeat (first | exact Has.head | apply Has.tail))) hs), (Kn.lend (Kn.trow (e := 31) (r := r4.2.2.1) (by repeat (first | exact Has.head | apply Has.tail))) hs), (Kn.lend (Kn.trow (e := 91) (r := r4.2.2.2) (by repeat (first | exact Has.head | apply Has.tail))) hs)⟩) ?_
  refine aw_ev 28 rfl ev_and ?_
  refine aw_ev 29 rfl ev_move ?_
  refine aw_evg 30 rfl rfl (ev_load_all (b := b5)) ?_
  refine aw_evg 31 rfl rfl (ev_load_all (b := b5)) ?_
  refine aw_evg 32 rfl rfl ev_move ?_
  refine aw_evg 34 rfl rfl ev_move ?_
  refine aw_evg 35 rfl rfl (ev_field_addr 2) ?_
  refine aw_evg 36 rfl rfl (ev_load_own (b := b5)) ?_
  refine aw_evg 37 rfl rfl ev_len ?_
  refine aw_evg 39 rfl rfl ev_move ?_
  obtain ⟨y26, hy27, hM⟩ := bind_some hM
  refine aw_callg 33 rfl rfl (fun hg w hm => let ⟨S, hs⟩ := hm; keep_Step_spec _ w y2 r4 v0 y26 (whn_some hy27 hg) (lend_lt hs) ⟨(Kn.lend (Kn.trow (e := 9) (r := r4.1) (by repeat (first | exact Has.head | apply Has.tail))) hs), (Kn.lend (Kn.trow (e := 9) (r := r4.2.1) (by repeat (first | exact Has.head | apply Has.tail))) hs), (Kn.lend (Kn.trow (e := 31) (r := r4.2.2.1) (by repeat (first | exact Has.head | apply Has.tail))) hs), (Kn.lend (Kn.trow (e := 91) (r := r4.2.2.2) (by repeat (first | exact Has.head | apply Has.tail))) hs)⟩) ?_
  obtain ⟨y28, hy29, hM⟩ := bind_some hM
  refine aw_callg 38 rfl rfl (fun hg w hm => let ⟨S, hs⟩ := hm; keep_Pick_spec _ w to0 (y2.Sections.length : Int) y28 (whn_some hy29 hg) (lend_lt hs) ) ?_
  obtain ⟨y30, hy31, hM⟩ := bind_some hM
  refine aw_callg 40 rfl rfl (fun hg w hm => let ⟨S, hs⟩ := hm; law7_finds_spec _ w y2 r4 y26 y28 budget0 y30 (whn_some hy31 hg) (lend_lt hs) ⟨(Kn.lend (Kn.trow (e := 9) (r := r4.1) (by repeat (first | exact Has.head | apply Has.tail))) hs), (Kn.lend (Kn.trow (e := 9) (r := r4.2.1) (by repeat (first | exact Has.head | apply Has.tail))) hs), (Kn.lend (Kn.trow (e := 31) (r := r4.2.2.1) (by repeat (first | exact Has.head | apply Has.tail))) hs), (Kn.lend (Kn.trow (e := 91) (r := r4.2.2.2) (by repeat (first | exact Has.head | apply Has.tail))) hs)⟩) ?_
  refine aw_ev 41 rfl ev_and ?_
  refine aw_ev 42 rfl ev_assign ?_
  refine aw_done (hK3 _ _ ?_); clear hK3
  obtain rfl := some_inj hM
  refine cw_ret (kw_retc1 (fun w hm => ret_of hm rfl))

end Go.Proofs.Ytnihhidbiepnhaa
