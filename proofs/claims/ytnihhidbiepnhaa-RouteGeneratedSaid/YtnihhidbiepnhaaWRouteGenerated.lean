/- Models of functions, and that the code computes them. -/
import Derived.Test.YtnihhidbiepnhaaRf
import Derived.Test.YtnihhidbiepnhaaRl
import Derived.Test.YtnihhidbiepnhaaRs
namespace Go.Proofs.Ytnihhidbiepnhaa
open Go.Dc Go.RowKit
set_option maxRecDepth 10000
set_option linter.unusedVariables false
def keep_Step_m (l0 : Layout) (v0 : Int) : Option Step :=
  (keep_Pick_m v0 16).bind fun y3 =>
  if decide (y3 = 15) then
    (chk (decide (16 ≠ 0) && i64b (v0.tdiv 16)) <|
    chk (i64b ((l0.Sections.length : Int) + 4)) <|
    (keep_Pick_m (v0.tdiv 16) ((l0.Sections.length : Int) + 4)).bind fun y8 =>
    chk (i64b (y8 - 2)) <|
    chk (decide (700 ≠ 0) && i64b (v0.tdiv 700)) <|
    (keep_Pick_m (v0.tdiv 700) 4).bind fun y12 =>
    chk (i64b (y12 - 1)) <|
    some (Step.mk (y8 - 2) (y12 - 1)))
  else
    (chk (decide (16 ≠ 0) && i64b (v0.tdiv 16)) <|
    (keep_Pick_m (v0.tdiv 16) (if (l0.Sections.length : Int) > 1 then (l0.Sections.length : Int) else 1)).bind fun y16 =>
    chk (decide (16 ≠ 0) && i64b (v0.tdiv 16)) <|
    chk (decide (97 ≠ 0) && i64b ((v0.tdiv 16).tdiv 97)) <|
    (keep_Pick_m ((v0.tdiv 16).tdiv 97) 2).bind fun y20 =>
    some (Step.mk y16 y20))
theorem keep_Step_spec (S : Soup) (w : World) (l0 : Layout) (r_l0 : GoRep.R Layout) (v0 : Int) (y : Step) (hM : keep_Step_m l0 v0 = some y) (hS : ∀ k, S k → k < w.heap.size) (h_l0 : GoRep.ok S w r_l0 l0) :
    Calls Try.prog 23 #[.agg #[.slice r_l0.1.a l0.Stations.length r_l0.1.cap, .slice r_l0.2.1.a l0.Points.length r_l0.2.1.cap, .slice r_l0.2.2.1.a l0.Sections.length r_l0.2.2.1.cap, .slice r_l0.2.2.2.a l0.Links.length r_l0.2.2.2.cap], .int .i64 v0] w (Ret w (.agg #[.int .i64 y.Section, .int .i64 y.Dir])) := by
  refine calls_cw (args := [_, _]) Try.func23 rfl ((pre_nil hS).start |>.immP (α := List Str) (r := r_l0.1) (x := l0.Stations) h_l0.1|>.immP (α := List Str) (r := r_l0.2.1) (x := l0.Points) h_l0.2.1|>.immP (α := List Section) (r := r_l0.2.2.1) (x := l0.Sections) h_l0.2.2.1|>.immP (α := List Link) (r := r_l0.2.2.2) (x := l0.Links) h_l0.2.2.2) rfl ?_
  unfold keep_Step_m at hM
  refine cw_seq fun K1 hK1 => ?_
  refine cw_region ?_
  refine ow_cons (st_box (l := [.slice r_l0.1.a l0.Stations.length r_l0.1.cap, .slice r_l0.2.1.a l0.Points.length r_l0.2.1.cap, .slice r_l0.2.2.1.a l0.Sections.length r_l0.2.2.1.cap, .slice r_l0.2.2.2.a l0.Links.length r_l0.2.2.2.cap]) (k := fun b1 => ?_))
  refine ow_cons (st_alloc rfl (k := fun b2 => ?_))
  refine ow_nil (hK1 _ _ ?_); clear hK1
  refine cw_seq fun K2 hK2 => ?_
  refine cw_seq fun K3 hK3 => ?_
  refine cw_region ?_
  refine ow_ev ev_move ?_
  obtain ⟨y3, hy4, hM⟩ := bind_some hM
  refine ow_cons (st_callv (fun w hm => let ⟨S, hs⟩ := hm; keep_Pick_spec _ w v0 16 y3 hy4 (lend_lt hs) ) ?_)
  refine ow_ev ev_eql ?_
  refine ow_nil (hK3 _ _ ?_); clear hK3
  refine cw_cond rfl (fun hc5 => ?_) (fun hc5 => ?_)
  ·
    replace hM := (ite_t hc5).symm.trans hM
    refine cw_seq fun K4 hK4 => ?_
    refine cw_region ?_
    refine ow_ev ev_move ?_
    obtain ⟨hI6, hM⟩ := chk_some hM
    refine ow_ev (ev_quo' (hr := fun hg => quo_ok hI6)) ?_
    refine ow_ev (ev_field_addr 2) ?_
    refine ow_ev (ev_load_own (b := b1)) ?_
    refine ow_ev ev_len ?_
    obtain ⟨hI7, hM⟩ := chk_some hM
    refine ow_ev (ev_add (hr := fun hg => i64b_I64 hI7)) ?_
    obtain ⟨y8, hy9, hM⟩ := bind_some hM
    refine ow_cons (st_callv (fun w hm => let ⟨S, hs⟩ := hm; keep_Pick_spec _ w (v0.tdiv 16) ((l0.Sections.length : Int) + 4) y8 hy9 (lend_lt hs) ) ?_)
    obtain ⟨hI10, hM⟩ := chk_some hM
    refine ow_ev (ev_sub (hr := fun hg => i64b_I64 hI10)) ?_
    refine ow_ev ev_move ?_
    obtain ⟨hI11, hM⟩ := chk_some hM
    refine ow_ev (ev_quo' (hr := fun hg => quo_ok hI11)) ?_
    obtain ⟨y12, hy13, hM⟩ := bind_some hM
    refine ow_cons (st_callv (fun w hm => let ⟨S, hs⟩ := hm; keep_Pick_spec _ w (v0.tdiv 700) 4 y12 hy13 (lend_lt hs) ) ?_)
    obtain ⟨hI14, hM⟩ := chk_some hM
    refine ow_ev (ev_sub (hr := fun hg => i64b_I64 hI14)) ?_
    refine ow_ev (ev_build [.int .i64 (y8 - 2), .int .i64 (y12 - 1)]) ?_
    refine ow_cons (st_store_all (b := b2) (vs := [.int .i64 (y8 - 2), .int .i64 (y12 - 1)]) (k := ?_))
    refine ow_nil (hK4 _ _ ?_); clear hK4
    obtain rfl := some_inj hM
    refine cw_ret (kw_retc1 (fun w hm => ret_of hm rfl))
  ·
    replace hM := (ite_f hc5).symm.trans hM
    refine cw_skip (hK2 _ _ ?_); clear hK2
    refine cw_seq fun K5 hK5 => ?_
    refine cw_region ?_
    refine ow_ev ev_move ?_
    obtain ⟨hI15, hM⟩ := chk_some hM
    refine ow_ev (ev_quo' (hr := fun hg => quo_ok hI15)) ?_
    refine ow_ev (ev_field_addr 2) ?_
    refine ow_ev (ev_load_own (b := b1)) ?_
    refine ow_ev ev_len ?_
    refine ow_ev ev_max2 ?_
    obtain ⟨y16, hy17, hM⟩ := bind_some hM
    refine ow_cons (st_callv (fun w hm => let ⟨S, hs⟩ := hm; keep_Pick_spec _ w (v0.tdiv 16) (if (l0.Sections.length : Int) > 1 then (l0.Sections.length : Int) else 1) y16 hy17 (lend_lt hs) ) ?_)
    refine ow_ev ev_move ?_
    obtain ⟨hI18, hM⟩ := chk_some hM
    refine ow_ev (ev_quo' (hr := fun hg => quo_ok hI18)) ?_
    obtain ⟨hI19, hM⟩ := chk_some hM
    refine ow_ev (ev_quo' (hr := fun hg => quo_ok hI19)) ?_
    obtain ⟨y20, hy21, hM⟩ := bind_some hM
    refine ow_cons (st_callv (fun w hm => let ⟨S, hs⟩ := hm; keep_Pick_spec _ w ((v0.tdiv 16).tdiv 97) 2 y20 hy21 (lend_lt hs) ) ?_)
    refine ow_ev (ev_build [.int .i64 y16, .int .i64 y20]) ?_
    refine ow_cons (st_store_all (b := b2) (vs := [.int .i64 y16, .int .i64 y20]) (k := ?_))
    refine ow_nil (hK5 _ _ ?_); clear hK5
    obtain rfl := some_inj hM
    refine cw_ret (kw_retc1 (fun w hm => ret_of hm rfl))

def law7_RouteGenerated_k1 (v0 : Int) (at0 : Int) (y1 : Layout) : ((List Step) × Int × (List Step) × Int) → Option Bool := fun (lr_j1_0, r_j1_1, ls_j1_0, s_j1_1) =>
  chk (decide ((([] : List Step).length + lr_j1_0.length) * 16 ≤ 140737488355328)) <|
  (keep_Pick_m v0 5).bind fun y8 =>
  chk (i64b (y8 - 1)) <|
  (keep_Pick_m at0 ((([] : List Step) ++ lr_j1_0).length : Int)).bind fun y12 =>
  (keep_Step_m y1 v0).bind fun y14 =>
  (idx (([] : List Step) ++ lr_j1_0) y12).bind fun x16 =>
  (law7_awake_m).bind fun y18 =>
  (whn y18 default (law7_cells_m y1 (Route.mk lr_j1_0 r_j1_1))).bind fun y20 =>
  (whn (y18 && y20) default (law7_resources_m y1 (Route.mk lr_j1_0 r_j1_1) (Route.mk ls_j1_0 s_j1_1))).bind fun y22 =>
  (whn ((y18 && y20) && y22) default (law7_cells_m y1 (Route.mk ((([] : List Step) ++ lr_j1_0).set y12.toNat y14) (y8 - 1)))).bind fun y24 =>
  (whn (((y18 && y20) && y22) && y24) default (law7_resources_m y1 (Route.mk ls_j1_0 s_j1_1) (Route.mk ((([] : List Step) ++ lr_j1_0).set y12.toNat y14) (y8 - 1)))).bind fun y26 =>
  some ((((y18 && y20) && y22) && y24) && y26)
def law7_RouteGenerated_m (l0 : List Int) (c0 : List Int) (d0 : List Int) (at0 : Int) (v0 : Int) : Option Bool :=
  (keep_Layout_m l0).bind fun y1 =>
  (keep_Route_m y1 c0).bind fun y28 =>
  (keep_Route_m y1 d0).bind fun y33 =>
  law7_RouteGenerated_k1 v0 at0 y1 (y28.Steps, y28.Overlap, y33.Steps, y33.Overlap)
theorem law7_RouteGenerated_spec (S : Soup) (w : World) (l0 : List Int) (r_l0 : GoRep.R (List Int)) (c0 : List Int) (r_c0 : GoRep.R (List Int)) (d0 : List Int) (r_d0 : GoRep.R (List Int)) (at0 : Int) (v0 : Int) (y : Bool) (hM : law7_RouteGenerated_m l0 c0 d0 at0 v0 = some y) (hS : ∀ k, S k → k < w.heap.size) (h_l0 : GoRep.ok S w r_l0 l0) (h_c0 : GoRep.ok S w r_c0 c0) (h_d0 : GoRep.ok S w r_d0 d0) :
    Calls Try.prog 11 #[.slice r_l0.a l0.length r_l0.cap, .slice r_c0.a c0.length r_c0.cap, .slice r_d0.a d0.length r_d0.cap, .int .i64 at0, .int .i64 v0] w (Ret w (.bool y)) := by
  refine calls_cw (args := [_, _, _, _, _]) Try.func11 rfl ((pre_nil hS).start |>.immP (α := List Int) (r := r_l0) (x := l0) h_l0|>.immP (α := List Int) (r := r_c0) (x := c0) h_c0|>.immP (α := List Int) (r := r_d0) (x := d0) h_d0) rfl ?_
  unfold law7_RouteGenerated_m at hM
  refine cw_seq fun K1 hK1 => ?_
  refine cw_region ?_
  refine ow_ev ev_assign ?_
  refine ow_nil (hK1 _ _ ?_); clear hK1
  refine cw_seq fun K2 hK2 => ?_
  refine cw_region ?_
  refine ow_ev ev_move ?_
  obtain ⟨y1, hy2, hM⟩ := bind_some hM
  refine ow_cons (st_callF SelL.nil (fun S w hs hP => keep_Layout_spec _ w l0 r_l0 y1 hy2 (lend_lt hs) (Kn.lend (Kn.imm (α := List Int) (r := r_l0) (x := l0) (by repeat (first | exact Has.head | apply Has.tail))) hs)) (by intro r c hc; simp only [List.mem_cons, List.not_mem_nil, or_false] at hc; rcases hc with rfl | rfl | rfl | rfl <;> first | exact flatC_own | exact flatC_trow (fun _ _ _ _ => trivial)) (fun r3 => ?_))
  dsimp only [List.cons_append, List.nil_append]
  refine ow_cons (st_alloc rfl (k := fun b4 => ?_))
  refine ow_cons (st_store_all (b := b4) (vs := [.slice r3.1.a y1.Stations.length r3.1.cap, .slice r3.2.1.a y1.Points.length r3.2.1.cap, .slice r3.2.2.1.a y1.Sections.length r3.2.2.1.cap, .slice r3.2.2.2.a y1.Links.length r3.2.2.2.cap]) (k := ?_))
  refine ow_nil (hK2 _ _ ?_); clear hK2
  refine cw_cut (γ := ((List Step) × Int × (List Step) × Int) × (Nat × (SR (GoRep.R Step)) × Nat × (SR (GoRep.R Step)))) (env := fun ((lr_j1_0, r_j1_1, ls_j1_0, s_j1_1), (br_j1, rr_j1_0, bs_j1, rs_j1_0)) => [(3, .v (.int .i64 at0)), (4, .v (.int .i64 v0)), (11, .v (.pointer (some ⟨b4, 0, none⟩))), (12, .v (.pointer (some ⟨br_j1, 0, none⟩))), (13, .v (.pointer (some ⟨bs_j1, 0, none⟩)))]) (mem := fun ((lr_j1_0, r_j1_1, ls_j1_0, s_j1_1), (br_j1, rr_j1_0, bs_j1, rs_j1_0)) => [trow 9 r3.1 y1.Stations, trow 9 r3.2.1 y1.Points, trow 31 r3.2.2.1 y1.Sections, trow 91 r3.2.2.2 y1.Links, own b4 28 [.slice r3.1.a y1.Stations.length r3.1.cap, .slice r3.2.1.a y1.Points.length r3.2.1.cap, .slice r3.2.2.1.a y1.Sections.length r3.2.2.1.cap, .slice r3.2.2.2.a y1.Links.length r3.2.2.2.cap], trow 40 rr_j1_0 lr_j1_0, own br_j1 48 [.slice rr_j1_0.a lr_j1_0.length rr_j1_0.cap, .int .i64 r_j1_1], trow 40 rs_j1_0 ls_j1_0, own bs_j1 48 [.slice rs_j1_0.a ls_j1_0.length rs_j1_0.cap, .int .i64 s_j1_1]]) (R := fun g => law7_RouteGenerated_k1 v0 at0 y1 g.1 = some y) ?_ ?_
  · intro KJ1 hJ1
    refine cw_region_any _ (List.Sublist.refl _) ?_
    refine aw_ev 0 rfl (ev_load_all (b := b4)) ?_
    refine aw_ev 1 rfl ev_move ?_
    refine aw_ev 3 rfl (ev_load_all (b := b4)) ?_
    refine aw_ev 4 rfl ev_move ?_
    obtain ⟨y28, hy29, hM⟩ := bind_some hM
    refine aw_three 2 6 7 (⟨_, rfl, rfl, st_callF SelL.nil (fun S w hs hP => keep_Route_spec _ w y1 r3 c0 r_c0 y28 hy29 (lend_lt hs) ⟨(Kn.lend (Kn.trow (e := 9) (r := r3.1) (by repeat (first | exact Has.head | apply Has.tail))) hs), (Kn.lend (Kn.trow (e := 9) (r := r3.2.1) (by repeat (first | exact Has.head | apply Has.tail))) hs), (Kn.lend (Kn.trow (e := 31) (r := r3.2.2.1) (by repeat (first | exact Has.head | apply Has.tail))) hs), (Kn.lend (Kn.trow (e := 91) (r := r3.2.2.2) (by repeat (first | exact Has.head | apply Has.tail))) hs)⟩ (Kn.lend (Kn.imm (α := List Int) (r := r_c0) (x := c0) (by repeat (first | exact Has.head | apply Has.tail))) hs)) (by intro r c hc; simp only [List.mem_cons, List.not_mem_nil, or_false] at hc; rcases hc with rfl <;> first | exact flatC_own | exact flatC_trow (fun _ _ _ _ => trivial)) (fun r30 => ⟨fun w hm => hm.sub (by repeat (first | exact List.Sublist.refl _ | apply List.Sublist.cons_cons | apply List.Sublist.cons)), ?_⟩)⟩) (⟨_, rfl, rfl, st_alloc rfl (k := fun b31 => ⟨fun w hm => hm.sub (by repeat (first | exact List.Sublist.refl _ | apply List.Sublist.cons_cons | apply List.Sublist.cons)), ?_⟩)⟩) (⟨_, rfl, rfl, st_alloc rfl (k := fun b32 => ⟨fun w hm => hm.sub (by repeat (first | exact List.Sublist.refl _ | apply List.Sublist.cons_cons | apply List.Sublist.cons)), ?_⟩)⟩)
    ·
      dsimp only [List.cons_append, List.nil_append]
      obtain ⟨y33, hy34, hM⟩ := bind_some hM
      refine aw_three 5 6 7 (⟨_, rfl, rfl, st_callF SelL.nil (fun S w hs hP => keep_Route_spec _ w y1 r3 d0 r_d0 y33 hy34 (lend_lt hs) ⟨(Kn.lend (Kn.trow (e := 9) (r := r3.1) (by repeat (first | exact Has.head | apply Has.tail))) hs), (Kn.lend (Kn.trow (e := 9) (r := r3.2.1) (by repeat (first | exact Has.head | apply Has.tail))) hs), (Kn.lend (Kn.trow (e := 31) (r := r3.2.2.1) (by repeat (first | exact Has.head | apply Has.tail))) hs), (Kn.lend (Kn.trow (e := 91) (r := r3.2.2.2) (by repeat (first | exact Has.head | apply Has.tail))) hs)⟩ (Kn.lend (Kn.imm (α := List Int) (r := r_d0) (x := d0) (by repeat (first | exact Has.head | apply Has.tail))) hs)) (by intro r c hc; simp only [List.mem_cons, List.not_mem_nil, or_false] at hc; rcases hc with rfl <;> first | exact flatC_own | exact flatC_trow (fun _ _ _ _ => trivial)) (fun r35 => ⟨fun w hm => hm.sub (by repeat (first | exact List.Sublist.refl _ | apply List.Sublist.cons_cons | apply List.Sublist.cons)), ?_⟩)⟩) (⟨_, rfl, rfl, st_alloc rfl (k := fun b36 => ⟨fun w hm => hm.sub (by repeat (first | exact List.Sublist.refl _ | apply List.Sublist.cons_cons | apply List.Sublist.cons)), ?_⟩)⟩) (⟨_, rfl, rfl, st_alloc rfl (k := fun b37 => ⟨fun w hm => hm.sub (by repeat (first | exact List.Sublist.refl _ | apply List.Sublist.cons_cons | apply List.Sublist.cons)), ?_⟩)⟩)
      ·
        dsimp only [List.cons_append, List.nil_append]
        refine aw_two 6 7 (⟨_, rfl, rfl, st_alloc rfl (k := fun b38 => ⟨fun w hm => hm.sub (by repeat (first | exact List.Sublist.refl _ | apply List.Sublist.cons_cons | apply List.Sublist.cons)), ?_⟩)⟩) (⟨_, rfl, rfl, st_alloc rfl (k := fun b39 => ⟨fun w hm => hm.sub (by repeat (first | exact List.Sublist.refl _ | apply List.Sublist.cons_cons | apply List.Sublist.cons)), ?_⟩)⟩)
        ·
          refine aw_one 7 rfl (st_alloc rfl (k := fun b40 => ⟨fun w hm => hm.sub (by repeat (first | exact List.Sublist.refl _ | apply List.Sublist.cons_cons | apply List.Sublist.cons)), ?_⟩))
          refine aw_one 8 rfl (st_store_all (b := b38) (vs := [.slice r30.a y28.Steps.length r30.cap, .int .i64 y28.Overlap]) (k := ⟨fun w hm => hm.sub (by repeat (first | exact List.Sublist.refl _ | apply List.Sublist.cons_cons | apply List.Sublist.cons)), ?_⟩))
          refine aw_one 9 rfl (st_store_all (b := b40) (vs := [.slice r35.a y33.Steps.length r35.cap, .int .i64 y33.Overlap]) (k := ⟨fun w hm => hm.sub (by repeat (first | exact List.Sublist.refl _ | apply List.Sublist.cons_cons | apply List.Sublist.cons)), ?_⟩))
          refine aw_done (hJ1 ((y28.Steps, y28.Overlap, y33.Steps, y33.Overlap), (b38, r30, b40, r35)) _ _ hM ⟨rfl, rfl, rfl, rfl, rfl, trivial⟩ (fun w hm => hm.reord))
        ·
          refine aw_one 6 rfl (st_alloc rfl (k := fun b41 => ⟨fun w hm => hm.sub (by repeat (first | exact List.Sublist.refl _ | apply List.Sublist.cons_cons | apply List.Sublist.cons)), ?_⟩))
          refine aw_one 8 rfl (st_store_all (b := b41) (vs := [.slice r30.a y28.Steps.length r30.cap, .int .i64 y28.Overlap]) (k := ⟨fun w hm => hm.sub (by repeat (first | exact List.Sublist.refl _ | apply List.Sublist.cons_cons | apply List.Sublist.cons)), ?_⟩))
          refine aw_one 9 rfl (st_store_all (b := b39) (vs := [.slice r35.a y33.Steps.length r35.cap, .int .i64 y33.Overlap]) (k := ⟨fun w hm => hm.sub (by repeat (first | exact List.Sublist.refl _ | apply List.Sublist.cons_cons | apply List.Sublist.cons)), ?_⟩))
          refine aw_done (hJ1 ((y28.Steps, y28.Overlap, y33.Steps, y33.Overlap), (b41, r30, b39, r35)) _ _ hM ⟨rfl, rfl, rfl, rfl, rfl, trivial⟩ (fun w hm => hm.reord))
      ·
        refine aw_two 5 7 (⟨_, rfl, rfl, st_callF SelL.nil (fun S w hs hP => keep_Route_spec _ w y1 r3 d0 r_d0 y33 hy34 (lend_lt hs) ⟨(Kn.lend (Kn.trow (e := 9) (r := r3.1) (by repeat (first | exact Has.head | apply Has.tail))) hs), (Kn.lend (Kn.trow (e := 9) (r := r3.2.1) (by repeat (first | exact Has.head | apply Has.tail))) hs), (Kn.lend (Kn.trow (e := 31) (r := r3.2.2.1) (by repeat (first | exact Has.head | apply Has.tail))) hs), (Kn.lend (Kn.trow (e := 91) (r := r3.2.2.2) (by repeat (first | exact Has.head | apply Has.tail))) hs)⟩ (Kn.lend (Kn.imm (α := List Int) (r := r_d0) (x := d0) (by repeat (first | exact Has.head | apply Has.tail))) hs)) (by intro r c hc; simp only [List.mem_cons, List.not_mem_nil, or_false] at hc; rcases hc with rfl <;> first | exact flatC_own | exact flatC_trow (fun _ _ _ _ => trivial)) (fun r42 => ⟨fun w hm => hm.sub (by repeat (first | exact List.Sublist.refl _ | apply List.Sublist.cons_cons | apply List.Sublist.cons)), ?_⟩)⟩) (⟨_, rfl, rfl, st_alloc rfl (k := fun b43 => ⟨fun w hm => hm.sub (by repeat (first | exact List.Sublist.refl _ | apply List.Sublist.cons_cons | apply List.Sublist.cons)), ?_⟩)⟩)
        ·
          dsimp only [List.cons_append, List.nil_append]
          refine aw_one 7 rfl (st_alloc rfl (k := fun b44 => ⟨fun w hm => hm.sub (by repeat (first | exact List.Sublist.refl _ | apply List.Sublist.cons_cons | apply List.Sublist.cons)), ?_⟩))
          refine aw_one 8 rfl (st_store_all (b := b36) (vs := [.slice r30.a y28.Steps.length r30.cap, .int .i64 y28.Overlap]) (k := ⟨fun w hm => hm.sub (by repeat (first | exact List.Sublist.refl _ | apply List.Sublist.cons_cons | apply List.Sublist.cons)), ?_⟩))
          refine aw_one 9 rfl (st_store_all (b := b44) (vs := [.slice r42.a y33.Steps.length r42.cap, .int .i64 y33.Overlap]) (k := ⟨fun w hm => hm.sub (by repeat (first | exact List.Sublist.refl _ | apply List.Sublist.cons_cons | apply List.Sublist.cons)), ?_⟩))
          refine aw_done (hJ1 ((y28.Steps, y28.Overlap, y33.Steps, y33.Overlap), (b36, r30, b44, r42)) _ _ hM ⟨rfl, rfl, rfl, rfl, rfl, trivial⟩ (fun w hm => hm.reord))
        ·
          refine aw_one 5 rfl (st_callF SelL.nil (fun S w hs hP => keep_Route_spec _ w y1 r3 d0 r_d0 y33 hy34 (lend_lt hs) ⟨(Kn.lend (Kn.trow (e := 9) (r := r3.1) (by repeat (first | exact Has.head | apply Has.tail))) hs), (Kn.lend (Kn.trow (e := 9) (r := r3.2.1) (by repeat (first | exact Has.head | apply Has.tail))) hs), (Kn.lend (Kn.trow (e := 31) (r := r3.2.2.1) (by repeat (first | exact Has.head | apply Has.tail))) hs), (Kn.lend (Kn.trow (e := 91) (r := r3.2.2.2) (by repeat (first | exact Has.head | apply Has.tail))) hs)⟩ (Kn.lend (Kn.imm (α := List Int) (r := r_d0) (x := d0) (by repeat (first | exact Has.head | apply Has.tail))) hs)) (by intro r c hc; simp only [List.mem_cons, List.not_mem_nil, or_false] at hc; rcases hc with rfl <;> first | exact flatC_own | exact flatC_trow (fun _ _ _ _ => trivial)) (fun r45 => ⟨fun w hm => hm.sub (by repeat (first | exact List.Sublist.refl _ | apply List.Sublist.cons_cons | apply List.Sublist.cons)), ?_⟩))
          dsimp only [List.cons_append, List.nil_append]
          refine aw_one 8 rfl (st_store_all (b := b36) (vs := [.slice r30.a y28.Steps.length r30.cap, .int .i64 y28.Overlap]) (k := ⟨fun w hm => hm.sub (by repeat (first | exact List.Sublist.refl _ | apply List.Sublist.cons_cons | apply List.Sublist.cons)), ?_⟩))
          refine aw_one 9 rfl (st_store_all (b := b43) (vs := [.slice r45.a y33.Steps.length r45.cap, .int .i64 y33.Overlap]) (k := ⟨fun w hm => hm.sub (by repeat (first | exact List.Sublist.refl _ | apply List.Sublist.cons_cons | apply List.Sublist.cons)), ?_⟩))
          refine aw_done (hJ1 ((y28.Steps, y28.Overlap, y33.Steps, y33.Overlap), (b36, r30, b43, r45)) _ _ hM ⟨rfl, rfl, rfl, rfl, rfl, trivial⟩ (fun w hm => hm.reord))
      ·
        refine aw_two 5 6 (⟨_, rfl, rfl, st_callF SelL.nil (fun S w hs hP => keep_Route_spec _ w y1 r3 d0 r_d0 y33 hy34 (lend_lt hs) ⟨(Kn.lend (Kn.trow (e := 9) (r := r3.1) (by repeat (first | exact Has.head | apply Has.tail))) hs), (Kn.lend (Kn.trow (e := 9) (r := r3.2.1) (by repeat (first | exact Has.head | apply Has.tail))) hs), (Kn.lend (Kn.trow (e := 31) (r := r3.2.2.1) (by repeat (first | exact Has.head | apply Has.tail))) hs), (Kn.lend (Kn.trow (e := 91) (r := r3.2.2.2) (by repeat (first | exact Has.head | apply Has.tail))) hs)⟩ (Kn.lend (Kn.imm (α := List Int) (r := r_d0) (x := d0) (by repeat (first | exact Has.head | apply Has.tail))) hs)) (by intro r c hc; simp only [List.mem_cons, List.not_mem_nil, or_false] at hc; rcases hc with rfl <;> first | exact flatC_own | exact flatC_trow (fun _ _ _ _ => trivial)) (fun r46 => ⟨fun w hm => hm.sub (by repeat (first | exact List.Sublist.refl _ | apply List.Sublist.cons_cons | apply List.Sublist.cons)), ?_⟩)⟩) (⟨_, rfl, rfl, st_alloc rfl (k := fun b47 => ⟨fun w hm => hm.sub (by repeat (first | exact List.Sublist.refl _ | apply List.Sublist.cons_cons | apply List.Sublist.cons)), ?_⟩)⟩)
        ·
          dsimp only [List.cons_append, List.nil_append]
          refine aw_one 6 rfl (st_alloc rfl (k := fun b48 => ⟨fun w hm => hm.sub (by repeat (first | exact List.Sublist.refl _ | apply List.Sublist.cons_cons | apply List.Sublist.cons)), ?_⟩))
          refine aw_one 8 rfl (st_store_all (b := b48) (vs := [.slice r30.a y28.Steps.length r30.cap, .int .i64 y28.Overlap]) (k := ⟨fun w hm => hm.sub (by repeat (first | exact List.Sublist.refl _ | apply List.Sublist.cons_cons | apply List.Sublist.cons)), ?_⟩))
          refine aw_one 9 rfl (st_store_all (b := b37) (vs := [.slice r46.a y33.Steps.length r46.cap, .int .i64 y33.Overlap]) (k := ⟨fun w hm => hm.sub (by repeat (first | exact List.Sublist.refl _ | apply List.Sublist.cons_cons | apply List.Sublist.cons)), ?_⟩))
          refine aw_done (hJ1 ((y28.Steps, y28.Overlap, y33.Steps, y33.Overlap), (b48, r30, b37, r46)) _ _ hM ⟨rfl, rfl, rfl, rfl, rfl, trivial⟩ (fun w hm => hm.reord))
        ·
          refine aw_one 5 rfl (st_callF SelL.nil (fun S w hs hP => keep_Route_spec _ w y1 r3 d0 r_d0 y33 hy34 (lend_lt hs) ⟨(Kn.lend (Kn.trow (e := 9) (r := r3.1) (by repeat (first | exact Has.head | apply Has.tail))) hs), (Kn.lend (Kn.trow (e := 9) (r := r3.2.1) (by repeat (first | exact Has.head | apply Has.tail))) hs), (Kn.lend (Kn.trow (e := 31) (r := r3.2.2.1) (by repeat (first | exact Has.head | apply Has.tail))) hs), (Kn.lend (Kn.trow (e := 91) (r := r3.2.2.2) (by repeat (first | exact Has.head | apply Has.tail))) hs)⟩ (Kn.lend (Kn.imm (α := List Int) (r := r_d0) (x := d0) (by repeat (first | exact Has.head | apply Has.tail))) hs)) (by intro r c hc; simp only [List.mem_cons, List.not_mem_nil, or_false] at hc; rcases hc with rfl <;> first | exact flatC_own | exact flatC_trow (fun _ _ _ _ => trivial)) (fun r49 => ⟨fun w hm => hm.sub (by repeat (first | exact List.Sublist.refl _ | apply List.Sublist.cons_cons | apply List.Sublist.cons)), ?_⟩))
          dsimp only [List.cons_append, List.nil_append]
          refine aw_one 8 rfl (st_store_all (b := b47) (vs := [.slice r30.a y28.Steps.length r30.cap, .int .i64 y28.Overlap]) (k := ⟨fun w hm => hm.sub (by repeat (first | exact List.Sublist.refl _ | apply List.Sublist.cons_cons | apply List.Sublist.cons)), ?_⟩))
          refine aw_one 9 rfl (st_store_all (b := b37) (vs := [.slice r49.a y33.Steps.length r49.cap, .int .i64 y33.Overlap]) (k := ⟨fun w hm => hm.sub (by repeat (first | exact List.Sublist.refl _ | apply List.Sublist.cons_cons | apply List.Sublist.cons)), ?_⟩))
          refine aw_done (hJ1 ((y28.Steps, y28.Overlap, y33.Steps, y33.Overlap), (b47, r30, b37, r49)) _ _ hM ⟨rfl, rfl, rfl, rfl, rfl, trivial⟩ (fun w hm => hm.reord))
    ·
      refine aw_two 2 7 (⟨_, rfl, rfl, st_callF SelL.nil (fun S w hs hP => keep_Route_spec _ w y1 r3 c0 r_c0 y28 hy29 (lend_lt hs) ⟨(Kn.lend (Kn.trow (e := 9) (r := r3.1) (by repeat (first | exact Has.head | apply Has.tail))) hs), (Kn.lend (Kn.trow (e := 9) (r := r3.2.1) (by repeat (first | exact Has.head | apply Has.tail))) hs), (Kn.lend (Kn.trow (e := 31) (r := r3.2.2.1) (by repeat (first | exact Has.head | apply Has.tail))) hs), (Kn.lend (Kn.trow (e := 91) (r := r3.2.2.2) (by repeat (first | exact Has.head | apply Has.tail))) hs)⟩ (Kn.lend (Kn.imm (α := List Int) (r := r_c0) (x := c0) (by repeat (first | exact Has.head | apply Has.tail))) hs)) (by intro r c hc; simp only [List.mem_cons, List.not_mem_nil, or_false] at hc; rcases hc with rfl <;> first | exact flatC_own | exact flatC_trow (fun _ _ _ _ => trivial)) (fun r50 => ⟨fun w hm => hm.sub (by repeat (first | exact List.Sublist.refl _ | apply List.Sublist.cons_cons | apply List.Sublist.cons)), ?_⟩)⟩) (⟨_, rfl, rfl, st_alloc rfl (k := fun b51 => ⟨fun w hm => hm.sub (by repeat (first | exact List.Sublist.refl _ | apply List.Sublist.cons_cons | apply List.Sublist.cons)), ?_⟩)⟩)
      ·
        dsimp only [List.cons_append, List.nil_append]
        obtain ⟨y52, hy53, hM⟩ := bind_some hM
        refine aw_two 5 7 (⟨_, rfl, rfl, st_callF SelL.nil (fun S w hs hP => keep_Route_spec _ w y1 r3 d0 r_d0 y52 hy53 (lend_lt hs) ⟨(Kn.lend (Kn.trow (e := 9) (r := r3.1) (by repeat (first | exact Has.head | apply Has.tail))) hs), (Kn.lend (Kn.trow (e := 9) (r := r3.2.1) (by repeat (first | exact Has.head | apply Has.tail))) hs), (Kn.lend (Kn.trow (e := 31) (r := r3.2.2.1) (by repeat (first | exact Has.head | apply Has.tail))) hs), (Kn.lend (Kn.trow (e := 91) (r := r3.2.2.2) (by repeat (first | exact Has.head | apply Has.tail))) hs)⟩ (Kn.lend (Kn.imm (α := List Int) (r := r_d0) (x := d0) (by repeat (first | exact Has.head | apply Has.tail))) hs)) (by intro r c hc; simp only [List.mem_cons, List.not_mem_nil, or_false] at hc; rcases hc with rfl <;> first | exact flatC_own | exact flatC_trow (fun _ _ _ _ => trivial)) (fun r54 => ⟨fun w hm => hm.sub (by repeat (first | exact List.Sublist.refl _ | apply List.Sublist.cons_cons | apply List.Sublist.cons)), ?_⟩)⟩) (⟨_, rfl, rfl, st_alloc rfl (k := fun b55 => ⟨fun w hm => hm.sub (by repeat (first | exact List.Sublist.refl _ | apply List.Sublist.cons_cons | apply List.Sublist.cons)), ?_⟩)⟩)
        ·
          dsimp only [List.cons_append, List.nil_append]
          refine aw_one 7 rfl (st_alloc rfl (k := fun b56 => ⟨fun w hm => hm.sub (by repeat (first | exact List.Sublist.refl _ | apply List.Sublist.cons_cons | apply List.Sublist.cons)), ?_⟩))
          refine aw_one 8 rfl (st_store_all (b := b31) (vs := [.slice r50.a y28.Steps.length r50.cap, .int .i64 y28.Overlap]) (k := ⟨fun w hm => hm.sub (by repeat (first | exact List.Sublist.refl _ | apply List.Sublist.cons_cons | apply List.Sublist.cons)), ?_⟩))
          refine aw_one 9 rfl (st_store_all (b := b56) (vs := [.slice r54.a y52.Steps.length r54.cap, .int .i64 y52.Overlap]) (k := ⟨fun w hm => hm.sub (by repeat (first | exact List.Sublist.refl _ | apply List.Sublist.cons_cons | apply List.Sublist.cons)), ?_⟩))
          refine aw_done (hJ1 ((y28.Steps, y28.Overlap, y52.Steps, y52.Overlap), (b31, r50, b56, r54)) _ _ hM ⟨rfl, rfl, rfl, rfl, rfl, trivial⟩ (fun w hm => hm.reord))
        ·
          refine aw_one 5 rfl (st_callF SelL.nil (fun S w hs hP => keep_Route_spec _ w y1 r3 d0 r_d0 y52 hy53 (lend_lt hs) ⟨(Kn.lend (Kn.trow (e := 9) (r := r3.1) (by repeat (first | exact Has.head | apply Has.tail))) hs), (Kn.lend (Kn.trow (e := 9) (r := r3.2.1) (by repeat (first | exact Has.head | apply Has.tail))) hs), (Kn.lend (Kn.trow (e := 31) (r := r3.2.2.1) (by repeat (first | exact Has.head | apply Has.tail))) hs), (Kn.lend (Kn.trow (e := 91) (r := r3.2.2.2) (by repeat (first | exact Has.head | apply Has.tail))) hs)⟩ (Kn.lend (Kn.imm (α := List Int) (r := r_d0) (x := d0) (by repeat (first | exact Has.head | apply Has.tail))) hs)) (by intro r c hc; simp only [List.mem_cons, List.not_mem_nil, or_false] at hc; rcases hc with rfl <;> first | exact flatC_own | exact flatC_trow (fun _ _ _ _ => trivial)) (fun r57 => ⟨fun w hm => hm.sub (by repeat (first | exact List.Sublist.refl _ | apply List.Sublist.cons_cons | apply List.Sublist.cons)), ?_⟩))
          dsimp only [List.cons_append, List.nil_append]
          refine aw_one 8 rfl (st_store_all (b := b31) (vs := [.slice r50.a y28.Steps.length r50.cap, .int .i64 y28.Overlap]) (k := ⟨fun w hm => hm.sub (by repeat (first | exact List.Sublist.refl _ | apply List.Sublist.cons_cons | apply List.Sublist.cons)), ?_⟩))
          refine aw_one 9 rfl (st_store_all (b := b55) (vs := [.slice r57.a y52.Steps.length r57.cap, .int .i64 y52.Overlap]) (k := ⟨fun w hm => hm.sub (by repeat (first | exact List.Sublist.refl _ | apply List.Sublist.cons_cons | apply List.Sublist.cons)), ?_⟩))
          refine aw_done (hJ1 ((y28.Steps, y28.Overlap, y52.Steps, y52.Overlap), (b31, r50, b55, r57)) _ _ hM ⟨rfl, rfl, rfl, rfl, rfl, trivial⟩ (fun w hm => hm.reord))
      ·
        refine aw_one 2 rfl (st_callF SelL.nil (fun S w hs hP => keep_Route_spec _ w y1 r3 c0 r_c0 y28 hy29 (lend_lt hs) ⟨(Kn.lend (Kn.trow (e := 9) (r := r3.1) (by repeat (first | exact Has.head | apply Has.tail))) hs), (Kn.lend (Kn.trow (e := 9) (r := r3.2.1) (by repeat (first | exact Has.head | apply Has.tail))) hs), (Kn.lend (Kn.trow (e := 31) (r := r3.2.2.1) (by repeat (first | exact Has.head | apply Has.tail))) hs), (Kn.lend (Kn.trow (e := 91) (r := r3.2.2.2) (by repeat (first | exact Has.head | apply Has.tail))) hs)⟩ (Kn.lend (Kn.imm (α := List Int) (r := r_c0) (x := c0) (by repeat (first | exact Has.head | apply Has.tail))) hs)) (by intro r c hc; simp only [List.mem_cons, List.not_mem_nil, or_false] at hc; rcases hc with rfl <;> first | exact flatC_own | exact flatC_trow (fun _ _ _ _ => trivial)) (fun r58 => ⟨fun w hm => hm.sub (by repeat (first | exact List.Sublist.refl _ | apply List.Sublist.cons_cons | apply List.Sublist.cons)), ?_⟩))
        dsimp only [List.cons_append, List.nil_append]
        obtain ⟨y59, hy60, hM⟩ := bind_some hM
        refine aw_one 5 rfl (st_callF SelL.nil (fun S w hs hP => keep_Route_spec _ w y1 r3 d0 r_d0 y59 hy60 (lend_lt hs) ⟨(Kn.lend (Kn.trow (e := 9) (r := r3.1) (by repeat (first | exact Has.head | apply Has.tail))) hs), (Kn.lend (Kn.trow (e := 9) (r := r3.2.1) (by repeat (first | exact Has.head | apply Has.tail))) hs), (Kn.lend (Kn.trow (e := 31) (r := r3.2.2.1) (by repeat (first | exact Has.head | apply Has.tail))) hs), (Kn.lend (Kn.trow (e := 91) (r := r3.2.2.2) (by repeat (first | exact Has.head | apply Has.tail))) hs)⟩ (Kn.lend (Kn.imm (α := List Int) (r := r_d0) (x := d0) (by repeat (first | exact Has.head | apply Has.tail))) hs)) (by intro r c hc; simp only [List.mem_cons, List.not_mem_nil, or_false] at hc; rcases hc with rfl <;> first | exact flatC_own | exact flatC_trow (fun _ _ _ _ => trivial)) (fun r61 => ⟨fun w hm => hm.sub (by repeat (first | exact List.Sublist.refl _ | apply List.Sublist.cons_cons | apply List.Sublist.cons)), ?_⟩))
        dsimp only [List.cons_append, List.nil_append]
        refine aw_one 8 rfl (st_store_all (b := b31) (vs := [.slice r58.a y28.Steps.length r58.cap, .int .i64 y28.Overlap]) (k := ⟨fun w hm => hm.sub (by repeat (first | exact List.Sublist.refl _ | apply List.Sublist.cons_cons | apply List.Sublist.cons)), ?_⟩))
        refine aw_one 9 rfl (st_store_all (b := b51) (vs := [.slice r61.a y59.Steps.length r61.cap, .int .i64 y59.Overlap]) (k := ⟨fun w hm => hm.sub (by repeat (first | exact List.Sublist.refl _ | apply List.Sublist.cons_cons | apply List.Sublist.cons)), ?_⟩))
        refine aw_done (hJ1 ((y28.Steps, y28.Overlap, y59.Steps, y59.Overlap), (b31, r58, b51, r61)) _ _ hM ⟨rfl, rfl, rfl, rfl, rfl, trivial⟩ (fun w hm => hm.reord))
    ·
      refine aw_two 2 6 (⟨_, rfl, rfl, st_callF SelL.nil (fun S w hs hP => keep_Route_spec _ w y1 r3 c0 r_c0 y28 hy29 (lend_lt hs) ⟨(Kn.lend (Kn.trow (e := 9) (r := r3.1) (by repeat (first | exact Has.head | apply Has.tail))) hs), (Kn.lend (Kn.trow (e := 9) (r := r3.2.1) (by repeat (first | exact Has.head | apply Has.tail))) hs), (Kn.lend (Kn.trow (e := 31) (r := r3.2.2.1) (by repeat (first | exact Has.head | apply Has.tail))) hs), (Kn.lend (Kn.trow (e := 91) (r := r3.2.2.2) (by repeat (first | exact Has.head | apply Has.tail))) hs)⟩ (Kn.lend (Kn.imm (α := List Int) (r := r_c0) (x := c0) (by repeat (first | exact Has.head | apply Has.tail))) hs)) (by intro r c hc; simp only [List.mem_cons, List.not_mem_nil, or_false] at hc; rcases hc with rfl <;> first | exact flatC_own | exact flatC_trow (fun _ _ _ _ => trivial)) (fun r62 => ⟨fun w hm => hm.sub (by repeat (first | exact List.Sublist.refl _ | apply List.Sublist.cons_cons | apply List.Sublist.cons)), ?_⟩)⟩) (⟨_, rfl, rfl, st_alloc rfl (k := fun b63 => ⟨fun w hm => hm.sub (by repeat (first | exact List.Sublist.refl _ | apply List.Sublist.cons_cons | apply List.Sublist.cons)), ?_⟩)⟩)
      ·
        dsimp only [List.cons_append, List.nil_append]
        obtain ⟨y64, hy65, hM⟩ := bind_some hM
        refine aw_two 5 6 (⟨_, rfl, rfl, st_callF SelL.nil (fun S w hs hP => keep_Route_spec _ w y1 r3 d0 r_d0 y64 hy65 (lend_lt hs) ⟨(Kn.lend (Kn.trow (e := 9) (r := r3.1) (by repeat (first | exact Has.head | apply Has.tail))) hs), (Kn.lend (Kn.trow (e := 9) (r := r3.2.1) (by repeat (first | exact Has.head | apply Has.tail))) hs), (Kn.lend (Kn.trow (e := 31) (r := r3.2.2.1) (by repeat (first | exact Has.head | apply Has.tail))) hs), (Kn.lend (Kn.trow (e := 91) (r := r3.2.2.2) (by repeat (first | exact Has.head | apply Has.tail))) hs)⟩ (Kn.lend (Kn.imm (α := List Int) (r := r_d0) (x := d0) (by repeat (first | exact Has.head | apply Has.tail))) hs)) (by intro r c hc; simp only [List.mem_cons, List.not_mem_nil, or_false] at hc; rcases hc with rfl <;> first | exact flatC_own | exact flatC_trow (fun _ _ _ _ => trivial)) (fun r66 => ⟨fun w hm => hm.sub (by repeat (first | exact List.Sublist.refl _ | apply List.Sublist.cons_cons | apply List.Sublist.cons)), ?_⟩)⟩) (⟨_, rfl, rfl, st_alloc rfl (k := fun b67 => ⟨fun w hm => hm.sub (by repeat (first | exact List.Sublist.refl _ | apply List.Sublist.cons_cons | apply List.Sublist.cons)), ?_⟩)⟩)
        ·
          dsimp only [List.cons_append, List.nil_append]
          refine aw_one 6 rfl (st_alloc rfl (k := fun b68 => ⟨fun w hm => hm.sub (by repeat (first | exact List.Sublist.refl _ | apply List.Sublist.cons_cons | apply List.Sublist.cons)), ?_⟩))
          refine aw_one 8 rfl (st_store_all (b := b68) (vs := [.slice r62.a y28.Steps.length r62.cap, .int .i64 y28.Overlap]) (k := ⟨fun w hm => hm.sub (by repeat (first | exact List.Sublist.refl _ | apply List.Sublist.cons_cons | apply List.Sublist.cons)), ?_⟩))
          refine aw_one 9 rfl (st_store_all (b := b32) (vs := [.slice r66.a y64.Steps.length r66.cap, .int .i64 y64.Overlap]) (k := ⟨fun w hm => hm.sub (by repeat (first | exact List.Sublist.refl _ | apply List.Sublist.cons_cons | apply List.Sublist.cons)), ?_⟩))
          refine aw_done (hJ1 ((y28.Steps, y28.Overlap, y64.Steps, y64.Overlap), (b68, r62, b32, r66)) _ _ hM ⟨rfl, rfl, rfl, rfl, rfl, trivial⟩ (fun w hm => hm.reord))
        ·
          refine aw_one 5 rfl (st_callF SelL.nil (fun S w hs hP => keep_Route_spec _ w y1 r3 d0 r_d0 y64 hy65 (lend_lt hs) ⟨(Kn.lend (Kn.trow (e := 9) (r := r3.1) (by repeat (first | exact Has.head | apply Has.tail))) hs), (Kn.lend (Kn.trow (e := 9) (r := r3.2.1) (by repeat (first | exact Has.head | apply Has.tail))) hs), (Kn.lend (Kn.trow (e := 31) (r := r3.2.2.1) (by repeat (first | exact Has.head | apply Has.tail))) hs), (Kn.lend (Kn.trow (e := 91) (r := r3.2.2.2) (by repeat (first | exact Has.head | apply Has.tail))) hs)⟩ (Kn.lend (Kn.imm (α := List Int) (r := r_d0) (x := d0) (by repeat (first | exact Has.head | apply Has.tail))) hs)) (by intro r c hc; simp only [List.mem_cons, List.not_mem_nil, or_false] at hc; rcases hc with rfl <;> first | exact flatC_own | exact flatC_trow (fun _ _ _ _ => trivial)) (fun r69 => ⟨fun w hm => hm.sub (by repeat (first | exact List.Sublist.refl _ | apply List.Sublist.cons_cons | apply List.Sublist.cons)), ?_⟩))
          dsimp only [List.cons_append, List.nil_append]
          refine aw_one 8 rfl (st_store_all (b := b67) (vs := [.slice r62.a y28.Steps.length r62.cap, .int .i64 y28.Overlap]) (k := ⟨fun w hm => hm.sub (by repeat (first | exact List.Sublist.refl _ | apply List.Sublist.cons_cons | apply List.Sublist.cons)), ?_⟩))
          refine aw_one 9 rfl (st_store_all (b := b32) (vs := [.slice r69.a y64.Steps.length r69.cap, .int .i64 y64.Overlap]) (k := ⟨fun w hm => hm.sub (by repeat (first | exact List.Sublist.refl _ | apply List.Sublist.cons_cons | apply List.Sublist.cons)), ?_⟩))
          refine aw_done (hJ1 ((y28.Steps, y28.Overlap, y64.Steps, y64.Overlap), (b67, r62, b32, r69)) _ _ hM ⟨rfl, rfl, rfl, rfl, rfl, trivial⟩ (fun w hm => hm.reord))
      ·
        refine aw_one 2 rfl (st_callF SelL.nil (fun S w hs hP => keep_Route_spec _ w y1 r3 c0 r_c0 y28 hy29 (lend_lt hs) ⟨(Kn.lend (Kn.trow (e := 9) (r := r3.1) (by repeat (first | exact Has.head | apply Has.tail))) hs), (Kn.lend (Kn.trow (e := 9) (r := r3.2.1) (by repeat (first | exact Has.head | apply Has.tail))) hs), (Kn.lend (Kn.trow (e := 31) (r := r3.2.2.1) (by repeat (first | exact Has.head | apply Has.tail))) hs), (Kn.lend (Kn.trow (e := 91) (r := r3.2.2.2) (by repeat (first | exact Has.head | apply Has.tail))) hs)⟩ (Kn.lend (Kn.imm (α := List Int) (r := r_c0) (x := c0) (by repeat (first | exact Has.head | apply Has.tail))) hs)) (by intro r c hc; simp only [List.mem_cons, List.not_mem_nil, or_false] at hc; rcases hc with rfl <;> first | exact flatC_own | exact flatC_trow (fun _ _ _ _ => trivial)) (fun r70 => ⟨fun w hm => hm.sub (by repeat (first | exact List.Sublist.refl _ | apply List.Sublist.cons_cons | apply List.Sublist.cons)), ?_⟩))
        dsimp only [List.cons_append, List.nil_append]
        obtain ⟨y71, hy72, hM⟩ := bind_some hM
        refine aw_one 5 rfl (st_callF SelL.nil (fun S w hs hP => keep_Route_spec _ w y1 r3 d0 r_d0 y71 hy72 (lend_lt hs) ⟨(Kn.lend (Kn.trow (e := 9) (r := r3.1) (by repeat (first | exact Has.head | apply Has.tail))) hs), (Kn.lend (Kn.trow (e := 9) (r := r3.2.1) (by repeat (first | exact Has.head | apply Has.tail))) hs), (Kn.lend (Kn.trow (e := 31) (r := r3.2.2.1) (by repeat (first | exact Has.head | apply Has.tail))) hs), (Kn.lend (Kn.trow (e := 91) (r := r3.2.2.2) (by repeat (first | exact Has.head | apply Has.tail))) hs)⟩ (Kn.lend (Kn.imm (α := List Int) (r := r_d0) (x := d0) (by repeat (first | exact Has.head | apply Has.tail))) hs)) (by intro r c hc; simp only [List.mem_cons, List.not_mem_nil, or_false] at hc; rcases hc with rfl <;> first | exact flatC_own | exact flatC_trow (fun _ _ _ _ => trivial)) (fun r73 => ⟨fun w hm => hm.sub (by repeat (first | exact List.Sublist.refl _ | apply List.Sublist.cons_cons | apply List.Sublist.cons)), ?_⟩))
        dsimp only [List.cons_append, List.nil_append]
        refine aw_one 8 rfl (st_store_all (b := b63) (vs := [.slice r70.a y28.Steps.length r70.cap, .int .i64 y28.Overlap]) (k := ⟨fun w hm => hm.sub (by repeat (first | exact List.Sublist.refl _ | apply List.Sublist.cons_cons | apply List.Sublist.cons)), ?_⟩))
        refine aw_one 9 rfl (st_store_all (b := b32) (vs := [.slice r73.a y71.Steps.length r73.cap, .int .i64 y71.Overlap]) (k := ⟨fun w hm => hm.sub (by repeat (first | exact List.Sublist.refl _ | apply List.Sublist.cons_cons | apply List.Sublist.cons)), ?_⟩))
        refine aw_done (hJ1 ((y28.Steps, y28.Overlap, y71.Steps, y71.Overlap), (b63, r70, b32, r73)) _ _ hM ⟨rfl, rfl, rfl, rfl, rfl, trivial⟩ (fun w hm => hm.reord))
  ·
    clear hM
    intro g hM
    obtain ⟨⟨lr_j1_0, r_j1_1, ls_j1_0, s_j1_1⟩, ⟨br_j1, rr_j1_0, bs_j1, rs_j1_0⟩⟩ := g
    dsimp only at hM ⊢
    dsimp only [law7_RouteGenerated_k1] at hM
    refine cw_seq fun K3 hK3 => ?_
    refine cw_region ?_
    refine ow_ev (ev_field_addr 0) ?_
    refine ow_ev (ev_load_own (b := br_j1)) ?_
    refine ow_imp (fun w hm => hm.row_nil (α := Step) 40 (fun _ => ())) ?_
    obtain ⟨hb6, hM⟩ := chk_some hM
    refine ow_cons (st_append (r := (⟨none, 0, (fun _ => ())⟩ : SR (GoRep.R Step) )) (r2 := rr_j1_0) (by intro r'; repeat (first | exact Upd.head | apply Upd.tail)) (Kn.trow (e := 40) (r := rr_j1_0) (by repeat (first | exact Has.head | apply Has.tail))) (OkL.flat (fun _ _ _ _ => trivial)) (of_decide_eq_true hb6) (fun r7 => ?_))
    refine ow_ev ev_move ?_
    obtain ⟨y8, hy9, hM⟩ := bind_some hM
    refine ow_cons (st_callv (fun w hm => let ⟨S, hs⟩ := hm; keep_Pick_spec _ w v0 5 y8 hy9 (lend_lt hs) ) ?_)
    obtain ⟨hI10, hM⟩ := chk_some hM
    refine ow_ev (ev_sub (hr := fun hg => i64b_I64 hI10)) ?_
    refine ow_ev (ev_build [.slice r7.a ((([] : List Step) ++ lr_j1_0).length) r7.cap, .int .i64 (y8 - 1)]) ?_
    refine ow_cons (st_alloc rfl (k := fun b11 => ?_))
    refine ow_cons (st_store_all (b := b11) (vs := [.slice r7.a ((([] : List Step) ++ lr_j1_0).length) r7.cap, .int .i64 (y8 - 1)]) (k := ?_))
    refine ow_nil (hK3 _ _ ?_); clear hK3
    refine cw_seq fun K4 hK4 => ?_
    refine cw_region_z [own b11 48 [.slice r7.a ((([] : List Step) ++ lr_j1_0).length) r7.cap, .int .i64 (y8 - 1)], trow 40 r7 (([] : List Step) ++ lr_j1_0), trow 9 r3.1 y1.Stations, trow 9 r3.2.1 y1.Points, trow 31 r3.2.2.1 y1.Sections, trow 91 r3.2.2.2 y1.Links, own b4 28 [.slice r3.1.a y1.Stations.length r3.1.cap, .slice r3.2.1.a y1.Points.length r3.2.1.cap, .slice r3.2.2.1.a y1.Sections.length r3.2.2.1.cap, .slice r3.2.2.2.a y1.Links.length r3.2.2.2.cap], trow 40 rr_j1_0 lr_j1_0, own br_j1 48 [.slice rr_j1_0.a lr_j1_0.length rr_j1_0.cap, .int .i64 r_j1_1], trow 40 rs_j1_0 ls_j1_0, own bs_j1 48 [.slice rs_j1_0.a ls_j1_0.length rs_j1_0.cap, .int .i64 s_j1_1]] 11 ?_
    refine az_ev 0 rfl (ev_field_addr 0) ?_
    refine az_ev 1 rfl (ev_load_own (b := b11)) ?_
    refine az_ev 2 rfl ev_move ?_
    refine az_ev 3 rfl (ev_field_addr 0) ?_
    refine az_ev 4 rfl (ev_load_own (b := b11)) ?_
    refine az_ev 5 rfl ev_len ?_
    refine az_ev 7 rfl (ev_load_all (b := b4)) ?_
    refine az_ev 8 rfl ev_move ?_
    obtain ⟨y12, hy13, hM⟩ := bind_some hM
    refine az_one 6 rfl (st_callv (fun w hm => let ⟨S, hs⟩ := hm; keep_Pick_spec _ w at0 ((([] : List Step) ++ lr_j1_0).length : Int) y12 hy13 (lend_lt hs) ) ⟨fun w hm => hm.sub (by repeat (first | exact List.Sublist.refl _ | apply List.Sublist.cons_cons | apply List.Sublist.cons)), ?_⟩)
    obtain ⟨y14, hy15, hM⟩ := bind_some hM
    refine az_one 9 rfl (st_callv (fun w hm => let ⟨S, hs⟩ := hm; keep_Step_spec _ w y1 r3 v0 y14 hy15 (lend_lt hs) ⟨(Kn.lend (Kn.trow (e := 9) (r := r3.1) (by repeat (first | exact Has.head | apply Has.tail))) hs), (Kn.lend (Kn.trow (e := 9) (r := r3.2.1) (by repeat (first | exact Has.head | apply Has.tail))) hs), (Kn.lend (Kn.trow (e := 31) (r := r3.2.2.1) (by repeat (first | exact Has.head | apply Has.tail))) hs), (Kn.lend (Kn.trow (e := 91) (r := r3.2.2.2) (by repeat (first | exact Has.head | apply Has.tail))) hs)⟩) ⟨fun w hm => hm.sub (by repeat (first | exact List.Sublist.refl _ | apply List.Sublist.cons_cons | apply List.Sublist.cons)), ?_⟩)
    obtain ⟨x16, hx17, hM⟩ := bind_some hM
    refine az_ev 10 rfl (ev_idx (xs := (([] : List Step) ++ lr_j1_0)) 2 (Kn.trow (e := 40) (r := r7) (by repeat (first | exact Has.head | apply Has.tail))) (fun hg => let h := idx_some hx17; ⟨h.1, h.2.1⟩)) ?_
    refine az_last rfl (st_set (r := r7) (i := y12) (xs := (([] : List Step) ++ lr_j1_0)) (u := x16) (vs := [.int .i64 y14.Section, .int .i64 y14.Dir]) 0 y14 hx17 rfl (fun _ _ h => h) (by repeat (first | exact Upd.head | apply Upd.tail)) ?_)
    refine az_done (hK4 _ _ ?_); clear hK4
    refine cw_seq fun K5 hK5 => ?_
    refine cw_region ?_
    obtain ⟨y18, hy19, hM⟩ := bind_some hM
    refine ow_cons (st_callv (fun w hm => let ⟨S, hs⟩ := hm; law7_awake_spec _ w  y18 hy19 (lend_lt hs) ) ?_)
    refine ow_ev ev_move ?_
    refine ow_evg rfl (ev_load_all (b := b4)) ?_
    refine ow_evg rfl (ev_load_all (b := br_j1)) ?_
    obtain ⟨y20, hy21, hM⟩ := bind_some hM
    refine ow_callg rfl (fun hg w hm => let ⟨S, hs⟩ := hm; law7_cells_spec _ w y1 r3 (Route.mk lr_j1_0 r_j1_1) rr_j1_0 y20 (whn_some hy21 hg) (lend_lt hs) ⟨(Kn.lend (Kn.trow (e := 9) (r := r3.1) (by repeat (first | exact Has.head | apply Has.tail))) hs), (Kn.lend (Kn.trow (e := 9) (r := r3.2.1) (by repeat (first | exact Has.head | apply Has.tail))) hs), (Kn.lend (Kn.trow (e := 31) (r := r3.2.2.1) (by repeat (first | exact Has.head | apply Has.tail))) hs), (Kn.lend (Kn.trow (e := 91) (r := r3.2.2.2) (by repeat (first | exact Has.head | apply Has.tail))) hs)⟩ (Kn.lend (Kn.trow (e := 40) (r := rr_j1_0) (by repeat (first | exact Has.head | apply Has.tail))) hs)) ?_
    refine ow_ev ev_and ?_
    refine ow_ev ev_move ?_
    refine ow_evg rfl (ev_load_all (b := b4)) ?_
    refine ow_evg rfl (ev_load_all (b := br_j1)) ?_
    refine ow_evg rfl (ev_load_all (b := bs_j1)) ?_
    obtain ⟨y22, hy23, hM⟩ := bind_some hM
    refine ow_callg rfl (fun hg w hm => let ⟨S, hs⟩ := hm; law7_resources_spec _ w y1 r3 (Route.mk lr_j1_0 r_j1_1) rr_j1_0 (Route.mk ls_j1_0 s_j1_1) rs_j1_0 y22 (whn_some hy23 hg) (lend_lt hs) ⟨(Kn.lend (Kn.trow (e := 9) (r := r3.1) (by repeat (first | exact Has.head | apply Has.tail))) hs), (Kn.lend (Kn.trow (e := 9) (r := r3.2.1) (by repeat (first | exact Has.head | apply Has.tail))) hs), (Kn.lend (Kn.trow (e := 31) (r := r3.2.2.1) (by repeat (first | exact Has.head | apply Has.tail))) hs), (Kn.lend (Kn.trow (e := 91) (r := r3.2.2.2) (by repeat (first | exact Has.head | apply Has.tail))) hs)⟩ (Kn.lend (Kn.trow (e := 40) (r := rr_j1_0) (by repeat (first | exact Has.head | apply Has.tail))) hs) (Kn.lend (Kn.trow (e := 40) (r := rs_j1_0) (by repeat (first | exact Has.head | apply Has.tail))) hs)) ?_
    refine ow_ev ev_and ?_
    refine ow_ev ev_move ?_
    refine ow_evg rfl (ev_load_all (b := b4)) ?_
    refine ow_evg rfl (ev_load_all (b := b11)) ?_
    refine ow_sameE 55 (e' := .c ((y18 && y20) && y22) (.agg #[.slice r7.a (((([] : List Step) ++ lr_j1_0).set y12.toNat y14).length) r7.cap, .int .i64 (y8 - 1)])) rfl (by simp only [List.length_set]) ?_
    obtain ⟨y24, hy25, hM⟩ := bind_some hM
    refine ow_callg rfl (fun hg w hm => let ⟨S, hs⟩ := hm; law7_cells_spec _ w y1 r3 (Route.mk ((([] : List Step) ++ lr_j1_0).set y12.toNat y14) (y8 - 1)) r7 y24 (whn_some hy25 hg) (lend_lt hs) ⟨(Kn.lend (Kn.trow (e := 9) (r := r3.1) (by repeat (first | exact Has.head | apply Has.tail))) hs), (Kn.lend (Kn.trow (e := 9) (r := r3.2.1) (by repeat (first | exact Has.head | apply Has.tail))) hs), (Kn.lend (Kn.trow (e := 31) (r := r3.2.2.1) (by repeat (first | exact Has.head | apply Has.tail))) hs), (Kn.lend (Kn.trow (e := 91) (r := r3.2.2.2) (by repeat (first | exact Has.head | apply Has.tail))) hs)⟩ (Kn.lend (Kn.trow (e := 40) (r := r7) (by repeat (first | exact Has.head | apply Has.tail))) hs)) ?_
    refine ow_ev ev_and ?_
    refine ow_ev ev_move ?_
    refine ow_evg rfl (ev_load_all (b := b4)) ?_
    refine ow_evg rfl (ev_load_all (b := bs_j1)) ?_
    refine ow_evg rfl (ev_load_all (b := b11)) ?_
    refine ow_sameE 61 (e' := .c (((y18 && y20) && y22) && y24) (.agg #[.slice r7.a (((([] : List Step) ++ lr_j1_0).set y12.toNat y14).length) r7.cap, .int .i64 (y8 - 1)])) rfl (by simp only [List.length_set]) ?_
    obtain ⟨y26, hy27, hM⟩ := bind_some hM
    refine ow_callg rfl (fun hg w hm => let ⟨S, hs⟩ := hm; law7_resources_spec _ w y1 r3 (Route.mk ls_j1_0 s_j1_1) rs_j1_0 (Route.mk ((([] : List Step) ++ lr_j1_0).set y12.toNat y14) (y8 - 1)) r7 y26 (whn_some hy27 hg) (lend_lt hs) ⟨(Kn.lend (Kn.trow (e := 9) (r := r3.1) (by repeat (first | exact Has.head | apply Has.tail))) hs), (Kn.lend (Kn.trow (e := 9) (r := r3.2.1) (by repeat (first | exact Has.head | apply Has.tail))) hs), (Kn.lend (Kn.trow (e := 31) (r := r3.2.2.1) (by repeat (first | exact Has.head | apply Has.tail))) hs), (Kn.lend (Kn.trow (e := 91) (r := r3.2.2.2) (by repeat (first | exact Has.head | apply Has.tail))) hs)⟩ (Kn.lend (Kn.trow (e := 40) (r := rs_j1_0) (by repeat (first | exact Has.head | apply Has.tail))) hs) (Kn.lend (Kn.trow (e := 40) (r := r7) (by repeat (first | exact Has.head | apply Has.tail))) hs)) ?_
    refine ow_ev ev_and ?_
    refine ow_ev ev_assign ?_
    refine ow_nil (hK5 _ _ ?_); clear hK5
    obtain rfl := some_inj hM
    refine cw_ret (kw_retc1 (fun w hm => ret_of hm rfl))

end Go.Proofs.Ytnihhidbiepnhaa
