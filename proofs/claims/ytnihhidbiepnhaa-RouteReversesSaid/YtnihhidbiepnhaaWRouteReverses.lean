/- Models of functions, and that the code computes them. -/
import Derived.Test.YtnihhidbiepnhaaRf
import Derived.Test.YtnihhidbiepnhaaRl
import Derived.Test.YtnihhidbiepnhaaRm
import Derived.Test.YtnihhidbiepnhaaRn
namespace Go.Proofs.Ytnihhidbiepnhaa
open Go.Dc Go.RowKit
set_option maxRecDepth 10000
set_option linter.unusedVariables false
def ref1_Reverse_m (s0 : Step) : Option Step :=
  if decide (s0.Dir = 0) then
    (some (Step.mk s0.Section 1))
  else
    (some (Step.mk s0.Section 0))
theorem ref1_Reverse_spec (S : Soup) (w : World) (s0 : Step) (y : Step) (hM : ref1_Reverse_m s0 = some y) (hS : ∀ k, S k → k < w.heap.size)  :
    Calls Try.prog 30 #[.agg #[.int .i64 s0.Section, .int .i64 s0.Dir]] w (Ret w (.agg #[.int .i64 y.Section, .int .i64 y.Dir])) := by
  refine calls_cw (args := [_]) Try.func30 rfl ((pre_nil hS).start) rfl ?_
  unfold ref1_Reverse_m at hM
  refine cw_seq fun K1 hK1 => ?_
  refine cw_region ?_
  refine ow_cons (st_box (l := [.int .i64 s0.Section, .int .i64 s0.Dir]) (k := fun b1 => ?_))
  refine ow_cons (st_alloc rfl (k := fun b2 => ?_))
  refine ow_nil (hK1 _ _ ?_); clear hK1
  refine cw_seq fun K2 hK2 => ?_
  refine cw_seq fun K3 hK3 => ?_
  refine cw_region ?_
  refine ow_ev (ev_field_addr 1) ?_
  refine ow_ev (ev_load_own (b := b1)) ?_
  refine ow_ev ev_eql ?_
  refine ow_nil (hK3 _ _ ?_); clear hK3
  refine cw_cond rfl (fun hc3 => ?_) (fun hc3 => ?_)
  ·
    replace hM := (ite_t hc3).symm.trans hM
    refine cw_seq fun K4 hK4 => ?_
    refine cw_region ?_
    refine ow_ev (ev_field_addr 0) ?_
    refine ow_ev (ev_load_own (b := b1)) ?_
    refine ow_ev (ev_build [.int .i64 s0.Section, .int .i64 1]) ?_
    refine ow_cons (st_store_all (b := b2) (vs := [.int .i64 s0.Section, .int .i64 1]) (k := ?_))
    refine ow_nil (hK4 _ _ ?_); clear hK4
    obtain rfl := some_inj hM
    refine cw_ret (kw_retc1 (fun w hm => ret_of hm rfl))
  ·
    replace hM := (ite_f hc3).symm.trans hM
    refine cw_skip (hK2 _ _ ?_); clear hK2
    refine cw_seq fun K5 hK5 => ?_
    refine cw_region ?_
    refine ow_ev (ev_field_addr 0) ?_
    refine ow_ev (ev_load_own (b := b1)) ?_
    refine ow_ev (ev_build [.int .i64 s0.Section, .int .i64 0]) ?_
    refine ow_cons (st_store_all (b := b2) (vs := [.int .i64 s0.Section, .int .i64 0]) (k := ?_))
    refine ow_nil (hK5 _ _ ?_); clear hK5
    obtain rfl := some_inj hM
    refine cw_ret (kw_retc1 (fun w hm => ret_of hm rfl))

def law7_RouteReverses_k1 (y5 : Route) (y1 : Layout) (lback_1_0 : List Step) : Unit → Option Bool := fun _ =>
  if decide ((y5.Steps.length : Int) < 2) then
    ((law7_awake_m).bind fun y22 =>
    (whn y22 default (route_Check_m y1 (Route.mk lback_1_0 0))).bind fun y24 =>
    some (y22 && decide (y24 = 4)))
  else
    ((route_Resources_m y1 (Route.mk y5.Steps 0)).bind fun y26 =>
    (route_Resources_m y1 (Route.mk lback_1_0 0)).bind fun y29 =>
    (law7_awake_m).bind fun y32 =>
    (whn y32 default (route_Check_m y1 (Route.mk lback_1_0 0))).bind fun y34 =>
    (whn (((y32 && decide (y34 = 0)) && decide (y26.2 = 0)) && decide (y29.2 = 0)) default (keep_Same_int_m y26.1 y29.1)).bind fun y36 =>
    some ((((y32 && decide (y34 = 0)) && decide (y26.2 = 0)) && decide (y29.2 = 0)) && y36))
def law7_RouteReverses_b1 (y5 : Route) (y1 : Layout) (cont1 : ((List Step) × Int) → Option Bool) : ((List Step) × Int) → Option Bool := fun (lback_1_0, i_1) =>
  if decide (0 ≤ i_1) then
    ((idx y5.Steps i_1).bind fun x13 =>
    (ref1_Reverse_m x13).bind fun y15 =>
    chk (decide ((lback_1_0.length + ([y15] : List Step).length) * 16 ≤ 140737488355328)) <|
    chk (i64b (i_1 - 1)) <|
    cont1 ((lback_1_0 ++ ([y15] : List Step)), (i_1 - 1)))
  else
    (law7_RouteReverses_k1 y5 y1 lback_1_0 ())
def law7_RouteReverses_m (l0 : List Int) (c0 : List Int) : Option Bool :=
  (keep_Layout_m l0).bind fun y1 =>
  (keep_Route_m y1 c0).bind fun y5 =>
  chk (i64b ((y5.Steps.length : Int) - 1)) <|
  iter (law7_RouteReverses_b1 y5 y1) FUEL (([] : List Step), ((y5.Steps.length : Int) - 1))
theorem law7_RouteReverses_spec (S : Soup) (w : World) (l0 : List Int) (r_l0 : GoRep.R (List Int)) (c0 : List Int) (r_c0 : GoRep.R (List Int)) (y : Bool) (hM : law7_RouteReverses_m l0 c0 = some y) (hS : ∀ k, S k → k < w.heap.size) (h_l0 : GoRep.ok S w r_l0 l0) (h_c0 : GoRep.ok S w r_c0 c0) :
    Calls Try.prog 8 #[.slice r_l0.a l0.length r_l0.cap, .slice r_c0.a c0.length r_c0.cap] w (Ret w (.bool y)) := by
  refine calls_cw (args := [_, _]) Try.func8 rfl ((pre_nil hS).start |>.immP (α := List Int) (r := r_l0) (x := l0) h_l0|>.immP (α := List Int) (r := r_c0) (x := c0) h_c0) rfl ?_
  unfold law7_RouteReverses_m at hM
  refine cw_seq fun K1 hK1 => ?_
  refine cw_region ?_
  refine ow_ev ev_assign ?_
  refine ow_nil (hK1 _ _ ?_); clear hK1
  refine cw_seq fun K2 hK2 => ?_
  refine cw_region ?_
  refine ow_ev ev_move ?_
  obtain ⟨y1, hy2, hM⟩ := bind_some hM
  refine ow_cons (st_callF SelL.nil (fun S w hs hP => keep_Layout_spec _ w l0 r_l0 y1 hy2 (lend_lt hs) (Kn.lend (Kn.imm (α := List Int) (r := r_l0) (x := l0) (by repeat (first | exact Has.head | apply Has.tail))) hs)) (by intro r c hc; simp only [List.mem_cons, List.not_mem_nil, or_false] at hc; rcases hc with rfl | rfl | rfl | rfl <;> first | exact flatC_own | exact flatC_trow (fun _ _ _ _ => trivial)) (fun r3 => ?_))
  dsimp only [List.cons_append, List.nil_append]
  refine ow_cons (st_alloc rfl (k := fun b4 => ?_))
  refine ow_cons (st_store_all (b := b4) (vs := [.slice r3.1.a y1.Stations.length r3.1.cap, .slice r3.2.1.a y1.Points.length r3.2.1.cap, .slice r3.2.2.1.a y1.Sections.length r3.2.2.1.cap, .slice r3.2.2.2.a y1.Links.length r3.2.2.2.cap]) (k := ?_))
  refine ow_nil (hK2 _ _ ?_); clear hK2
  refine cw_seq fun K3 hK3 => ?_
  refine cw_region ?_
  refine ow_ev (ev_load_all (b := b4)) ?_
  refine ow_ev ev_move ?_
  obtain ⟨y5, hy6, hM⟩ := bind_some hM
  refine ow_cons (st_callF SelL.nil (fun S w hs hP => keep_Route_spec _ w y1 r3 c0 r_c0 y5 hy6 (lend_lt hs) ⟨(Kn.lend (Kn.trow (e := 9) (r := r3.1) (by repeat (first | exact Has.head | apply Has.tail))) hs), (Kn.lend (Kn.trow (e := 9) (r := r3.2.1) (by repeat (first | exact Has.head | apply Has.tail))) hs), (Kn.lend (Kn.trow (e := 31) (r := r3.2.2.1) (by repeat (first | exact Has.head | apply Has.tail))) hs), (Kn.lend (Kn.trow (e := 91) (r := r3.2.2.2) (by repeat (first | exact Has.head | apply Has.tail))) hs)⟩ (Kn.lend (Kn.imm (α := List Int) (r := r_c0) (x := c0) (by repeat (first | exact Has.head | apply Has.tail))) hs)) (by intro r c hc; simp only [List.mem_cons, List.not_mem_nil, or_false] at hc; rcases hc with rfl <;> first | exact flatC_own | exact flatC_trow (fun _ _ _ _ => trivial)) (fun r7 => ?_))
  dsimp only [List.cons_append, List.nil_append]
  refine ow_cons (st_alloc rfl (k := fun b8 => ?_))
  refine ow_cons (st_store_all (b := b8) (vs := [.slice r7.a y5.Steps.length r7.cap, .int .i64 y5.Overlap]) (k := ?_))
  refine ow_nil (hK3 _ _ ?_); clear hK3
  refine cw_seq fun K4 hK4 => ?_
  refine cw_region ?_
  refine ow_ev (ev_field_addr 1) ?_
  refine ow_cons (st_store_own (b := b8) (l' := [.slice r7.a y5.Steps.length r7.cap, .int .i64 0]) (k := ?_))
  refine ow_nil (hK4 _ _ ?_); clear hK4
  refine cw_seq fun K5 hK5 => ?_
  refine cw_region ?_
  refine ow_cons (st_alloc rfl (k := fun b9 => ?_))
  refine ow_nil (hK5 _ _ ?_); clear hK5
  refine cw_seq fun K6 hK6 => ?_
  refine cw_seq fun K7 hK7 => ?_
  refine cw_region ?_
  refine ow_ev (ev_field_addr 0) ?_
  refine ow_ev (ev_load_own (b := b8)) ?_
  refine ow_ev ev_len ?_
  obtain ⟨hI10, hM⟩ := chk_some hM
  refine ow_ev (ev_sub (hr := fun hg => i64b_I64 hI10)) ?_
  refine ow_ev ev_assign ?_
  refine ow_nil (hK7 _ _ ?_); clear hK7
  refine cw_block ?_
  refine cw_imp (fun w hm => hm.row_nil (α := Step) 40 (fun _ => ())) ?_
  refine cw_loop (γ := Nat × ((List Step) × Int) × (SR (GoRep.R Step))) (env := fun (_, (lback_1_0, i_1), rback_1_0) => [(5, .v (.pointer (some ⟨b4, 0, none⟩))), (6, .v (.pointer (some ⟨b8, 0, none⟩))), (7, .v (.pointer (some ⟨b9, 0, none⟩))), (8, .v (.int .i64 i_1))]) (mem := fun (_, (lback_1_0, i_1), rback_1_0) => [trow 9 r3.1 y1.Stations, trow 9 r3.2.1 y1.Points, trow 31 r3.2.2.1 y1.Sections, trow 91 r3.2.2.2 y1.Links, own b4 28 [.slice r3.1.a y1.Stations.length r3.1.cap, .slice r3.2.1.a y1.Points.length r3.2.1.cap, .slice r3.2.2.1.a y1.Sections.length r3.2.2.1.cap, .slice r3.2.2.2.a y1.Links.length r3.2.2.2.cap], trow 40 r7 y5.Steps, own b8 48 [.slice r7.a y5.Steps.length r7.cap, .int .i64 0], trow 40 rback_1_0 lback_1_0, own b9 48 [.slice rback_1_0.a lback_1_0.length rback_1_0.cap, .int .i64 0]]) (R := fun g => iter (law7_RouteReverses_b1 y5 y1) g.1 g.2.1 = some y) (μ := fun g => g.1) (FUEL, (([] : List Step), ((y5.Steps.length : Int) - 1)), (⟨none, 0, (fun _ => ())⟩ : SR (GoRep.R Step) )) hM ⟨rfl, rfl, rfl, rfl, trivial⟩ (fun w hm => hm.reord) ?_
  clear hM
  intro g hM KL1 hL1
  obtain ⟨nn1, ⟨lback_1_0, i_1⟩, rback_1_0⟩ := g
  dsimp only at hM ⊢
  obtain ⟨nn1, cont1, rfl, hcont1, hM⟩ := iter_open' hM
  dsimp only [law7_RouteReverses_b1] at hM
  refine cw_seq fun K8 hK8 => ?_
  refine cw_seq fun K9 hK9 => ?_
  refine cw_region ?_
  refine ow_ev ev_move ?_
  refine ow_ev ev_geq ?_
  refine ow_nil (hK9 _ _ ?_); clear hK9
  refine cw_cond rfl (fun hc12 => ?_) (fun hc12 => ?_)
  ·
    replace hM := (ite_t hc12).symm.trans hM
    refine cw_skip (hK8 _ _ ?_); clear hK8
    refine cw_seq fun K10 hK10 => ?_
    refine cw_block ?_
    refine cw_region_z [trow 9 r3.1 y1.Stations, trow 9 r3.2.1 y1.Points, trow 31 r3.2.2.1 y1.Sections, trow 91 r3.2.2.2 y1.Links, own b4 28 [.slice r3.1.a y1.Stations.length r3.1.cap, .slice r3.2.1.a y1.Points.length r3.2.1.cap, .slice r3.2.2.1.a y1.Sections.length r3.2.2.1.cap, .slice r3.2.2.2.a y1.Links.length r3.2.2.2.cap], trow 40 r7 y5.Steps, own b8 48 [.slice r7.a y5.Steps.length r7.cap, .int .i64 0], own b9 48 [.slice rback_1_0.a lback_1_0.length rback_1_0.cap, .int .i64 0]] 11 ?_
    refine az_ev 0 rfl (ev_field_addr 0) ?_
    refine az_ev 1 rfl (ev_load_own (b := b9)) ?_
    refine az_ev 2 rfl (ev_field_addr 0) ?_
    refine az_ev 3 rfl (ev_load_own (b := b8)) ?_
    refine az_ev 4 rfl ev_move ?_
    obtain ⟨x13, hx14, hM⟩ := bind_some hM
    refine az_ev 5 rfl (ev_idx (xs := y5.Steps) 2 (Kn.trow (e := 40) (r := r7) (by repeat (first | exact Has.head | apply Has.tail))) (fun hg => let h := idx_some hx14; ⟨h.1, h.2.1⟩)) ?_
    refine az_ev 6 rfl (ev_lds (m := 2) (i := i_1) (xs := y5.Steps) (y := x13) (l := [.int .i64 x13.Section, .int .i64 x13.Dir]) 0 (Kn.trow (e := 40) (r := r7) (by repeat (first | exact Has.head | apply Has.tail))) (fun _ => hx14)) ?_
    obtain ⟨y15, hy16, hM⟩ := bind_some hM
    refine az_one 7 rfl (st_callv (fun w hm => let ⟨S, hs⟩ := hm; ref1_Reverse_spec _ w x13 y15 hy16 (lend_lt hs) ) ⟨fun w hm => hm.sub (by repeat (first | exact List.Sublist.refl _ | apply List.Sublist.cons_cons | apply List.Sublist.cons)), ?_⟩)
    refine az_one 8 rfl (st_bslice (α := Step) 40 (fun _ => ()) ([y15] : List Step) (OkL.flat (fun _ _ _ _ => trivial)) (fun r17 => ⟨fun w hm => hm.sub (by repeat (first | exact List.Sublist.refl _ | apply List.Sublist.cons_cons | apply List.Sublist.cons)), ?_⟩))
    obtain ⟨hb18, hM⟩ := chk_some hM
    refine az_one 9 rfl (st_append (r := rback_1_0) (r2 := r17) (by intro r'; repeat (first | exact Upd.head | apply Upd.tail)) (Kn.trow (e := 40) (r := r17) (by repeat (first | exact Has.head | apply Has.tail))) (OkL.flat (fun _ _ _ _ => trivial)) (of_decide_eq_true hb18) (fun r19 => ⟨fun w hm => hm.sub (by repeat (first | exact List.Sublist.refl _ | apply List.Sublist.cons_cons | apply List.Sublist.cons)), ?_⟩))
    refine az_ev 10 rfl (ev_field_addr 0) ?_
    refine az_last rfl (st_store_own (b := b9) (l' := [.slice r19.a ((lback_1_0 ++ ([y15] : List Step)).length) r19.cap, .int .i64 0]) (k := ?_))
    refine az_done (hK10 _ _ ?_); clear hK10
    refine cw_region ?_
    refine ow_ev ev_move ?_
    obtain ⟨hI20, hM⟩ := chk_some hM
    refine ow_ev (ev_sub (hr := fun hg => i64b_I64 hI20)) ?_
    refine ow_ev ev_assign ?_
    refine ow_nil (hL1 (nn1, ((lback_1_0 ++ ([y15] : List Step)), (i_1 - 1)), r19) _ _ (eqc hcont1 hM) (Nat.lt_succ_self _) ⟨rfl, rfl, rfl, rfl, trivial⟩ (fun w hm => hm.reord))
  ·
    replace hM := (ite_f hc12).symm.trans hM
    refine cw_exit (hK6 _ _ ?_); clear hK6
    dsimp only [law7_RouteReverses_k1] at hM
    refine cw_seq fun K11 hK11 => ?_
    refine cw_seq fun K12 hK12 => ?_
    refine cw_region ?_
    refine ow_ev (ev_field_addr 0) ?_
    refine ow_ev (ev_load_own (b := b8)) ?_
    refine ow_ev ev_len ?_
    refine ow_ev ev_lss ?_
    refine ow_nil (hK12 _ _ ?_); clear hK12
    refine cw_cond rfl (fun hc21 => ?_) (fun hc21 => ?_)
    ·
      replace hM := (ite_t hc21).symm.trans hM
      refine cw_seq fun K13 hK13 => ?_
      refine cw_region ?_
      obtain ⟨y22, hy23, hM⟩ := bind_some hM
      refine ow_cons (st_callv (fun w hm => let ⟨S, hs⟩ := hm; law7_awake_spec _ w  y22 hy23 (lend_lt hs) ) ?_)
      refine ow_ev ev_move ?_
      refine ow_evg rfl (ev_load_all (b := b4)) ?_
      refine ow_evg rfl (ev_load_all (b := b9)) ?_
      obtain ⟨y24, hy25, hM⟩ := bind_some hM
      refine ow_callg rfl (fun hg w hm => let ⟨S, hs⟩ := hm; route_Check_spec _ w y1 r3 (Route.mk lback_1_0 0) rback_1_0 y24 (whn_some hy25 hg) (lend_lt hs) ⟨(Kn.lend (Kn.trow (e := 9) (r := r3.1) (by repeat (first | exact Has.head | apply Has.tail))) hs), (Kn.lend (Kn.trow (e := 9) (r := r3.2.1) (by repeat (first | exact Has.head | apply Has.tail))) hs), (Kn.lend (Kn.trow (e := 31) (r := r3.2.2.1) (by repeat (first | exact Has.head | apply Has.tail))) hs), (Kn.lend (Kn.trow (e := 91) (r := r3.2.2.2) (by repeat (first | exact Has.head | apply Has.tail))) hs)⟩ (Kn.lend (Kn.trow (e := 40) (r := rback_1_0) (by repeat (first | exact Has.head | apply Has.tail))) hs)) ?_
      refine ow_evg rfl ev_eql ?_
      refine ow_ev ev_and ?_
      refine ow_ev ev_assign ?_
      refine ow_nil (hK13 _ _ ?_); clear hK13
      obtain rfl := some_inj hM
      refine cw_ret (kw_retc1 (fun w hm => ret_of hm rfl))
    ·
      replace hM := (ite_f hc21).symm.trans hM
      refine cw_skip (hK11 _ _ ?_); clear hK11
      refine cw_seq fun K14 hK14 => ?_
      refine cw_region ?_
      refine ow_ev (ev_load_all (b := b4)) ?_
      refine ow_ev (ev_load_all (b := b8)) ?_
      obtain ⟨y26, hy27, hM⟩ := bind_some hM
      refine ow_cons (st_callF SelL.nil (fun S w hs hP => route_Resources_spec _ w y1 r3 (Route.mk y5.Steps 0) r7 y26 hy27 (lend_lt hs) ⟨(Kn.lend (Kn.trow (e := 9) (r := r3.1) (by repeat (first | exact Has.head | apply Has.tail))) hs), (Kn.lend (Kn.trow (e := 9) (r := r3.2.1) (by repeat (first | exact Has.head | apply Has.tail))) hs), (Kn.lend (Kn.trow (e := 31) (r := r3.2.2.1) (by repeat (first | exact Has.head | apply Has.tail))) hs), (Kn.lend (Kn.trow (e := 91) (r := r3.2.2.2) (by repeat (first | exact Has.head | apply Has.tail))) hs)⟩ (Kn.lend (Kn.trow (e := 40) (r := r7) (by repeat (first | exact Has.head | apply Has.tail))) hs)) (by intro r c hc; simp only [List.mem_cons, List.not_mem_nil, or_false] at hc; rcases hc with rfl <;> first | exact flatC_own | exact flatC_trow (fun _ _ _ _ => trivial)) (fun r28 => ?_))
      dsimp only [List.cons_append, List.nil_append]
      refine ow_ev ev_move ?_
      refine ow_ev (ev_extract (vs := [.slice r28.a y26.1.length r28.cap, .int .i64 y26.2])) ?_
      refine ow_ev (ev_extract (vs := [.slice r28.a y26.1.length r28.cap, .int .i64 y26.2])) ?_
      refine ow_ev ev_assign ?_
      refine ow_ev ev_assign ?_
      refine ow_nil (hK14 _ _ ?_); clear hK14
      refine cw_seq fun K15 hK15 => ?_
      refine cw_region ?_
      refine ow_ev (ev_load_all (b := b4)) ?_
      refine ow_ev (ev_load_all (b := b9)) ?_
      obtain ⟨y29, hy30, hM⟩ := bind_some hM
      refine ow_cons (st_callF SelL.nil (fun S w hs hP => route_Resources_spec _ w y1 r3 (Route.mk lback_1_0 0) rback_1_0 y29 hy30 (lend_lt hs) ⟨(Kn.lend (Kn.trow (e := 9) (r := r3.1) (by repeat (first | exact Has.head | apply Has.tail))) hs), (Kn.lend (Kn.trow (e := 9) (r := r3.2.1) (by repeat (first | exact Has.head | apply Has.tail))) hs), (Kn.lend (Kn.trow (e := 31) (r := r3.2.2.1) (by repeat (first | exact Has.head | apply Has.tail))) hs), (Kn.lend (Kn.trow (e := 91) (r := r3.2.2.2) (by repeat (first | exact Has.head | apply Has.tail))) hs)⟩ (Kn.lend (Kn.trow (e := 40) (r := rback_1_0) (by repeat (first | exact Has.head | apply Has.tail))) hs)) (by intro r c hc; simp only [List.mem_cons, List.not_mem_nil, or_false] at hc; rcases hc with rfl <;> first | exact flatC_own | exact flatC_trow (fun _ _ _ _ => trivial)) (fun r31 => ?_))
      dsimp only [List.cons_append, List.nil_append]
      refine ow_ev ev_move ?_
      refine ow_ev (ev_extract (vs := [.slice r31.a y29.1.length r31.cap, .int .i64 y29.2])) ?_
      refine ow_ev (ev_extract (vs := [.slice r31.a y29.1.length r31.cap, .int .i64 y29.2])) ?_
      refine ow_ev ev_assign ?_
      refine ow_ev ev_assign ?_
      refine ow_nil (hK15 _ _ ?_); clear hK15
      refine cw_seq fun K16 hK16 => ?_
      refine cw_region ?_
      obtain ⟨y32, hy33, hM⟩ := bind_some hM
      refine ow_cons (st_callv (fun w hm => let ⟨S, hs⟩ := hm; law7_awake_spec _ w  y32 hy33 (lend_lt hs) ) ?_)
      refine ow_ev ev_move ?_
      refine ow_evg rfl (ev_load_all (b := b4)) ?_
      refine ow_evg rfl (ev_load_all (b := b9)) ?_
      obtain ⟨y34, hy35, hM⟩ := bind_some hM
      refine ow_callg rfl (fun hg w hm => let ⟨S, hs⟩ := hm; route_Check_spec _ w y1 r3 (Route.mk lback_1_0 0) rback_1_0 y34 (whn_some hy35 hg) (lend_lt hs) ⟨(Kn.lend (Kn.trow (e := 9) (r := r3.1) (by repeat (first | exact Has.head | apply Has.tail))) hs), (Kn.lend (Kn.trow (e := 9) (r := r3.2.1) (by repeat (first | exact Has.head | apply Has.tail))) hs), (Kn.lend (Kn.trow (e := 31) (r := r3.2.2.1) (by repeat (first | exact Has.head | apply Has.tail))) hs), (Kn.lend (Kn.trow (e := 91) (r := r3.2.2.2) (by repeat (first | exact Has.head | apply Has.tail))) hs)⟩ (Kn.lend (Kn.trow (e := 40) (r := rback_1_0) (by repeat (first | exact Has.head | apply Has.tail))) hs)) ?_
      refine ow_evg rfl ev_eql ?_
      refine ow_ev ev_and ?_
      refine ow_ev ev_move ?_
      refine ow_evg rfl ev_move ?_
      refine ow_evg rfl ev_eql ?_
      refine ow_ev ev_and ?_
      refine ow_ev ev_move ?_
      refine ow_evg rfl ev_move ?_
      refine ow_evg rfl ev_eql ?_
      refine ow_ev ev_and ?_
      refine ow_ev ev_move ?_
      refine ow_evg rfl ev_move ?_
      refine ow_evg rfl ev_move ?_
      obtain ⟨y36, hy37, hM⟩ := bind_some hM
      refine ow_callg rfl (fun hg w hm => let ⟨S, hs⟩ := hm; keep_Same_int_spec _ w y26.1 r28 y29.1 r31 y36 (whn_some hy37 hg) (lend_lt hs) (Kn.lend (Kn.trow (e := 3) (r := r28) (by repeat (first | exact Has.head | apply Has.tail))) hs) (Kn.lend (Kn.trow (e := 3) (r := r31) (by repeat (first | exact Has.head | apply Has.tail))) hs)) ?_
      refine ow_ev ev_and ?_
      refine ow_ev ev_assign ?_
      refine ow_nil (hK16 _ _ ?_); clear hK16
      obtain rfl := some_inj hM
      refine cw_ret (kw_retc1 (fun w hm => ret_of hm rfl))

end Go.Proofs.Ytnihhidbiepnhaa
