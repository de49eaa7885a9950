/- Models of functions, and that the code computes them. -/
import Derived.Test.YtedocibniankjaaFe
namespace Go.Proofs.Ytedocibniankjaa
open Go.Dc Go.RowKit
set_option maxRecDepth 10000
set_option linter.unusedVariables false
def law27_FlowErrors_k1 (g0 : Graph) : ((List Int) × (List Arc)) → Option Bool := fun (lh_j1_0, lh_j1_1) =>
  (flow_Solve_m (Graph.mk lh_j1_0 lh_j1_1)).bind fun y6 =>
  (flow_Cut_m (Graph.mk lh_j1_0 lh_j1_1)).bind fun y10 =>
  (ref24_CheckGraph_m (Graph.mk lh_j1_0 lh_j1_1)).bind fun y13 =>
  (whn ((!y13) && !(decide (y6.2 ≠ 1) || y10.2)) default (flow_Check_m (Graph.mk lh_j1_0 lh_j1_1))).bind fun y15 =>
  if ((!y13) && ((decide (y6.2 ≠ 1) || y10.2) || y15)) then
    (some false)
  else
    ((flow_Solve_m g0).bind fun y18 =>
    (flow_Cut_m g0).bind fun y21 =>
    (law27_awake_m).bind fun y24 =>
    (whn y24 default (ref24_CheckGraph_m g0)).bind fun y26 =>
    some (y24 && (y26 || (decide (y18.2 = 1) && (!y21.2)))))
def law27_FlowErrors_m (g0 : Graph) (l0 : List Int) (how0 : Int) (at0 : Int) (v0 : Int) : Option Bool :=
  (keep2_Graph_m l0).bind fun y2 =>
  (keep_Pick_m how0 5).bind fun y28 =>
  if decide (y28 = 0) then
    ((keep_Pick_m at0 (y2.Supply.length : Int)).bind fun y31 =>
    (idx y2.Supply y31).bind fun x33 =>
    chk (i64b (x33 + 1)) <|
    (idx y2.Supply y31).bind fun x36 =>
    law27_FlowErrors_k1 g0 ((y2.Supply.set y31.toNat (x33 + 1)), y2.Arcs))
  else
    (if decide (y28 = 1) then
      ((keep_Pick_m at0 5).bind fun y39 =>
      chk (i64b (y39 - 1)) <|
      (keep_Pick_m v0 5).bind fun y42 =>
      chk (decide ((y2.Arcs.length + ([(Arc.mk (y39 - 1) y42 1 0)] : List Arc).length) * 32 ≤ 140737488355328)) <|
      law27_FlowErrors_k1 g0 (y2.Supply, (y2.Arcs ++ ([(Arc.mk (y39 - 1) y42 1 0)] : List Arc))))
    else
      (if decide (y28 = 2) then
        ((keep_Pick_m v0 3).bind fun y48 =>
        chk (i64b (y48 - 1)) <|
        chk (decide ((y2.Arcs.length + ([(Arc.mk 0 1 (y48 - 1) 0)] : List Arc).length) * 32 ≤ 140737488355328)) <|
        law27_FlowErrors_k1 g0 (y2.Supply, (y2.Arcs ++ ([(Arc.mk 0 1 (y48 - 1) 0)] : List Arc))))
      else
        (if decide (y28 = 3) then
          ((keep_Pick_m v0 2).bind fun y55 =>
          chk (i64b (1048576 + y55)) <|
          chk (decide ((y2.Arcs.length + ([(Arc.mk 0 1 0 (1048576 + y55))] : List Arc).length) * 32 ≤ 140737488355328)) <|
          law27_FlowErrors_k1 g0 (y2.Supply, (y2.Arcs ++ ([(Arc.mk 0 1 0 (1048576 + y55))] : List Arc))))
        else
          (law27_FlowErrors_k1 g0 (([] : List Int), y2.Arcs)))))
theorem law27_FlowErrors_spec (S : Soup) (w : World) (g0 : Graph) (r_g0 : GoRep.R Graph) (l0 : List Int) (r_l0 : GoRep.R (List Int)) (how0 : Int) (at0 : Int) (v0 : Int) (y : Bool) (hM : law27_FlowErrors_m g0 l0 how0 at0 v0 = some y) (hS : ∀ k, S k → k < w.heap.size) (h_g0 : GoRep.ok S w r_g0 g0) (h_l0 : GoRep.ok S w r_l0 l0) :
    Calls Try.prog 9 #[.agg #[.slice r_g0.1.a g0.Supply.length r_g0.1.cap, .slice r_g0.2.a g0.Arcs.length r_g0.2.cap], .slice r_l0.a l0.length r_l0.cap, .int .i64 how0, .int .i64 at0, .int .i64 v0] w (Ret w (.bool y)) := by
  refine calls_cw (args := [_, _, _, _, _]) Try.func9 rfl ((pre_nil hS).start |>.immP (α := List Int) (r := r_g0.1) (x := g0.Supply) h_g0.1|>.immP (α := List Arc) (r := r_g0.2) (x := g0.Arcs) h_g0.2|>.immP (α := List Int) (r := r_l0) (x := l0) h_l0) rfl ?_
  unfold law27_FlowErrors_m at hM
  refine cw_seq fun K1 hK1 => ?_
  refine cw_region ?_
  refine ow_cons (st_box (l := [.slice r_g0.1.a g0.Supply.length r_g0.1.cap, .slice r_g0.2.a g0.Arcs.length r_g0.2.cap]) (k := fun b1 => ?_))
  refine ow_ev ev_assign ?_
  refine ow_nil (hK1 _ _ ?_); clear hK1
  refine cw_seq fun K2 hK2 => ?_
  refine cw_region ?_
  refine ow_ev ev_move ?_
  obtain ⟨y2, hy3, hM⟩ := bind_some hM
  refine ow_cons (st_callF SelL.nil (fun S w hs hP => keep2_Graph_spec _ w l0 r_l0 y2 hy3 (lend_lt hs) (Kn.lend (Kn.imm (α := List Int) (r := r_l0) (x := l0) (by repeat (first | exact Has.head | apply Has.tail))) hs)) (by intro r c hc; simp only [List.mem_cons, List.not_mem_nil, or_false] at hc; rcases hc with rfl | rfl <;> first | exact flatC_own | exact flatC_trow (fun _ _ _ _ => trivial)) (fun r4 => ?_))
  dsimp only [List.cons_append, List.nil_append]
  refine ow_cons (st_alloc rfl (k := fun b5 => ?_))
  refine ow_cons (st_store_all (b := b5) (vs := [.slice r4.1.a y2.Supply.length r4.1.cap, .slice r4.2.a y2.Arcs.length r4.2.cap]) (k := ?_))
  refine ow_nil (hK2 _ _ ?_); clear hK2
  refine cw_cut (γ := ((List Int) × (List Arc)) × ((SR (GoRep.R Int)) × (SR (GoRep.R Arc)))) (env := fun ((lh_j1_0, lh_j1_1), (rh_j1_0, rh_j1_1)) => [(5, .v (.pointer (some ⟨b1, 0, none⟩))), (11, .v (.pointer (some ⟨b5, 0, none⟩)))]) (mem := fun ((lh_j1_0, lh_j1_1), (rh_j1_0, rh_j1_1)) => [imm (α := (List Int)) r_g0.1 g0.Supply, imm (α := (List Arc)) r_g0.2 g0.Arcs, own b1 25 [.slice r_g0.1.a g0.Supply.length r_g0.1.cap, .slice r_g0.2.a g0.Arcs.length r_g0.2.cap], trow 3 rh_j1_0 lh_j1_0, trow 40 rh_j1_1 lh_j1_1, own b5 25 [.slice rh_j1_0.a lh_j1_0.length rh_j1_0.cap, .slice rh_j1_1.a lh_j1_1.length rh_j1_1.cap]]) (R := fun g => law27_FlowErrors_k1 g0 g.1 = some y) ?_ ?_
  · intro KJ1 hJ1
    refine cw_seq fun K11 hK11 => ?_
    refine cw_region ?_
    refine ow_ev ev_move ?_
    obtain ⟨y28, hy29, hM⟩ := bind_some hM
    refine ow_cons (st_callv (fun w hm => let ⟨S, hs⟩ := hm; keep_Pick_spec _ w how0 5 y28 hy29 (lend_lt hs) ) ?_)
    refine ow_nil (hK11 _ _ ?_); clear hK11
    refine cw_block ?_
    refine cw_seq fun K12 hK12 => ?_
    refine cw_region ?_
    refine ow_ev ev_eql ?_
    refine ow_ev ev_assign ?_
    refine ow_nil (hK12 _ _ ?_); clear hK12
    refine cw_cond rfl (fun hc30 => ?_) (fun hc30 => ?_)
    ·
      replace hM := (ite_t hc30).symm.trans hM
      refine cw_region_z [own b5 25 [.slice r4.1.a y2.Supply.length r4.1.cap, .slice r4.2.a y2.Arcs.length r4.2.cap], trow 3 r4.1 y2.Supply, trow 40 r4.2 y2.Arcs, own b1 25 [.slice r_g0.1.a g0.Supply.length r_g0.1.cap, .slice r_g0.2.a g0.Arcs.length r_g0.2.cap], imm (α := (List Int)) r_l0 l0, imm (α := (List Arc)) r_g0.2 g0.Arcs, imm (α := (List Int)) r_g0.1 g0.Supply] 11 ?_
      refine az_ev 0 rfl (ev_field_addr 0) ?_
      refine az_ev 1 rfl (ev_load_own (b := b5)) ?_
      refine az_ev 2 rfl ev_move ?_
      refine az_ev 3 rfl (ev_field_addr 0) ?_
      refine az_ev 4 rfl (ev_load_own (b := b5)) ?_
      refine az_ev 5 rfl ev_len ?_
      obtain ⟨y31, hy32, hM⟩ := bind_some hM
      refine az_one 6 rfl (st_callv (fun w hm => let ⟨S, hs⟩ := hm; keep_Pick_spec _ w at0 (y2.Supply.length : Int) y31 hy32 (lend_lt hs) ) ⟨fun w hm => hm.sub (by repeat (first | exact List.Sublist.refl _ | apply List.Sublist.cons_cons | apply List.Sublist.cons)), ?_⟩)
      obtain ⟨x33, hx34, hM⟩ := bind_some hM
      refine az_ev 7 rfl (ev_idx (xs := y2.Supply) 1 (Kn.trow (e := 3) (r := r4.1) (by repeat (first | exact Has.head | apply Has.tail))) (fun hg => let h := idx_some hx34; ⟨h.1, h.2.1⟩)) ?_
      refine az_ev 8 rfl (ev_ld (i := y31) (xs := y2.Supply) (y := x33) 0 (Kn.trow (e := 3) (r := r4.1) (by repeat (first | exact Has.head | apply Has.tail))) (fun _ => hx34)) ?_
      obtain ⟨hI35, hM⟩ := chk_some hM
      refine az_ev 9 rfl (ev_add (hr := fun hg => i64b_I64 hI35)) ?_
      obtain ⟨x36, hx37, hM⟩ := bind_some hM
      refine az_ev 10 rfl (ev_idx (xs := y2.Supply) 1 (Kn.trow (e := 3) (r := r4.1) (by repeat (first | exact Has.head | apply Has.tail))) (fun hg => let h := idx_some hx37; ⟨h.1, h.2.1⟩)) ?_
      refine az_last rfl (st_set (r := r4.1) (i := y31) (xs := y2.Supply) (u := x36) (vs := [.int .i64 (x33 + 1)]) 0 (x33 + 1) hx37 rfl (fun _ _ h => h) (by repeat (first | exact Upd.head | apply Upd.tail)) ?_)
      refine az_done (hJ1 (((y2.Supply.set y31.toNat (x33 + 1)), y2.Arcs), (r4.1, r4.2)) _ _ hM ⟨rfl, rfl, trivial⟩ (fun w hm => by simp only [List.length_set]; exact hm.reord))
    ·
      replace hM := (ite_f hc30).symm.trans hM
      refine cw_seq fun K13 hK13 => ?_
      refine cw_region ?_
      refine ow_ev ev_eql ?_
      refine ow_ev ev_assign ?_
      refine ow_nil (hK13 _ _ ?_); clear hK13
      refine cw_cond rfl (fun hc38 => ?_) (fun hc38 => ?_)
      ·
        replace hM := (ite_t hc38).symm.trans hM
        refine cw_region_z [own b5 25 [.slice r4.1.a y2.Supply.length r4.1.cap, .slice r4.2.a y2.Arcs.length r4.2.cap], trow 3 r4.1 y2.Supply, own b1 25 [.slice r_g0.1.a g0.Supply.length r_g0.1.cap, .slice r_g0.2.a g0.Arcs.length r_g0.2.cap], imm (α := (List Int)) r_l0 l0, imm (α := (List Arc)) r_g0.2 g0.Arcs, imm (α := (List Int)) r_g0.1 g0.Supply] 11 ?_
        refine az_ev 0 rfl (ev_field_addr 1) ?_
        refine az_ev 1 rfl (ev_load_own (b := b5)) ?_
        refine az_ev 2 rfl ev_move ?_
        refine az_ev 5 rfl ev_move ?_
        obtain ⟨y39, hy40, hM⟩ := bind_some hM
        refine az_one 3 rfl (st_callv (fun w hm => let ⟨S, hs⟩ := hm; keep_Pick_spec _ w at0 5 y39 hy40 (lend_lt hs) ) ⟨fun w hm => hm.sub (by repeat (first | exact List.Sublist.refl _ | apply List.Sublist.cons_cons | apply List.Sublist.cons)), ?_⟩)
        obtain ⟨hI41, hM⟩ := chk_some hM
        refine az_ev 4 rfl (ev_sub (hr := fun hg => i64b_I64 hI41)) ?_
        obtain ⟨y42, hy43, hM⟩ := bind_some hM
        refine az_one 6 rfl (st_callv (fun w hm => let ⟨S, hs⟩ := hm; keep_Pick_spec _ w v0 5 y42 hy43 (lend_lt hs) ) ⟨fun w hm => hm.sub (by repeat (first | exact List.Sublist.refl _ | apply List.Sublist.cons_cons | apply List.Sublist.cons)), ?_⟩)
        refine az_ev 7 rfl (ev_build [.int .i64 (y39 - 1), .int .i64 y42, .int .i64 1, .int .i64 0]) ?_
        refine az_one 8 rfl (st_bslice (α := Arc) 40 (fun _ => ()) ([(Arc.mk (y39 - 1) y42 1 0)] : List Arc) (OkL.flat (fun _ _ _ _ => trivial)) (fun r44 => ⟨fun w hm => hm.sub (by repeat (first | exact List.Sublist.refl _ | apply List.Sublist.cons_cons | apply List.Sublist.cons)), ?_⟩))
        obtain ⟨hb45, hM⟩ := chk_some hM
        refine az_one 9 rfl (st_append (r := r4.2) (r2 := r44) (by intro r'; repeat (first | exact Upd.head | apply Upd.tail)) (Kn.trow (e := 40) (r := r44) (by repeat (first | exact Has.head | apply Has.tail))) (OkL.flat (fun _ _ _ _ => trivial)) (of_decide_eq_true hb45) (fun r46 => ⟨fun w hm => hm.sub (by repeat (first | exact List.Sublist.refl _ | apply List.Sublist.cons_cons | apply List.Sublist.cons)), ?_⟩))
        refine az_ev 10 rfl (ev_field_addr 1) ?_
        refine az_last rfl (st_store_own (b := b5) (l' := [.slice r4.1.a y2.Supply.length r4.1.cap, .slice r46.a ((y2.Arcs ++ ([(Arc.mk (y39 - 1) y42 1 0)] : List Arc)).length) r46.cap]) (k := ?_))
        refine az_done (hJ1 ((y2.Supply, (y2.Arcs ++ ([(Arc.mk (y39 - 1) y42 1 0)] : List Arc))), (r4.1, r46)) _ _ hM ⟨rfl, rfl, trivial⟩ (fun w hm => hm.reord))
      ·
        replace hM := (ite_f hc38).symm.trans hM
        refine cw_seq fun K14 hK14 => ?_
        refine cw_region ?_
        refine ow_ev ev_eql ?_
        refine ow_ev ev_assign ?_
        refine ow_nil (hK14 _ _ ?_); clear hK14
        refine cw_cond rfl (fun hc47 => ?_) (fun hc47 => ?_)
        ·
          replace hM := (ite_t hc47).symm.trans hM
          refine cw_region_z [own b5 25 [.slice r4.1.a y2.Supply.length r4.1.cap, .slice r4.2.a y2.Arcs.length r4.2.cap], trow 3 r4.1 y2.Supply, own b1 25 [.slice r_g0.1.a g0.Supply.length r_g0.1.cap, .slice r_g0.2.a g0.Arcs.length r_g0.2.cap], imm (α := (List Int)) r_l0 l0, imm (α := (List Arc)) r_g0.2 g0.Arcs, imm (α := (List Int)) r_g0.1 g0.Supply] 9 ?_
          refine az_ev 0 rfl (ev_field_addr 1) ?_
          refine az_ev 1 rfl (ev_load_own (b := b5)) ?_
          refine az_ev 2 rfl ev_move ?_
          obtain ⟨y48, hy49, hM⟩ := bind_some hM
          refine az_one 3 rfl (st_callv (fun w hm => let ⟨S, hs⟩ := hm; keep_Pick_spec _ w v0 3 y48 hy49 (lend_lt hs) ) ⟨fun w hm => hm.sub (by repeat (first | exact List.Sublist.refl _ | apply List.Sublist.cons_cons | apply List.Sublist.cons)), ?_⟩)
          obtain ⟨hI50, hM⟩ := chk_some hM
          refine az_ev 4 rfl (ev_sub (hr := fun hg => i64b_I64 hI50)) ?_
          refine az_ev 5 rfl (ev_build [.int .i64 0, .int .i64 1, .int .i64 (y48 - 1), .int .i64 0]) ?_
          refine az_one 6 rfl (st_bslice (α := Arc) 40 (fun _ => ()) ([(Arc.mk 0 1 (y48 - 1) 0)] : List Arc) (OkL.flat (fun _ _ _ _ => trivial)) (fun r51 => ⟨fun w hm => hm.sub (by repeat (first | exact List.Sublist.refl _ | apply List.Sublist.cons_cons | apply List.Sublist.cons)), ?_⟩))
          obtain ⟨hb52, hM⟩ := chk_some hM
          refine az_one 7 rfl (st_append (r := r4.2) (r2 := r51) (by intro r'; repeat (first | exact Upd.head | apply Upd.tail)) (Kn.trow (e := 40) (r := r51) (by repeat (first | exact Has.head | apply Has.tail))) (OkL.flat (fun _ _ _ _ => trivial)) (of_decide_eq_true hb52) (fun r53 => ⟨fun w hm => hm.sub (by repeat (first | exact List.Sublist.refl _ | apply List.Sublist.cons_cons | apply List.Sublist.cons)), ?_⟩))
          refine az_ev 8 rfl (ev_field_addr 1) ?_
          refine az_last rfl (st_store_own (b := b5) (l' := [.slice r4.1.a y2.Supply.length r4.1.cap, .slice r53.a ((y2.Arcs ++ ([(Arc.mk 0 1 (y48 - 1) 0)] : List Arc)).length) r53.cap]) (k := ?_))
          refine az_done (hJ1 ((y2.Supply, (y2.Arcs ++ ([(Arc.mk 0 1 (y48 - 1) 0)] : List Arc))), (r4.1, r53)) _ _ hM ⟨rfl, rfl, trivial⟩ (fun w hm => hm.reord))
        ·
          replace hM := (ite_f hc47).symm.trans hM
          refine cw_seq fun K15 hK15 => ?_
          refine cw_region ?_
          refine ow_ev ev_eql ?_
          refine ow_ev ev_assign ?_
          refine ow_nil (hK15 _ _ ?_); clear hK15
          refine cw_cond rfl (fun hc54 => ?_) (fun hc54 => ?_)
          ·
            replace hM := (ite_t hc54).symm.trans hM
            refine cw_region_z [own b5 25 [.slice r4.1.a y2.Supply.length r4.1.cap, .slice r4.2.a y2.Arcs.length r4.2.cap], trow 3 r4.1 y2.Supply, own b1 25 [.slice r_g0.1.a g0.Supply.length r_g0.1.cap, .slice r_g0.2.a g0.Arcs.length r_g0.2.cap], imm (α := (List Int)) r_l0 l0, imm (α := (List Arc)) r_g0.2 g0.Arcs, imm (α := (List Int)) r_g0.1 g0.Supply] 9 ?_
            refine az_ev 0 rfl (ev_field_addr 1) ?_
            refine az_ev 1 rfl (ev_load_own (b := b5)) ?_
            refine az_ev 2 rfl ev_move ?_
            obtain ⟨y55, hy56, hM⟩ := bind_some hM
            refine az_one 3 rfl (st_callv (fun w hm => let ⟨S, hs⟩ := hm; keep_Pick_spec _ w v0 2 y55 hy56 (lend_lt hs) ) ⟨fun w hm => hm.sub (by repeat (first | exact List.Sublist.refl _ | apply List.Sublist.cons_cons | apply List.Sublist.cons)), ?_⟩)
            obtain ⟨hI57, hM⟩ := chk_some hM
            refine az_ev 4 rfl (ev_add (hr := fun hg => i64b_I64 hI57)) ?_
            refine az_ev 5 rfl (ev_build [.int .i64 0, .int .i64 1, .int .i64 0, .int .i64 (1048576 + y55)]) ?_
            refine az_one 6 rfl (st_bslice (α := Arc) 40 (fun _ => ()) ([(Arc.mk 0 1 0 (1048576 + y55))] : List Arc) (OkL.flat (fun _ _ _ _ => trivial)) (fun r58 => ⟨fun w hm => hm.sub (by repeat (first | exact List.Sublist.refl _ | apply List.Sublist.cons_cons | apply List.Sublist.cons)), ?_⟩))
            obtain ⟨hb59, hM⟩ := chk_some hM
            refine az_one 7 rfl (st_append (r := r4.2) (r2 := r58) (by intro r'; repeat (first | exact Upd.head | apply Upd.tail)) (Kn.trow (e := 40) (r := r58) (by repeat (first | exact Has.head | apply Has.tail))) (OkL.flat (fun _ _ _ _ => trivial)) (of_decide_eq_true hb59) (fun r60 => ⟨fun w hm => hm.sub (by repeat (first | exact List.Sublist.refl _ | apply List.Sublist.cons_cons | apply List.Sublist.cons)), ?_⟩))
            refine az_ev 8 rfl (ev_field_addr 1) ?_
            refine az_last rfl (st_store_own (b := b5) (l' := [.slice r4.1.a y2.Supply.length r4.1.cap, .slice r60.a ((y2.Arcs ++ ([(Arc.mk 0 1 0 (1048576 + y55))] : List Arc)).length) r60.cap]) (k := ?_))
            refine az_done (hJ1 ((y2.Supply, (y2.Arcs ++ ([(Arc.mk 0 1 0 (1048576 + y55))] : List Arc))), (r4.1, r60)) _ _ hM ⟨rfl, rfl, trivial⟩ (fun w hm => hm.reord))
          ·
            replace hM := (ite_f hc54).symm.trans hM
            refine cw_region ?_
            refine ow_ev (ev_field_addr 0) ?_
            refine ow_cons (st_store_own (b := b5) (l' := [.slice none 0 0, .slice r4.2.a y2.Arcs.length r4.2.cap]) (k := ?_))
            refine ow_imp (fun w hm => hm.row_nil (α := Int) 3 (fun _ => ())) ?_
            refine ow_nil (hJ1 ((([] : List Int), y2.Arcs), ((⟨none, 0, (fun _ => ())⟩ : SR (GoRep.R Int)  ), r4.2)) _ _ hM ⟨rfl, rfl, trivial⟩ (fun w hm => hm.reord))
  ·
    clear hM
    intro g hM
    obtain ⟨⟨lh_j1_0, lh_j1_1⟩, ⟨rh_j1_0, rh_j1_1⟩⟩ := g
    dsimp only at hM ⊢
    dsimp only [law27_FlowErrors_k1] at hM
    refine cw_seq fun K3 hK3 => ?_
    refine cw_region ?_
    refine ow_ev (ev_load_all (b := b5)) ?_
    obtain ⟨y6, hy7, hM⟩ := bind_some hM
    refine ow_cons (st_callF SelL.nil (fun S w hs hP => flow_Solve_spec _ w (Graph.mk lh_j1_0 lh_j1_1) (rh_j1_0, rh_j1_1) y6 hy7 (lend_lt hs) ⟨(Kn.lend (Kn.trow (e := 3) (r := rh_j1_0) (by repeat (first | exact Has.head | apply Has.tail))) hs), (Kn.lend (Kn.trow (e := 40) (r := rh_j1_1) (by repeat (first | exact Has.head | apply Has.tail))) hs)⟩) (by intro r c hc; simp only [List.mem_cons, List.not_mem_nil, or_false] at hc; rcases hc with rfl | rfl <;> first | exact flatC_own | exact flatC_trow (fun _ _ _ _ => trivial)) (fun r8 => ?_))
    dsimp only [List.cons_append, List.nil_append]
    refine ow_ev ev_move ?_
    refine ow_ev (ev_extract (vs := [.agg #[.slice r8.1.a y6.1.X.length r8.1.cap, .slice r8.2.a y6.1.Price.length r8.2.cap, .int .i64 y6.1.Cost], .int .i64 y6.2])) ?_
    refine ow_ev (ev_extract (vs := [.agg #[.slice r8.1.a y6.1.X.length r8.1.cap, .slice r8.2.a y6.1.Price.length r8.2.cap, .int .i64 y6.1.Cost], .int .i64 y6.2])) ?_
    refine ow_cons (st_alloc rfl (k := fun b9 => ?_))
    refine ow_cons (st_store_all (b := b9) (vs := [.slice r8.1.a y6.1.X.length r8.1.cap, .slice r8.2.a y6.1.Price.length r8.2.cap, .int .i64 y6.1.Cost]) (k := ?_))
    refine ow_ev ev_assign ?_
    refine ow_nil (hK3 _ _ ?_); clear hK3
    refine cw_seq fun K4 hK4 => ?_
    refine cw_region ?_
    refine ow_ev (ev_load_all (b := b5)) ?_
    obtain ⟨y10, hy11, hM⟩ := bind_some hM
    refine ow_cons (st_callF SelL.nil (fun S w hs hP => flow_Cut_spec _ w (Graph.mk lh_j1_0 lh_j1_1) (rh_j1_0, rh_j1_1) y10 hy11 (lend_lt hs) ⟨(Kn.lend (Kn.trow (e := 3) (r := rh_j1_0) (by repeat (first | exact Has.head | apply Has.tail))) hs), (Kn.lend (Kn.trow (e := 40) (r := rh_j1_1) (by repeat (first | exact Has.head | apply Has.tail))) hs)⟩) (by intro r c hc; simp only [List.mem_cons, List.not_mem_nil, or_false] at hc; rcases hc with rfl <;> first | exact flatC_own | exact flatC_trow (fun _ _ _ _ => trivial)) (fun r12 => ?_))
    dsimp only [List.cons_append, List.nil_append]
    refine ow_ev ev_move ?_
    refine ow_ev (ev_extract (vs := [.slice r12.a y10.1.length r12.cap, .bool y10.2])) ?_
    refine ow_ev (ev_extract (vs := [.slice r12.a y10.1.length r12.cap, .bool y10.2])) ?_
    refine ow_ev ev_assign ?_
    refine ow_ev ev_assign ?_
    refine ow_nil (hK4 _ _ ?_); clear hK4
    refine cw_seq fun K5 hK5 => ?_
    refine cw_seq fun K6 hK6 => ?_
    refine cw_region ?_
    refine ow_ev (ev_load_all (b := b5)) ?_
    obtain ⟨y13, hy14, hM⟩ := bind_some hM
    refine ow_cons (st_callv (fun w hm => let ⟨S, hs⟩ := hm; ref24_CheckGraph_spec _ w (Graph.mk lh_j1_0 lh_j1_1) (rh_j1_0, rh_j1_1) y13 hy14 (lend_lt hs) ⟨(Kn.lend (Kn.trow (e := 3) (r := rh_j1_0) (by repeat (first | exact Has.head | apply Has.tail))) hs), (Kn.lend (Kn.trow (e := 40) (r := rh_j1_1) (by repeat (first | exact Has.head | apply Has.tail))) hs)⟩) ?_)
    refine ow_ev ev_not ?_
    refine ow_ev ev_move ?_
    refine ow_evg rfl ev_move ?_
    refine ow_evg rfl ev_neq ?_
    refine ow_evg rfl ev_move ?_
    refine ow_evg rfl ev_move ?_
    refine ow_evg rfl ev_or ?_
    refine ow_evg rfl ev_move ?_
    refine ow_evg rfl (ev_load_all (b := b5)) ?_
    obtain ⟨y15, hy16, hM⟩ := bind_some hM
    refine ow_callg rfl (fun hg w hm => let ⟨S, hs⟩ := hm; flow_Check_spec _ w (Graph.mk lh_j1_0 lh_j1_1) (rh_j1_0, rh_j1_1) y15 (whn_some hy16 hg) (lend_lt hs) ⟨(Kn.lend (Kn.trow (e := 3) (r := rh_j1_0) (by repeat (first | exact Has.head | apply Has.tail))) hs), (Kn.lend (Kn.trow (e := 40) (r := rh_j1_1) (by repeat (first | exact Has.head | apply Has.tail))) hs)⟩) ?_
    refine ow_evg rfl ev_or ?_
    refine ow_ev ev_and ?_
    refine ow_nil (hK6 _ _ ?_); clear hK6
    refine cw_cond rfl (fun hc17 => ?_) (fun hc17 => ?_)
    ·
      replace hM := (ite_t hc17).symm.trans hM
      refine cw_seq fun K7 hK7 => ?_
      refine cw_region ?_
      refine ow_ev ev_assign ?_
      refine ow_nil (hK7 _ _ ?_); clear hK7
      obtain rfl := some_inj hM
      refine cw_ret (kw_retc1 (fun w hm => ret_of hm rfl))
    ·
      replace hM := (ite_f hc17).symm.trans hM
      refine cw_skip (hK5 _ _ ?_); clear hK5
      refine cw_seq fun K8 hK8 => ?_
      refine cw_region ?_
      refine ow_ev (ev_load_all (b := b1)) ?_
      obtain ⟨y18, hy19, hM⟩ := bind_some hM
      refine ow_cons (st_callF SelL.nil (fun S w hs hP => flow_Solve_spec _ w g0 r_g0 y18 hy19 (lend_lt hs) ⟨(Kn.lend (Kn.imm (α := List Int) (r := r_g0.1) (x := g0.Supply) (by repeat (first | exact Has.head | apply Has.tail))) hs), (Kn.lend (Kn.imm (α := List Arc) (r := r_g0.2) (x := g0.Arcs) (by repeat (first | exact Has.head | apply Has.tail))) hs)⟩) (by intro r c hc; simp only [List.mem_cons, List.not_mem_nil, or_false] at hc; rcases hc with rfl | rfl <;> first | exact flatC_own | exact flatC_trow (fun _ _ _ _ => trivial)) (fun r20 => ?_))
      dsimp only [List.cons_append, List.nil_append]
      refine ow_ev ev_move ?_
      refine ow_ev (ev_extract (vs := [.agg #[.slice r20.1.a y18.1.X.length r20.1.cap, .slice r20.2.a y18.1.Price.length r20.2.cap, .int .i64 y18.1.Cost], .int .i64 y18.2])) ?_
      refine ow_ev (ev_extract (vs := [.agg #[.slice r20.1.a y18.1.X.length r20.1.cap, .slice r20.2.a y18.1.Price.length r20.2.cap, .int .i64 y18.1.Cost], .int .i64 y18.2])) ?_
      refine ow_ev ev_assign ?_
      refine ow_nil (hK8 _ _ ?_); clear hK8
      refine cw_seq fun K9 hK9 => ?_
      refine cw_region ?_
      refine ow_ev (ev_load_all (b := b1)) ?_
      obtain ⟨y21, hy22, hM⟩ := bind_some hM
      refine ow_cons (st_callF SelL.nil (fun S w hs hP => flow_Cut_spec _ w g0 r_g0 y21 hy22 (lend_lt hs) ⟨(Kn.lend (Kn.imm (α := List Int) (r := r_g0.1) (x := g0.Supply) (by repeat (first | exact Has.head | apply Has.tail))) hs), (Kn.lend (Kn.imm (α := List Arc) (r := r_g0.2) (x := g0.Arcs) (by repeat (first | exact Has.head | apply Has.tail))) hs)⟩) (by intro r c hc; simp only [List.mem_cons, List.not_mem_nil, or_false] at hc; rcases hc with rfl <;> first | exact flatC_own | exact flatC_trow (fun _ _ _ _ => trivial)) (fun r23 => ?_))
      dsimp only [List.cons_append, List.nil_append]
      refine ow_ev ev_move ?_
      refine ow_ev (ev_extract (vs := [.slice r23.a y21.1.length r23.cap, .bool y21.2])) ?_
      refine ow_ev (ev_extract (vs := [.slice r23.a y21.1.length r23.cap, .bool y21.2])) ?_
      refine ow_ev ev_assign ?_
      refine ow_nil (hK9 _ _ ?_); clear hK9
      refine cw_seq fun K10 hK10 => ?_
      refine cw_region ?_
      obtain ⟨y24, hy25, hM⟩ := bind_some hM
      refine ow_cons (st_callv (fun w hm => let ⟨S, hs⟩ := hm; law27_awake_spec _ w  y24 hy25 (lend_lt hs) ) ?_)
      refine ow_ev ev_move ?_
      refine ow_evg rfl (ev_load_all (b := b1)) ?_
      obtain ⟨y26, hy27, hM⟩ := bind_some hM
      refine ow_callg rfl (fun hg w hm => let ⟨S, hs⟩ := hm; ref24_CheckGraph_spec _ w g0 r_g0 y26 (whn_some hy27 hg) (lend_lt hs) ⟨(Kn.lend (Kn.imm (α := List Int) (r := r_g0.1) (x := g0.Supply) (by repeat (first | exact Has.head | apply Has.tail))) hs), (Kn.lend (Kn.imm (α := List Arc) (r := r_g0.2) (x := g0.Arcs) (by repeat (first | exact Has.head | apply Has.tail))) hs)⟩) ?_
      refine ow_evg rfl ev_move ?_
      refine ow_evg rfl ev_move ?_
      refine ow_evg rfl ev_eql ?_
      refine ow_evg rfl ev_move ?_
      refine ow_evg rfl ev_move ?_
      refine ow_evg rfl ev_not ?_
      refine ow_evg rfl ev_and ?_
      refine ow_evg rfl ev_or ?_
      refine ow_ev ev_and ?_
      refine ow_ev ev_assign ?_
      refine ow_nil (hK10 _ _ ?_); clear hK10
      obtain rfl := some_inj hM
      refine cw_ret (kw_retc1 (fun w hm => ret_of hm rfl))

end Go.Proofs.Ytedocibniankjaa
