/- Models of functions, and that the code computes them. -/
import Derived.Test.YtedocibniankjaaCs
namespace Go.Proofs.Ytedocibniankjaa
open Go.Dc Go.RowKit
set_option maxRecDepth 10000
set_option linter.unusedVariables false
def ref24_permissible_k2 (tasks0 : List Task) (x4 : Int) (r0 : Rules) (cont1 : (Int × Nat) → Option Bool) (t16_1 : Nat) : Int → Option Bool := fun run_j2 =>
  (idx tasks0 x4).bind fun x6 =>
  (idx tasks0 x4).bind fun x8 =>
  chk (i64b (x6.End - x8.Start)) <|
  chk (i64b (run_j2 + (x6.End - x8.Start))) <|
  if decide (r0.Limit < (run_j2 + (x6.End - x8.Start))) then
    (some false)
  else
    (cont1 ((run_j2 + (x6.End - x8.Start)), t16_1 + 1))
def ref24_permissible_k3 (r0 : Rules) (run_1 : Int) (tasks0 : List Task) (x4 : Int) (cont1 : (Int × Nat) → Option Bool) (t16_1 : Nat) : (Int × Int × Int × Int × Int × Int × Int × Int × Int × Int) → Option Bool := fun (a_j3_0, a_j3_1, a_j3_2, a_j3_3, a_j3_4, b_j3_0, b_j3_1, b_j3_2, b_j3_3, b_j3_4) =>
  (ref24_Follows_m r0 (Task.mk a_j3_0 a_j3_1 a_j3_2 a_j3_3 a_j3_4) (Task.mk b_j3_0 b_j3_1 b_j3_2 b_j3_3 b_j3_4)).bind fun y14 =>
  chk (i64b (run_1 + y14.1)) <|
  (whn (decide (a_j3_2 = b_j3_1)) default (ref24_member_m r0.Shops a_j3_2)).bind fun y17 =>
  chk (!(decide (a_j3_2 = b_j3_1) && y17) || i64b (b_j3_3 - a_j3_4)) <|
  chk (!(decide (a_j3_2 = b_j3_1) && y17) || i64b (r0.Turn + r0.Service)) <|
  if ((decide (a_j3_2 = b_j3_1) && y17) && decide ((r0.Turn + r0.Service) ≤ (b_j3_3 - a_j3_4))) then
    (ref24_permissible_k2 tasks0 x4 r0 cont1 t16_1 0)
  else
    (ref24_permissible_k2 tasks0 x4 r0 cont1 t16_1 (run_1 + y14.1))
def ref24_permissible_k1 : Unit → Option Bool := fun _ =>
  some true
def ref24_permissible_b1 (part0 : List Int) (tasks0 : List Task) (r0 : Rules) (cont1 : (Int × Nat) → Option Bool) : (Int × Nat) → Option Bool := fun (run_1, t16_1) =>
  if decide ((t16_1 : Int) < (part0.length : Int)) then
    ((idx part0 (t16_1 : Int)).bind fun x4 =>
    if decide (0 < (t16_1 : Int)) then
      (chk (i64b ((t16_1 : Int) - 1)) <|
      (idx part0 ((t16_1 : Int) - 1)).bind fun x23 =>
      (idx tasks0 x23).bind fun x25 =>
      (idx tasks0 x4).bind fun x27 =>
      ref24_permissible_k3 r0 run_1 tasks0 x4 cont1 t16_1 (x25.Type_, x25.From, x25.To, x25.Start, x25.End, x27.Type_, x27.From, x27.To, x27.Start, x27.End))
    else
      (ref24_permissible_k2 tasks0 x4 r0 cont1 t16_1 run_1))
  else
    (ref24_permissible_k1 ())
def ref24_permissible_m (tasks0 : List Task) (r0 : Rules) (part0 : List Int) : Option Bool :=
  iter (ref24_permissible_b1 part0 tasks0 r0) FUEL (0, 0)
theorem ref24_permissible_spec (S : Soup) (w : World) (tasks0 : List Task) (r_tasks0 : GoRep.R (List Task)) (r0 : Rules) (r_r0 : GoRep.R Rules) (part0 : List Int) (r_part0 : GoRep.R (List Int)) (y : Bool) (hM : ref24_permissible_m tasks0 r0 part0 = some y) (hS : ∀ k, S k → k < w.heap.size) (h_tasks0 : GoRep.ok S w r_tasks0 tasks0) (h_r0 : GoRep.ok S w r_r0 r0) (h_part0 : GoRep.ok S w r_part0 part0) :
    Calls Try.prog 73 #[.slice r_tasks0.a tasks0.length r_tasks0.cap, .agg #[.int .i64 r0.Turn, .slice r_r0.1.a r0.Empties.length r_r0.1.cap, .slice r_r0.2.a r0.Shops.length r_r0.2.cap, .int .i64 r0.Service, .int .i64 r0.Limit], .slice r_part0.a part0.length r_part0.cap] w (Ret w (.bool y)) := by
  refine calls_cw (args := [_, _, _]) Try.func73 rfl ((pre_nil hS).start |>.immP (α := List Task) (r := r_tasks0) (x := tasks0) h_tasks0|>.immP (α := List EmptyT) (r := r_r0.1) (x := r0.Empties) h_r0.1|>.immP (α := List Int) (r := r_r0.2) (x := r0.Shops) h_r0.2|>.immP (α := List Int) (r := r_part0) (x := part0) h_part0) rfl ?_
  unfold ref24_permissible_m at hM
  refine cw_seq fun K1 hK1 => ?_
  refine cw_region ?_
  refine ow_cons (st_box (l := [.int .i64 r0.Turn, .slice r_r0.1.a r0.Empties.length r_r0.1.cap, .slice r_r0.2.a r0.Shops.length r_r0.2.cap, .int .i64 r0.Service, .int .i64 r0.Limit]) (k := fun b1 => ?_))
  refine ow_ev ev_assign ?_
  refine ow_nil (hK1 _ _ ?_); clear hK1
  refine cw_seq fun K2 hK2 => ?_
  refine cw_region ?_
  refine ow_ev ev_assign ?_
  refine ow_nil (hK2 _ _ ?_); clear hK2
  refine cw_seq fun K3 hK3 => ?_
  refine cw_seq fun K4 hK4 => ?_
  refine cw_region ?_
  refine ow_ev ev_move ?_
  refine ow_have (fun w hm => Kn.len (Kn.imm (α := List Int) (r := r_part0) (x := part0) (by repeat (first | exact Has.head | apply Has.tail))) hm) fun hl2 => ?_
  refine ow_ev ev_len ?_
  refine ow_ev ev_move ?_
  refine ow_nil (hK4 _ _ ?_); clear hK4
  refine cw_block ?_
  refine cw_loop (γ := Nat × (Int × Nat) × Unit) (env := fun (_, (run_1, t16_1), _) => [(0, .v (.slice r_tasks0.a tasks0.length r_tasks0.cap)), (2, .v (.slice r_part0.a part0.length r_part0.cap)), (4, .v (.pointer (some ⟨b1, 0, none⟩))), (7, .v (.int .i64 run_1)), (14, .v (.slice r_part0.a part0.length r_part0.cap)), (15, .v (.int .i64 (part0.length : Int))), (16, .v (.int .i64 (t16_1 : Int)))]) (mem := fun (_, (run_1, t16_1), _) => [imm (α := (List Task)) r_tasks0 tasks0, imm (α := (List Int)) r_part0 part0, imm (α := (List EmptyT)) r_r0.1 r0.Empties, imm (α := (List Int)) r_r0.2 r0.Shops, own b1 53 [.int .i64 r0.Turn, .slice r_r0.1.a r0.Empties.length r_r0.1.cap, .slice r_r0.2.a r0.Shops.length r_r0.2.cap, .int .i64 r0.Service, .int .i64 r0.Limit]]) (R := fun g => iter (ref24_permissible_b1 part0 tasks0 r0) g.1 g.2.1 = some y) (μ := fun g => g.1) (FUEL, (0, 0), ()) hM ⟨rfl, rfl, rfl, rfl, rfl, rfl, rfl, trivial⟩ (fun w hm => hm.reord) ?_
  clear hM
  intro g hM KL1 hL1
  obtain ⟨nn1, ⟨run_1, t16_1⟩, ⟨⟩⟩ := g
  dsimp only at hM ⊢
  obtain ⟨nn1, cont1, rfl, hcont1, hM⟩ := iter_open' hM
  dsimp only [ref24_permissible_b1] at hM
  refine cw_seq fun K5 hK5 => ?_
  refine cw_region ?_
  refine ow_ev ev_lss ?_
  refine ow_nil (hK5 _ _ ?_); clear hK5
  refine cw_seq fun K6 hK6 => ?_
  refine cw_cond rfl (fun hc3 => ?_) (fun hc3 => ?_)
  ·
    replace hM := (ite_t hc3).symm.trans hM
    have hc3d := of_decide_eq_true hc3
    refine cw_skip (hK6 _ _ ?_); clear hK6
    refine cw_seq fun K7 hK7 => ?_
    refine cw_block ?_
    refine cw_seq fun K8 hK8 => ?_
    refine cw_region ?_
    refine ow_ev ev_move ?_
    obtain ⟨x4, hx5, hM⟩ := bind_some hM
    refine ow_ev (ev_idx (xs := part0) 1 (Kn.imm (α := List Int) (r := r_part0) (x := part0) (by repeat (first | exact Has.head | apply Has.tail))) (fun hg => let h := idx_some hx5; ⟨h.1, h.2.1⟩)) ?_
    refine ow_ev (ev_ld (i := (t16_1 : Int)) (xs := part0) (y := x4) 0 (Kn.imm (α := List Int) (r := r_part0) (x := part0) (by repeat (first | exact Has.head | apply Has.tail))) (fun _ => hx5)) ?_
    refine ow_ev ev_assign ?_
    refine ow_ev ev_assign ?_
    refine ow_nil (hK8 _ _ ?_); clear hK8
    refine cw_cut (γ := Int × Unit) (env := fun (run_j2, _) => [(0, .v (.slice r_tasks0.a tasks0.length r_tasks0.cap)), (2, .v (.slice r_part0.a part0.length r_part0.cap)), (4, .v (.pointer (some ⟨b1, 0, none⟩))), (7, .v (.int .i64 run_j2)), (9, .v (.int .i64 x4)), (14, .v (.slice r_part0.a part0.length r_part0.cap)), (15, .v (.int .i64 (part0.length : Int))), (16, .v (.int .i64 (t16_1 : Int)))]) (mem := fun (run_j2, _) => [imm (α := (List Task)) r_tasks0 tasks0, imm (α := (List Int)) r_part0 part0, imm (α := (List EmptyT)) r_r0.1 r0.Empties, imm (α := (List Int)) r_r0.2 r0.Shops, own b1 53 [.int .i64 r0.Turn, .slice r_r0.1.a r0.Empties.length r_r0.1.cap, .slice r_r0.2.a r0.Shops.length r_r0.2.cap, .int .i64 r0.Service, .int .i64 r0.Limit]]) (R := fun g => ref24_permissible_k2 tasks0 x4 r0 cont1 t16_1 g.1 = some y) ?_ ?_
    · intro KJ2 hJ2
      refine cw_seq fun K12 hK12 => ?_
      refine cw_region ?_
      refine ow_ev ev_move ?_
      refine ow_ev ev_gtr ?_
      refine ow_nil (hK12 _ _ ?_); clear hK12
      refine cw_cond rfl (fun hc13 => ?_) (fun hc13 => ?_)
      ·
        replace hM := (ite_t hc13).symm.trans hM
        refine cw_cut (γ := (Int × Int × Int × Int × Int × Int × Int × Int × Int × Int) × (Nat × Nat)) (env := fun ((a_j3_0, a_j3_1, a_j3_2, a_j3_3, a_j3_4, b_j3_0, b_j3_1, b_j3_2, b_j3_3, b_j3_4), (ba_j3, bb_j3)) => [(0, .v (.slice r_tasks0.a tasks0.length r_tasks0.cap)), (2, .v (.slice r_part0.a part0.length r_part0.cap)), (4, .v (.pointer (some ⟨b1, 0, none⟩))), (7, .v (.int .i64 run_1)), (9, .v (.int .i64 x4)), (10, .v (.pointer (some ⟨ba_j3, 0, none⟩))), (11, .v (.pointer (some ⟨bb_j3, 0, none⟩))), (14, .v (.slice r_part0.a part0.length r_part0.cap)), (15, .v (.int .i64 (part0.length : Int))), (16, .v (.int .i64 (t16_1 : Int)))]) (mem := fun ((a_j3_0, a_j3_1, a_j3_2, a_j3_3, a_j3_4, b_j3_0, b_j3_1, b_j3_2, b_j3_3, b_j3_4), (ba_j3, bb_j3)) => [imm (α := (List Task)) r_tasks0 tasks0, imm (α := (List Int)) r_part0 part0, imm (α := (List EmptyT)) r_r0.1 r0.Empties, imm (α := (List Int)) r_r0.2 r0.Shops, own b1 53 [.int .i64 r0.Turn, .slice r_r0.1.a r0.Empties.length r_r0.1.cap, .slice r_r0.2.a r0.Shops.length r_r0.2.cap, .int .i64 r0.Service, .int .i64 r0.Limit], own ba_j3 60 [.int .i64 a_j3_0, .int .i64 a_j3_1, .int .i64 a_j3_2, .int .i64 a_j3_3, .int .i64 a_j3_4], own bb_j3 60 [.int .i64 b_j3_0, .int .i64 b_j3_1, .int .i64 b_j3_2, .int .i64 b_j3_3, .int .i64 b_j3_4]]) (R := fun g => ref24_permissible_k3 r0 run_1 tasks0 x4 cont1 t16_1 g.1 = some y) ?_ ?_
        · intro KJ3 hJ3
          refine cw_region_any _ (List.Sublist.refl _) ?_
          refine aw_ev 0 rfl ev_move ?_
          refine aw_ev 1 rfl ev_move ?_
          refine aw_ev 2 rfl ev_move ?_
          obtain ⟨hI22, hM⟩ := chk_some hM
          refine aw_ev 3 rfl (ev_sub (hr := fun hg => i64b_I64 hI22)) ?_
          obtain ⟨x23, hx24, hM⟩ := bind_some hM
          refine aw_ev 4 rfl (ev_idx (xs := part0) 1 (Kn.imm (α := List Int) (r := r_part0) (x := part0) (by repeat (first | exact Has.head | apply Has.tail))) (fun hg => let h := idx_some hx24; ⟨h.1, h.2.1⟩)) ?_
          refine aw_ev 5 rfl (ev_ld (i := ((t16_1 : Int) - 1)) (xs := part0) (y := x23) 0 (Kn.imm (α := List Int) (r := r_part0) (x := part0) (by repeat (first | exact Has.head | apply Has.tail))) (fun _ => hx24)) ?_
          obtain ⟨x25, hx26, hM⟩ := bind_some hM
          refine aw_ev 6 rfl (ev_idx (xs := tasks0) 5 (Kn.imm (α := List Task) (r := r_tasks0) (x := tasks0) (by repeat (first | exact Has.head | apply Has.tail))) (fun hg => let h := idx_some hx26; ⟨h.1, h.2.1⟩)) ?_
          refine aw_ev 7 rfl (ev_lds (m := 5) (i := x23) (xs := tasks0) (y := x25) (l := [.int .i64 x25.Type_, .int .i64 x25.From, .int .i64 x25.To, .int .i64 x25.Start, .int .i64 x25.End]) 0 (Kn.imm (α := List Task) (r := r_tasks0) (x := tasks0) (by repeat (first | exact Has.head | apply Has.tail))) (fun _ => hx26)) ?_
          refine aw_ev 8 rfl ev_move ?_
          refine aw_ev 9 rfl ev_move ?_
          obtain ⟨x27, hx28, hM⟩ := bind_some hM
          refine aw_ev 10 rfl (ev_idx (xs := tasks0) 5 (Kn.imm (α := List Task) (r := r_tasks0) (x := tasks0) (by repeat (first | exact Has.head | apply Has.tail))) (fun hg => let h := idx_some hx28; ⟨h.1, h.2.1⟩)) ?_
          refine aw_ev 11 rfl (ev_lds (m := 5) (i := x4) (xs := tasks0) (y := x27) (l := [.int .i64 x27.Type_, .int .i64 x27.From, .int .i64 x27.To, .int .i64 x27.Start, .int .i64 x27.End]) 0 (Kn.imm (α := List Task) (r := r_tasks0) (x := tasks0) (by repeat (first | exact Has.head | apply Has.tail))) (fun _ => hx28)) ?_
          refine aw_two 12 13 (⟨_, rfl, rfl, st_alloc rfl (k := fun b29 => ⟨fun w hm => hm.sub (by repeat (first | exact List.Sublist.refl _ | apply List.Sublist.cons_cons | apply List.Sublist.cons)), ?_⟩)⟩) (⟨_, rfl, rfl, st_alloc rfl (k := fun b30 => ⟨fun w hm => hm.sub (by repeat (first | exact List.Sublist.refl _ | apply List.Sublist.cons_cons | apply List.Sublist.cons)), ?_⟩)⟩)
          ·
            refine aw_one 13 rfl (st_alloc rfl (k := fun b31 => ⟨fun w hm => hm.sub (by repeat (first | exact List.Sublist.refl _ | apply List.Sublist.cons_cons | apply List.Sublist.cons)), ?_⟩))
            refine aw_one 14 rfl (st_store_all (b := b29) (vs := [.int .i64 x25.Type_, .int .i64 x25.From, .int .i64 x25.To, .int .i64 x25.Start, .int .i64 x25.End]) (k := ⟨fun w hm => hm.sub (by repeat (first | exact List.Sublist.refl _ | apply List.Sublist.cons_cons | apply List.Sublist.cons)), ?_⟩))
            refine aw_one 15 rfl (st_store_all (b := b31) (vs := [.int .i64 x27.Type_, .int .i64 x27.From, .int .i64 x27.To, .int .i64 x27.Start, .int .i64 x27.End]) (k := ⟨fun w hm => hm.sub (by repeat (first | exact List.Sublist.refl _ | apply List.Sublist.cons_cons | apply List.Sublist.cons)), ?_⟩))
            refine aw_done (hJ3 ((x25.Type_, x25.From, x25.To, x25.Start, x25.End, x27.Type_, x27.From, x27.To, x27.Start, x27.End), (b29, b31)) _ _ hM ⟨rfl, rfl, rfl, rfl, rfl, rfl, rfl, rfl, rfl, rfl, trivial⟩ (fun w hm => hm.reord))
          ·
            refine aw_one 12 rfl (st_alloc rfl (k := fun b32 => ⟨fun w hm => hm.sub (by repeat (first | exact List.Sublist.refl _ | apply List.Sublist.cons_cons | apply List.Sublist.cons)), ?_⟩))
            refine aw_one 14 rfl (st_store_all (b := b32) (vs := [.int .i64 x25.Type_, .int .i64 x25.From, .int .i64 x25.To, .int .i64 x25.Start, .int .i64 x25.End]) (k := ⟨fun w hm => hm.sub (by repeat (first | exact List.Sublist.refl _ | apply List.Sublist.cons_cons | apply List.Sublist.cons)), ?_⟩))
            refine aw_one 15 rfl (st_store_all (b := b30) (vs := [.int .i64 x27.Type_, .int .i64 x27.From, .int .i64 x27.To, .int .i64 x27.Start, .int .i64 x27.End]) (k := ⟨fun w hm => hm.sub (by repeat (first | exact List.Sublist.refl _ | apply List.Sublist.cons_cons | apply List.Sublist.cons)), ?_⟩))
            refine aw_done (hJ3 ((x25.Type_, x25.From, x25.To, x25.Start, x25.End, x27.Type_, x27.From, x27.To, x27.Start, x27.End), (b32, b30)) _ _ hM ⟨rfl, rfl, rfl, rfl, rfl, rfl, rfl, rfl, rfl, rfl, trivial⟩ (fun w hm => hm.reord))
        ·
          clear hM
          intro g hM
          obtain ⟨⟨a_j3_0, a_j3_1, a_j3_2, a_j3_3, a_j3_4, b_j3_0, b_j3_1, b_j3_2, b_j3_3, b_j3_4⟩, ⟨ba_j3, bb_j3⟩⟩ := g
          dsimp only at hM ⊢
          dsimp only [ref24_permissible_k3] at hM
          refine cw_seq fun K13 hK13 => ?_
          refine cw_region ?_
          refine ow_ev (ev_load_all (b := b1)) ?_
          refine ow_ev (ev_load_all (b := ba_j3)) ?_
          refine ow_ev (ev_load_all (b := bb_j3)) ?_
          obtain ⟨y14, hy15, hM⟩ := bind_some hM
          refine ow_cons (st_callv (fun w hm => let ⟨S, hs⟩ := hm; ref24_Follows_spec _ w r0 r_r0 (Task.mk a_j3_0 a_j3_1 a_j3_2 a_j3_3 a_j3_4) (Task.mk b_j3_0 b_j3_1 b_j3_2 b_j3_3 b_j3_4) y14 hy15 (lend_lt hs) ⟨(Kn.lend (Kn.imm (α := List EmptyT) (r := r_r0.1) (x := r0.Empties) (by repeat (first | exact Has.head | apply Has.tail))) hs), (Kn.lend (Kn.imm (α := List Int) (r := r_r0.2) (x := r0.Shops) (by repeat (first | exact Has.head | apply Has.tail))) hs)⟩) ?_)
          refine ow_ev ev_move ?_
          refine ow_ev (ev_extract (vs := [.int .i64 y14.1, .bool y14.2])) ?_
          refine ow_ev (ev_extract (vs := [.int .i64 y14.1, .bool y14.2])) ?_
          refine ow_ev ev_assign ?_
          refine ow_ev ev_assign ?_
          refine ow_nil (hK13 _ _ ?_); clear hK13
          refine cw_seq fun K14 hK14 => ?_
          refine cw_region ?_
          refine ow_ev ev_move ?_
          refine ow_ev ev_move ?_
          obtain ⟨hI16, hM⟩ := chk_some hM
          refine ow_ev (ev_add (hr := fun hg => i64b_I64 hI16)) ?_
          refine ow_ev ev_assign ?_
          refine ow_nil (hK14 _ _ ?_); clear hK14
          refine cw_seq fun K15 hK15 => ?_
          refine cw_region ?_
          refine ow_ev (ev_field_addr 2) ?_
          refine ow_ev (ev_load_own (b := ba_j3)) ?_
          refine ow_ev (ev_field_addr 1) ?_
          refine ow_ev (ev_load_own (b := bb_j3)) ?_
          refine ow_ev ev_eql ?_
          refine ow_ev ev_move ?_
          refine ow_evg rfl (ev_field_addr 2) ?_
          refine ow_evg rfl (ev_load_own (b := b1)) ?_
          refine ow_evg rfl (ev_field_addr 2) ?_
          refine ow_evg rfl (ev_load_own (b := ba_j3)) ?_
          obtain ⟨y17, hy18, hM⟩ := bind_some hM
          refine ow_callg rfl (fun hg w hm => let ⟨S, hs⟩ := hm; ref24_member_spec _ w r0.Shops r_r0.2 a_j3_2 y17 (whn_some hy18 hg) (lend_lt hs) (Kn.lend (Kn.imm (α := List Int) (r := r_r0.2) (x := r0.Shops) (by repeat (first | exact Has.head | apply Has.tail))) hs)) ?_
          refine ow_ev ev_and ?_
          refine ow_ev ev_move ?_
          refine ow_evg rfl (ev_field_addr 3) ?_
          refine ow_evg rfl (ev_load_own (b := bb_j3)) ?_
          refine ow_evg rfl (ev_field_addr 4) ?_
          refine ow_evg rfl (ev_load_own (b := ba_j3)) ?_
          obtain ⟨hI19, hM⟩ := chk_some hM
          refine ow_evg rfl (ev_sub (hr := fun hg => i64b_I64 (gor hI19 hg))) ?_
          refine ow_evg rfl (ev_field_addr 0) ?_
          refine ow_evg rfl (ev_load_own (b := b1)) ?_
          refine ow_evg rfl (ev_field_addr 3) ?_
          refine ow_evg rfl (ev_load_own (b := b1)) ?_
          obtain ⟨hI20, hM⟩ := chk_some hM
          refine ow_evg rfl (ev_add (hr := fun hg => i64b_I64 (gor hI20 hg))) ?_
          refine ow_evg rfl ev_geq ?_
          refine ow_ev ev_and ?_
          refine ow_nil (hK15 _ _ ?_); clear hK15
          refine cw_cond rfl (fun hc21 => ?_) (fun hc21 => ?_)
          ·
            replace hM := (ite_t hc21).symm.trans hM
            refine cw_region ?_
            refine ow_ev ev_assign ?_
            refine ow_nil (hJ2 (0, ()) _ _ hM ⟨rfl, rfl, rfl, rfl, rfl, rfl, rfl, rfl, trivial⟩ (fun w hm => hm.reord))
          ·
            replace hM := (ite_f hc21).symm.trans hM
            refine cw_skip (hJ2 ((run_1 + y14.1), ()) _ _ hM ⟨rfl, rfl, rfl, rfl, rfl, rfl, rfl, rfl, trivial⟩ (fun w hm => hm.reord))
      ·
        replace hM := (ite_f hc13).symm.trans hM
        refine cw_skip (hJ2 (run_1, ()) _ _ hM ⟨rfl, rfl, rfl, rfl, rfl, rfl, rfl, rfl, trivial⟩ (fun w hm => hm.reord))
    ·
      clear hM
      intro g hM
      obtain ⟨run_j2, ⟨⟩⟩ := g
      dsimp only at hM ⊢
      dsimp only [ref24_permissible_k2] at hM
      refine cw_seq fun K9 hK9 => ?_
      refine cw_region_any _ (List.Sublist.refl _) ?_
      refine aw_ev 0 rfl ev_move ?_
      refine aw_ev 1 rfl ev_move ?_
      refine aw_ev 2 rfl ev_move ?_
      obtain ⟨x6, hx7, hM⟩ := bind_some hM
      refine aw_ev 3 rfl (ev_idx (xs := tasks0) 5 (Kn.imm (α := List Task) (r := r_tasks0) (x := tasks0) (by repeat (first | exact Has.head | apply Has.tail))) (fun hg => let h := idx_some hx7; ⟨h.1, h.2.1⟩)) ?_
      refine aw_ev 4 rfl (ev_field_addr 4) ?_
      refine aw_ev 5 rfl (ev_ld (i := x4) (xs := tasks0) (y := x6) 4 (Kn.imm (α := List Task) (r := r_tasks0) (x := tasks0) (by repeat (first | exact Has.head | apply Has.tail))) (fun _ => hx7)) ?_
      refine aw_ev 6 rfl ev_move ?_
      refine aw_ev 7 rfl ev_move ?_
      obtain ⟨x8, hx9, hM⟩ := bind_some hM
      refine aw_ev 8 rfl (ev_idx (xs := tasks0) 5 (Kn.imm (α := List Task) (r := r_tasks0) (x := tasks0) (by repeat (first | exact Has.head | apply Has.tail))) (fun hg => let h := idx_some hx9; ⟨h.1, h.2.1⟩)) ?_
      refine aw_ev 9 rfl (ev_field_addr 3) ?_
      refine aw_ev 10 rfl (ev_ld (i := x4) (xs := tasks0) (y := x8) 3 (Kn.imm (α := List Task) (r := r_tasks0) (x := tasks0) (by repeat (first | exact Has.head | apply Has.tail))) (fun _ => hx9)) ?_
      obtain ⟨hI10, hM⟩ := chk_some hM
      refine aw_ev 11 rfl (ev_sub (hr := fun hg => i64b_I64 hI10)) ?_
      obtain ⟨hI11, hM⟩ := chk_some hM
      refine aw_ev 12 rfl (ev_add (hr := fun hg => i64b_I64 hI11)) ?_
      refine aw_ev 13 rfl ev_assign ?_
      refine aw_done (hK9 _ _ ?_); clear hK9
      refine cw_seq fun K10 hK10 => ?_
      refine cw_region ?_
      refine ow_ev ev_move ?_
      refine ow_ev (ev_field_addr 4) ?_
      refine ow_ev (ev_load_own (b := b1)) ?_
      refine ow_ev ev_gtr ?_
      refine ow_nil (hK10 _ _ ?_); clear hK10
      refine cw_cond rfl (fun hc12 => ?_) (fun hc12 => ?_)
      ·
        replace hM := (ite_t hc12).symm.trans hM
        refine cw_seq fun K11 hK11 => ?_
        refine cw_region ?_
        refine ow_ev ev_assign ?_
        refine ow_nil (hK11 _ _ ?_); clear hK11
        obtain rfl := some_inj hM
        refine cw_ret (kw_retc1 (fun w hm => ret_of hm rfl))
      ·
        replace hM := (ite_f hc12).symm.trans hM
        refine cw_skip (hK7 _ _ ?_); clear hK7
        refine cw_region ?_
        refine ow_ev (ev_add (hr := fun _ => by unfold I64; omega)) ?_
        refine ow_ev ev_move ?_
        refine ow_nil (hL1 (nn1, ((run_j2 + (x6.End - x8.Start)), t16_1 + 1), ()) _ _ (eqc hcont1 hM) (Nat.lt_succ_self _) ⟨rfl, rfl, rfl, rfl, rfl, rfl, rfl, trivial⟩ (fun w hm => hm.reord))
  ·
    replace hM := (ite_f hc3).symm.trans hM
    refine cw_exit (hK3 _ _ ?_); clear hK3
    dsimp only [ref24_permissible_k1] at hM
    refine cw_seq fun K16 hK16 => ?_
    refine cw_region ?_
    refine ow_ev ev_assign ?_
    refine ow_nil (hK16 _ _ ?_); clear hK16
    obtain rfl := some_inj hM
    refine cw_ret (kw_retc1 (fun w hm => ret_of hm rfl))

def ref24_Permissible_m (tasks0 : List Task) (r0 : Rules) (part0 : List Int) : Option Bool :=
  (ref24_permissible_m tasks0 r0 part0).bind fun y2 =>
  some y2
theorem ref24_Permissible_spec (S : Soup) (w : World) (tasks0 : List Task) (r_tasks0 : GoRep.R (List Task)) (r0 : Rules) (r_r0 : GoRep.R Rules) (part0 : List Int) (r_part0 : GoRep.R (List Int)) (y : Bool) (hM : ref24_Permissible_m tasks0 r0 part0 = some y) (hS : ∀ k, S k → k < w.heap.size) (h_tasks0 : GoRep.ok S w r_tasks0 tasks0) (h_r0 : GoRep.ok S w r_r0 r0) (h_part0 : GoRep.ok S w r_part0 part0) :
    Calls Try.prog 51 #[.slice r_tasks0.a tasks0.length r_tasks0.cap, .agg #[.int .i64 r0.Turn, .slice r_r0.1.a r0.Empties.length r_r0.1.cap, .slice r_r0.2.a r0.Shops.length r_r0.2.cap, .int .i64 r0.Service, .int .i64 r0.Limit], .slice r_part0.a part0.length r_part0.cap] w (Ret w (.bool y)) := by
  refine calls_cw (args := [_, _, _]) Try.func51 rfl ((pre_nil hS).start |>.immP (α := List Task) (r := r_tasks0) (x := tasks0) h_tasks0|>.immP (α := List EmptyT) (r := r_r0.1) (x := r0.Empties) h_r0.1|>.immP (α := List Int) (r := r_r0.2) (x := r0.Shops) h_r0.2|>.immP (α := List Int) (r := r_part0) (x := part0) h_part0) rfl ?_
  unfold ref24_Permissible_m at hM
  refine cw_seq fun K1 hK1 => ?_
  refine cw_region ?_
  refine ow_cons (st_box (l := [.int .i64 r0.Turn, .slice r_r0.1.a r0.Empties.length r_r0.1.cap, .slice r_r0.2.a r0.Shops.length r_r0.2.cap, .int .i64 r0.Service, .int .i64 r0.Limit]) (k := fun b1 => ?_))
  refine ow_ev ev_assign ?_
  refine ow_nil (hK1 _ _ ?_); clear hK1
  refine cw_seq fun K2 hK2 => ?_
  refine cw_region ?_
  refine ow_ev ev_move ?_
  refine ow_ev (ev_load_all (b := b1)) ?_
  refine ow_ev ev_move ?_
  obtain ⟨y2, hy3, hM⟩ := bind_some hM
  refine ow_cons (st_callv (fun w hm => let ⟨S, hs⟩ := hm; ref24_permissible_spec _ w tasks0 r_tasks0 r0 r_r0 part0 r_part0 y2 hy3 (lend_lt hs) (Kn.lend (Kn.imm (α := List Task) (r := r_tasks0) (x := tasks0) (by repeat (first | exact Has.head | apply Has.tail))) hs) ⟨(Kn.lend (Kn.imm (α := List EmptyT) (r := r_r0.1) (x := r0.Empties) (by repeat (first | exact Has.head | apply Has.tail))) hs), (Kn.lend (Kn.imm (α := List Int) (r := r_r0.2) (x := r0.Shops) (by repeat (first | exact Has.head | apply Has.tail))) hs)⟩ (Kn.lend (Kn.imm (α := List Int) (r := r_part0) (x := part0) (by repeat (first | exact Has.head | apply Has.tail))) hs)) ?_)
  refine ow_ev ev_assign ?_
  refine ow_nil (hK2 _ _ ?_); clear hK2
  obtain rfl := some_inj hM
  refine cw_ret (kw_retc1 (fun w hm => ret_of hm rfl))

def ref24_Split_k2 (cont1 : Nat → Option ((List (List Int)) × Int)) (t23_1 : Nat) : Unit → Option ((List (List Int)) × Int) := fun _ =>
  cont1 (t23_1 + 1)
def ref24_Split_k5 (chain0 : List Int) (from_3 : Int) (to_4 : Int) (lout_3 : List (List Int)) (cont3 : ((List (List Int)) × Int) → Option ((List (List Int)) × Int)) : Unit → Option ((List (List Int)) × Int) := fun _ =>
  (sub chain0 from_3 to_4).bind fun l47 =>
  chk (decide ((([] : List Int).length + l47.length) * 8 ≤ 140737488355328)) <|
  chk (decide ((lout_3.length + ([(([] : List Int) ++ l47)] : List (List Int)).length) * 24 ≤ 140737488355328)) <|
  cont3 ((lout_3 ++ ([(([] : List Int) ++ l47)] : List (List Int))), to_4)
def ref24_Split_b4 (chain0 : List Int) (from_3 : Int) (tasks0 : List Task) (r0 : Rules) (lout_3 : List (List Int)) (cont3 : ((List (List Int)) × Int) → Option ((List (List Int)) × Int)) (cont4 : Int → Option ((List (List Int)) × Int)) : Int → Option ((List (List Int)) × Int) := fun to_4 =>
  chk (!(decide (to_4 < (chain0.length : Int))) || i64b (to_4 + 1)) <|
  if decide (to_4 < (chain0.length : Int)) then
  ((sub chain0 from_3 (to_4 + 1)).bind fun l40 =>
  (ref24_permissible_m tasks0 r0 l40).bind fun y43 =>
  if (decide (to_4 < (chain0.length : Int)) && y43) then
    (chk (i64b (to_4 + 1)) <|
    cont4 (to_4 + 1))
  else
    (ref24_Split_k5 chain0 from_3 to_4 lout_3 cont3 ()))
  else
  (ref24_Split_k5 chain0 from_3 to_4 lout_3 cont3 ())
def ref24_Split_k4 (lout_3 : List (List Int)) : Unit → Option ((List (List Int)) × Int) := fun _ =>
  some (lout_3, 0)
def ref24_Split_b3 (chain0 : List Int) (tasks0 : List Task) (r0 : Rules) (cont3 : ((List (List Int)) × Int) → Option ((List (List Int)) × Int)) : ((List (List Int)) × Int) → Option ((List (List Int)) × Int) := fun (lout_3, from_3) =>
  if decide (from_3 < (chain0.length : Int)) then
    (chk (i64b (from_3 + 1)) <|
    iter (ref24_Split_b4 chain0 from_3 tasks0 r0 lout_3 cont3) FUEL (from_3 + 1))
  else
    (ref24_Split_k4 lout_3 ())
def ref24_Split_k3 (chain0 : List Int) (tasks0 : List Task) (r0 : Rules) : Unit → Option ((List (List Int)) × Int) := fun _ =>
  iter (ref24_Split_b3 chain0 tasks0 r0) FUEL (([] : List (List Int)), 0)
def ref24_Split_b2 (chain0 : List Int) (tasks0 : List Task) (r0 : Rules) (cont2 : Nat → Option ((List (List Int)) × Int)) : Nat → Option ((List (List Int)) × Int) := fun t60_2 =>
  if decide ((t60_2 : Int) < (chain0.length : Int)) then
    ((idx chain0 (t60_2 : Int)).bind fun x26 =>
    (idx tasks0 x26).bind fun x28 =>
    (idx tasks0 x26).bind fun x30 =>
    chk (i64b (x28.End - x30.Start)) <|
    if decide (r0.Limit < (x28.End - x30.Start)) then
      (some (([] : List (List Int)), 14))
    else
      (cont2 (t60_2 + 1)))
  else
    (ref24_Split_k3 chain0 tasks0 r0 ())
def ref24_Split_k1 (chain0 : List Int) (tasks0 : List Task) (r0 : Rules) : Unit → Option ((List (List Int)) × Int) := fun _ =>
  iter (ref24_Split_b2 chain0 tasks0 r0) FUEL 0
def ref24_Split_b1 (chain0 : List Int) (tasks0 : List Task) (r0 : Rules) (cont1 : Nat → Option ((List (List Int)) × Int)) : Nat → Option ((List (List Int)) × Int) := fun t23_1 =>
  if decide ((t23_1 : Int) < (chain0.length : Int)) then
    ((idx chain0 (t23_1 : Int)).bind fun x8 =>
    if (decide (x8 < 0) || decide ((tasks0.length : Int) ≤ x8)) then
      (some (([] : List (List Int)), 1))
    else
      (if decide (0 < (t23_1 : Int)) then
        (chk (i64b ((t23_1 : Int) - 1)) <|
        (idx chain0 ((t23_1 : Int) - 1)).bind fun x14 =>
        (idx tasks0 x14).bind fun x16 =>
        (idx tasks0 x8).bind fun x18 =>
        (ref24_Follows_m r0 x16 x18).bind fun y20 =>
        if (!y20.2) then
          (some (([] : List (List Int)), 1))
        else
          (ref24_Split_k2 cont1 t23_1 ()))
      else
        (ref24_Split_k2 cont1 t23_1 ())))
  else
    (ref24_Split_k1 chain0 tasks0 r0 ())
def ref24_Split_m (tasks0 : List Task) (r0 : Rules) (chain0 : List Int) : Option ((List (List Int)) × Int) :=
  (ref24_CheckTasks_m tasks0 r0).bind fun y2 =>
  if (!y2) then
    (some (([] : List (List Int)), 1))
  else
    (iter (ref24_Split_b1 chain0 tasks0 r0) FUEL 0)
theorem ref24_Split_spec (S : Soup) (w : World) (tasks0 : List Task) (r_tasks0 : GoRep.R (List Task)) (r0 : Rules) (r_r0 : GoRep.R Rules) (chain0 : List Int) (r_chain0 : GoRep.R (List Int)) (y : (List (List Int)) × Int) (hM : ref24_Split_m tasks0 r0 chain0 = some y) (hS : ∀ k, S k → k < w.heap.size) (h_tasks0 : GoRep.ok S w r_tasks0 tasks0) (h_r0 : GoRep.ok S w r_r0 r0) (h_chain0 : GoRep.ok S w r_chain0 chain0) :
    Calls Try.prog 50 #[.slice r_tasks0.a tasks0.length r_tasks0.cap, .agg #[.int .i64 r0.Turn, .slice r_r0.1.a r0.Empties.length r_r0.1.cap, .slice r_r0.2.a r0.Shops.length r_r0.2.cap, .int .i64 r0.Service, .int .i64 r0.Limit], .slice r_chain0.a chain0.length r_chain0.cap] w (Post (β := (GoRep.R (List (List Int)))) S [] (fun g => .tuple #[.slice g.a y.1.length g.cap, .int .i64 y.2]) (fun g => [trow 22 g y.1]) w) := by
  refine calls_cw (args := [_, _, _]) Try.func50 rfl ((pre_nil hS).start |>.immP (α := List Task) (r := r_tasks0) (x := tasks0) h_tasks0|>.immP (α := List EmptyT) (r := r_r0.1) (x := r0.Empties) h_r0.1|>.immP (α := List Int) (r := r_r0.2) (x := r0.Shops) h_r0.2|>.immP (α := List Int) (r := r_chain0) (x := chain0) h_chain0) rfl ?_
  unfold ref24_Split_m at hM
  refine cw_seq fun K1 hK1 => ?_
  refine cw_region ?_
  refine ow_cons (st_box (l := [.int .i64 r0.Turn, .slice r_r0.1.a r0.Empties.length r_r0.1.cap, .slice r_r0.2.a r0.Shops.length r_r0.2.cap, .int .i64 r0.Service, .int .i64 r0.Limit]) (k := fun b1 => ?_))
  refine ow_ev ev_assign ?_
  refine ow_ev ev_assign ?_
  refine ow_nil (hK1 _ _ ?_); clear hK1
  refine cw_seq fun K2 hK2 => ?_
  refine cw_seq fun K3 hK3 => ?_
  refine cw_region ?_
  refine ow_ev ev_move ?_
  refine ow_ev (ev_load_all (b := b1)) ?_
  obtain ⟨y2, hy3, hM⟩ := bind_some hM
  refine ow_cons (st_callv (fun w hm => let ⟨S, hs⟩ := hm; ref24_CheckTasks_spec _ w tasks0 r_tasks0 r0 r_r0 y2 hy3 (lend_lt hs) (Kn.lend (Kn.imm (α := List Task) (r := r_tasks0) (x := tasks0) (by repeat (first | exact Has.head | apply Has.tail))) hs) ⟨(Kn.lend (Kn.imm (α := List EmptyT) (r := r_r0.1) (x := r0.Empties) (by repeat (first | exact Has.head | apply Has.tail))) hs), (Kn.lend (Kn.imm (α := List Int) (r := r_r0.2) (x := r0.Shops) (by repeat (first | exact Has.head | apply Has.tail))) hs)⟩) ?_)
  refine ow_ev ev_not ?_
  refine ow_nil (hK3 _ _ ?_); clear hK3
  refine cw_cond rfl (fun hc4 => ?_) (fun hc4 => ?_)
  ·
    replace hM := (ite_t hc4).symm.trans hM
    refine cw_seq fun K4 hK4 => ?_
    refine cw_region ?_
    refine ow_ev ev_assign ?_
    refine ow_ev ev_assign ?_
    refine ow_nil (hK4 _ _ ?_); clear hK4
    refine cw_imp (fun w hm => hm.row_nil (α := List Int) 22 (fun _ => (⟨none, 0, (fun _ => ())⟩ : SR (GoRep.R Int)))) ?_
    obtain rfl := some_inj hM
    refine cw_ret (kw_retc2 (fun w hm => post_of (⟨none, 0, (fun _ => (⟨none, 0, (fun _ => ())⟩ : SR (GoRep.R Int)))⟩ : SR (GoRep.R (List Int)) ) hm rfl))
  ·
    replace hM := (ite_f hc4).symm.trans hM
    refine cw_skip (hK2 _ _ ?_); clear hK2
    refine cw_seq fun K5 hK5 => ?_
    refine cw_seq fun K6 hK6 => ?_
    refine cw_region ?_
    refine ow_ev ev_move ?_
    refine ow_have (fun w hm => Kn.len (Kn.imm (α := List Int) (r := r_chain0) (x := chain0) (by repeat (first | exact Has.head | apply Has.tail))) hm) fun hl6 => ?_
    refine ow_ev ev_len ?_
    refine ow_ev ev_move ?_
    refine ow_nil (hK6 _ _ ?_); clear hK6
    refine cw_block ?_
    refine cw_loop (γ := Nat × Nat × Unit) (env := fun (_, t23_1, _) => [(0, .v (.slice r_tasks0.a tasks0.length r_tasks0.cap)), (2, .v (.slice r_chain0.a chain0.length r_chain0.cap)), (4, .v (.pointer (some ⟨b1, 0, none⟩))), (21, .v (.slice r_chain0.a chain0.length r_chain0.cap)), (22, .v (.int .i64 (chain0.length : Int))), (23, .v (.int .i64 (t23_1 : Int)))]) (mem := fun (_, t23_1, _) => [imm (α := (List Task)) r_tasks0 tasks0, imm (α := (List Int)) r_chain0 chain0, imm (α := (List EmptyT)) r_r0.1 r0.Empties, imm (α := (List Int)) r_r0.2 r0.Shops, own b1 53 [.int .i64 r0.Turn, .slice r_r0.1.a r0.Empties.length r_r0.1.cap, .slice r_r0.2.a r0.Shops.length r_r0.2.cap, .int .i64 r0.Service, .int .i64 r0.Limit]]) (R := fun g => iter (ref24_Split_b1 chain0 tasks0 r0) g.1 g.2.1 = some y) (μ := fun g => g.1) (FUEL, 0, ()) hM ⟨rfl, rfl, rfl, rfl, rfl, rfl, trivial⟩ (fun w hm => hm.reord) ?_
    clear hM
    intro g hM KL1 hL1
    obtain ⟨nn1, t23_1, ⟨⟩⟩ := g
    dsimp only at hM ⊢
    obtain ⟨nn1, cont1, rfl, hcont1, hM⟩ := iter_open' hM
    dsimp only [ref24_Split_b1] at hM
    refine cw_seq fun K7 hK7 => ?_
    refine cw_region ?_
    refine ow_ev ev_lss ?_
    refine ow_nil (hK7 _ _ ?_); clear hK7
    refine cw_seq fun K8 hK8 => ?_
    refine cw_cond rfl (fun hc7 => ?_) (fun hc7 => ?_)
    ·
      replace hM := (ite_t hc7).symm.trans hM
      have hc7d := of_decide_eq_true hc7
      refine cw_skip (hK8 _ _ ?_); clear hK8
      refine cw_cut (γ := Unit × Unit) (env := fun (_, _) => [(0, .v (.slice r_tasks0.a tasks0.length r_tasks0.cap)), (2, .v (.slice r_chain0.a chain0.length r_chain0.cap)), (4, .v (.pointer (some ⟨b1, 0, none⟩))), (21, .v (.slice r_chain0.a chain0.length r_chain0.cap)), (22, .v (.int .i64 (chain0.length : Int))), (23, .v (.int .i64 (t23_1 : Int)))]) (mem := fun (_, _) => [imm (α := (List Task)) r_tasks0 tasks0, imm (α := (List Int)) r_chain0 chain0, imm (α := (List EmptyT)) r_r0.1 r0.Empties, imm (α := (List Int)) r_r0.2 r0.Shops, own b1 53 [.int .i64 r0.Turn, .slice r_r0.1.a r0.Empties.length r_r0.1.cap, .slice r_r0.2.a r0.Shops.length r_r0.2.cap, .int .i64 r0.Service, .int .i64 r0.Limit]]) (R := fun g => ref24_Split_k2 cont1 t23_1 g.1 = some y) ?_ ?_
      · intro KJ2 hJ2
        refine cw_block ?_
        refine cw_seq fun K9 hK9 => ?_
        refine cw_region ?_
        refine ow_ev ev_move ?_
        obtain ⟨x8, hx9, hM⟩ := bind_some hM
        refine ow_ev (ev_idx (xs := chain0) 1 (Kn.imm (α := List Int) (r := r_chain0) (x := chain0) (by repeat (first | exact Has.head | apply Has.tail))) (fun hg => let h := idx_some hx9; ⟨h.1, h.2.1⟩)) ?_
        refine ow_ev (ev_ld (i := (t23_1 : Int)) (xs := chain0) (y := x8) 0 (Kn.imm (α := List Int) (r := r_chain0) (x := chain0) (by repeat (first | exact Has.head | apply Has.tail))) (fun _ => hx9)) ?_
        refine ow_ev ev_assign ?_
        refine ow_ev ev_assign ?_
        refine ow_nil (hK9 _ _ ?_); clear hK9
        refine cw_seq fun K10 hK10 => ?_
        refine cw_seq fun K11 hK11 => ?_
        refine cw_region ?_
        refine ow_ev ev_move ?_
        refine ow_ev ev_lss ?_
        refine ow_ev ev_move ?_
        refine ow_evg rfl ev_move ?_
        refine ow_evg rfl ev_move ?_
        refine ow_evg rfl ev_len ?_
        refine ow_evg rfl ev_geq ?_
        refine ow_ev ev_or ?_
        refine ow_nil (hK11 _ _ ?_); clear hK11
        refine cw_cond rfl (fun hc10 => ?_) (fun hc10 => ?_)
        ·
          replace hM := (ite_t hc10).symm.trans hM
          refine cw_seq fun K12 hK12 => ?_
          refine cw_region ?_
          refine ow_ev ev_assign ?_
          refine ow_ev ev_assign ?_
          refine ow_nil (hK12 _ _ ?_); clear hK12
          refine cw_imp (fun w hm => hm.row_nil (α := List Int) 22 (fun _ => (⟨none, 0, (fun _ => ())⟩ : SR (GoRep.R Int)))) ?_
          obtain rfl := some_inj hM
          refine cw_ret (kw_retc2 (fun w hm => post_of (⟨none, 0, (fun _ => (⟨none, 0, (fun _ => ())⟩ : SR (GoRep.R Int)))⟩ : SR (GoRep.R (List Int))                                                                                                                                                                                                                                                                                                                                                                                                                                    ) hm rfl))
        ·
          replace hM := (ite_f hc10).symm.trans hM
          refine cw_skip (hK10 _ _ ?_); clear hK10
          refine cw_seq fun K13 hK13 => ?_
          refine cw_region ?_
          refine ow_ev ev_move ?_
          refine ow_ev ev_gtr ?_
          refine ow_nil (hK13 _ _ ?_); clear hK13
          refine cw_cond rfl (fun hc12 => ?_) (fun hc12 => ?_)
          ·
            replace hM := (ite_t hc12).symm.trans hM
            refine cw_seq fun K14 hK14 => ?_
            refine cw_region_any _ (List.Sublist.refl _) ?_
            refine aw_ev 0 rfl (ev_load_all (b := b1)) ?_
            refine aw_ev 1 rfl ev_move ?_
            refine aw_ev 2 rfl ev_move ?_
            refine aw_ev 3 rfl ev_move ?_
            obtain ⟨hI13, hM⟩ := chk_some hM
            refine aw_ev 4 rfl (ev_sub (hr := fun hg => i64b_I64 hI13)) ?_
            obtain ⟨x14, hx15, hM⟩ := bind_some hM
            refine aw_ev 5 rfl (ev_idx (xs := chain0) 1 (Kn.imm (α := List Int) (r := r_chain0) (x := chain0) (by repeat (first | exact Has.head | apply Has.tail))) (fun hg => let h := idx_some hx15; ⟨h.1, h.2.1⟩)) ?_
            refine aw_ev 6 rfl (ev_ld (i := ((t23_1 : Int) - 1)) (xs := chain0) (y := x14) 0 (Kn.imm (α := List Int) (r := r_chain0) (x := chain0) (by repeat (first | exact Has.head | apply Has.tail))) (fun _ => hx15)) ?_
            obtain ⟨x16, hx17, hM⟩ := bind_some hM
            refine aw_ev 7 rfl (ev_idx (xs := tasks0) 5 (Kn.imm (α := List Task) (r := r_tasks0) (x := tasks0) (by repeat (first | exact Has.head | apply Has.tail))) (fun hg => let h := idx_some hx17; ⟨h.1, h.2.1⟩)) ?_
            refine aw_ev 8 rfl (ev_lds (m := 5) (i := x14) (xs := tasks0) (y := x16) (l := [.int .i64 x16.Type_, .int .i64 x16.From, .int .i64 x16.To, .int .i64 x16.Start, .int .i64 x16.End]) 0 (Kn.imm (α := List Task) (r := r_tasks0) (x := tasks0) (by repeat (first | exact Has.head | apply Has.tail))) (fun _ => hx17)) ?_
            refine aw_ev 9 rfl ev_move ?_
            refine aw_ev 10 rfl ev_move ?_
            obtain ⟨x18, hx19, hM⟩ := bind_some hM
            refine aw_ev 11 rfl (ev_idx (xs := tasks0) 5 (Kn.imm (α := List Task) (r := r_tasks0) (x := tasks0) (by repeat (first | exact Has.head | apply Has.tail))) (fun hg => let h := idx_some hx19; ⟨h.1, h.2.1⟩)) ?_
            refine aw_ev 12 rfl (ev_lds (m := 5) (i := x8) (xs := tasks0) (y := x18) (l := [.int .i64 x18.Type_, .int .i64 x18.From, .int .i64 x18.To, .int .i64 x18.Start, .int .i64 x18.End]) 0 (Kn.imm (α := List Task) (r := r_tasks0) (x := tasks0) (by repeat (first | exact Has.head | apply Has.tail))) (fun _ => hx19)) ?_
            obtain ⟨y20, hy21, hM⟩ := bind_some hM
            refine aw_one 13 rfl (st_callv (fun w hm => let ⟨S, hs⟩ := hm; ref24_Follows_spec _ w r0 r_r0 x16 x18 y20 hy21 (lend_lt hs) ⟨(Kn.lend (Kn.imm (α := List EmptyT) (r := r_r0.1) (x := r0.Empties) (by repeat (first | exact Has.head | apply Has.tail))) hs), (Kn.lend (Kn.imm (α := List Int) (r := r_r0.2) (x := r0.Shops) (by repeat (first | exact Has.head | apply Has.tail))) hs)⟩) ⟨fun w hm => hm.sub (by repeat (first | exact List.Sublist.refl _ | apply List.Sublist.cons_cons | apply List.Sublist.cons)), ?_⟩)
            refine aw_ev 14 rfl ev_move ?_
            refine aw_ev 15 rfl (ev_extract (vs := [.int .i64 y20.1, .bool y20.2])) ?_
            refine aw_ev 16 rfl (ev_extract (vs := [.int .i64 y20.1, .bool y20.2])) ?_
            refine aw_ev 17 rfl ev_assign ?_
            refine aw_ev 18 rfl ev_assign ?_
            refine aw_done (hK14 _ _ ?_); clear hK14
            refine cw_seq fun K15 hK15 => ?_
            refine cw_region ?_
            refine ow_ev ev_move ?_
            refine ow_ev ev_not ?_
            refine ow_nil (hK15 _ _ ?_); clear hK15
            refine cw_cond rfl (fun hc22 => ?_) (fun hc22 => ?_)
            ·
              replace hM := (ite_t hc22).symm.trans hM
              refine cw_seq fun K16 hK16 => ?_
              refine cw_region ?_
              refine ow_ev ev_assign ?_
              refine ow_ev ev_assign ?_
              refine ow_nil (hK16 _ _ ?_); clear hK16
              refine cw_imp (fun w hm => hm.row_nil (α := List Int) 22 (fun _ => (⟨none, 0, (fun _ => ())⟩ : SR (GoRep.R Int)))) ?_
              obtain rfl := some_inj hM
              refine cw_ret (kw_retc2 (fun w hm => post_of (⟨none, 0, (fun _ => (⟨none, 0, (fun _ => ())⟩ : SR (GoRep.R Int)))⟩ : SR (GoRep.R (List Int))                                                                                                                                                                                                                                                                                                                                                                                                                                     ) hm rfl))
            ·
              replace hM := (ite_f hc22).symm.trans hM
              refine cw_skip (hJ2 ((), ()) _ _ hM ⟨rfl, rfl, rfl, rfl, rfl, rfl, trivial⟩ (fun w hm => hm.reord))
          ·
            replace hM := (ite_f hc12).symm.trans hM
            refine cw_skip (hJ2 ((), ()) _ _ hM ⟨rfl, rfl, rfl, rfl, rfl, rfl, trivial⟩ (fun w hm => hm.reord))
      ·
        clear hM
        intro g hM
        obtain ⟨⟨⟩, ⟨⟩⟩ := g
        dsimp only at hM ⊢
        dsimp only [ref24_Split_k2] at hM
        refine cw_region ?_
        refine ow_ev (ev_add (hr := fun _ => by unfold I64; omega)) ?_
        refine ow_ev ev_move ?_
        refine ow_nil (hL1 (nn1, (t23_1 + 1), ()) _ _ (eqc hcont1 hM) (Nat.lt_succ_self _) ⟨rfl, rfl, rfl, rfl, rfl, rfl, trivial⟩ (fun w hm => hm.reord))
    ·
      replace hM := (ite_f hc7).symm.trans hM
      refine cw_exit (hK5 _ _ ?_); clear hK5
      dsimp only [ref24_Split_k1] at hM
      refine cw_seq fun K17 hK17 => ?_
      refine cw_seq fun K18 hK18 => ?_
      refine cw_region ?_
      refine ow_ev ev_move ?_
      refine ow_have (fun w hm => Kn.len (Kn.imm (α := List Int) (r := r_chain0) (x := chain0) (by repeat (first | exact Has.head | apply Has.tail))) hm) fun hl24 => ?_
      refine ow_ev ev_len ?_
      refine ow_ev ev_move ?_
      refine ow_nil (hK18 _ _ ?_); clear hK18
      refine cw_block ?_
      refine cw_loop (γ := Nat × Nat × Unit) (env := fun (_, t60_2, _) => [(0, .v (.slice r_tasks0.a tasks0.length r_tasks0.cap)), (2, .v (.slice r_chain0.a chain0.length r_chain0.cap)), (4, .v (.pointer (some ⟨b1, 0, none⟩))), (58, .v (.slice r_chain0.a chain0.length r_chain0.cap)), (59, .v (.int .i64 (chain0.length : Int))), (60, .v (.int .i64 (t60_2 : Int)))]) (mem := fun (_, t60_2, _) => [imm (α := (List Task)) r_tasks0 tasks0, imm (α := (List Int)) r_chain0 chain0, imm (α := (List EmptyT)) r_r0.1 r0.Empties, imm (α := (List Int)) r_r0.2 r0.Shops, own b1 53 [.int .i64 r0.Turn, .slice r_r0.1.a r0.Empties.length r_r0.1.cap, .slice r_r0.2.a r0.Shops.length r_r0.2.cap, .int .i64 r0.Service, .int .i64 r0.Limit]]) (R := fun g => iter (ref24_Split_b2 chain0 tasks0 r0) g.1 g.2.1 = some y) (μ := fun g => g.1) (FUEL, 0, ()) hM ⟨rfl, rfl, rfl, rfl, rfl, rfl, trivial⟩ (fun w hm => hm.reord) ?_
      clear hM
      intro g hM KL2 hL2
      obtain ⟨nn2, t60_2, ⟨⟩⟩ := g
      dsimp only at hM ⊢
      obtain ⟨nn2, cont2, rfl, hcont2, hM⟩ := iter_open' hM
      dsimp only [ref24_Split_b2] at hM
      refine cw_seq fun K19 hK19 => ?_
      refine cw_region ?_
      refine ow_ev ev_lss ?_
      refine ow_nil (hK19 _ _ ?_); clear hK19
      refine cw_seq fun K20 hK20 => ?_
      refine cw_cond rfl (fun hc25 => ?_) (fun hc25 => ?_)
      ·
        replace hM := (ite_t hc25).symm.trans hM
        have hc25d := of_decide_eq_true hc25
        refine cw_skip (hK20 _ _ ?_); clear hK20
        refine cw_seq fun K21 hK21 => ?_
        refine cw_block ?_
        refine cw_seq fun K22 hK22 => ?_
        refine cw_region ?_
        obtain ⟨x26, hx27, hM⟩ := bind_some hM
        refine ow_ev (ev_idx (xs := chain0) 1 (Kn.imm (α := List Int) (r := r_chain0) (x := chain0) (by repeat (first | exact Has.head | apply Has.tail))) (fun hg => let h := idx_some hx27; ⟨h.1, h.2.1⟩)) ?_
        refine ow_ev (ev_ld (i := (t60_2 : Int)) (xs := chain0) (y := x26) 0 (Kn.imm (α := List Int) (r := r_chain0) (x := chain0) (by repeat (first | exact Has.head | apply Has.tail))) (fun _ => hx27)) ?_
        refine ow_ev ev_assign ?_
        refine ow_nil (hK22 _ _ ?_); clear hK22
        refine cw_seq fun K23 hK23 => ?_
        refine cw_region_any _ (List.Sublist.refl _) ?_
        refine aw_ev 0 rfl ev_move ?_
        refine aw_ev 1 rfl ev_move ?_
        obtain ⟨x28, hx29, hM⟩ := bind_some hM
        refine aw_ev 2 rfl (ev_idx (xs := tasks0) 5 (Kn.imm (α := List Task) (r := r_tasks0) (x := tasks0) (by repeat (first | exact Has.head | apply Has.tail))) (fun hg => let h := idx_some hx29; ⟨h.1, h.2.1⟩)) ?_
        refine aw_ev 3 rfl (ev_field_addr 4) ?_
        refine aw_ev 4 rfl (ev_ld (i := x26) (xs := tasks0) (y := x28) 4 (Kn.imm (α := List Task) (r := r_tasks0) (x := tasks0) (by repeat (first | exact Has.head | apply Has.tail))) (fun _ => hx29)) ?_
        refine aw_ev 5 rfl ev_move ?_
        refine aw_ev 6 rfl ev_move ?_
        obtain ⟨x30, hx31, hM⟩ := bind_some hM
        refine aw_ev 7 rfl (ev_idx (xs := tasks0) 5 (Kn.imm (α := List Task) (r := r_tasks0) (x := tasks0) (by repeat (first | exact Has.head | apply Has.tail))) (fun hg => let h := idx_some hx31; ⟨h.1, h.2.1⟩)) ?_
        refine aw_ev 8 rfl (ev_field_addr 3) ?_
        refine aw_ev 9 rfl (ev_ld (i := x26) (xs := tasks0) (y := x30) 3 (Kn.imm (α := List Task) (r := r_tasks0) (x := tasks0) (by repeat (first | exact Has.head | apply Has.tail))) (fun _ => hx31)) ?_
        obtain ⟨hI32, hM⟩ := chk_some hM
        refine aw_ev 10 rfl (ev_sub (hr := fun hg => i64b_I64 hI32)) ?_
        refine aw_ev 11 rfl (ev_field_addr 4) ?_
        refine aw_ev 12 rfl (ev_load_own (b := b1)) ?_
        refine aw_ev 13 rfl ev_gtr ?_
        refine aw_done (hK23 _ _ ?_); clear hK23
        refine cw_cond rfl (fun hc33 => ?_) (fun hc33 => ?_)
        ·
          replace hM := (ite_t hc33).symm.trans hM
          refine cw_seq fun K24 hK24 => ?_
          refine cw_region ?_
          refine ow_ev ev_assign ?_
          refine ow_ev ev_assign ?_
          refine ow_nil (hK24 _ _ ?_); clear hK24
          refine cw_imp (fun w hm => hm.row_nil (α := List Int) 22 (fun _ => (⟨none, 0, (fun _ => ())⟩ : SR (GoRep.R Int)))) ?_
          obtain rfl := some_inj hM
          refine cw_ret (kw_retc2 (fun w hm => post_of (⟨none, 0, (fun _ => (⟨none, 0, (fun _ => ())⟩ : SR (GoRep.R Int)))⟩ : SR (GoRep.R (List Int))                                                                                                                                                                                                                                                                                                                                                                                                                                                                                                                      ) hm rfl))
        ·
          replace hM := (ite_f hc33).symm.trans hM
          refine cw_skip (hK21 _ _ ?_); clear hK21
          refine cw_region ?_
          refine ow_ev (ev_add (hr := fun _ => by unfold I64; omega)) ?_
          refine ow_ev ev_move ?_
          refine ow_nil (hL2 (nn2, (t60_2 + 1), ()) _ _ (eqc hcont2 hM) (Nat.lt_succ_self _) ⟨rfl, rfl, rfl, rfl, rfl, rfl, trivial⟩ (fun w hm => hm.reord))
      ·
        replace hM := (ite_f hc25).symm.trans hM
        refine cw_exit (hK17 _ _ ?_); clear hK17
        dsimp only [ref24_Split_k3] at hM
        refine cw_seq fun K25 hK25 => ?_
        refine cw_region ?_
        refine ow_ev ev_assign ?_
        refine ow_nil (hK25 _ _ ?_); clear hK25
        refine cw_seq fun K26 hK26 => ?_
        refine cw_seq fun K27 hK27 => ?_
        refine cw_region ?_
        refine ow_ev ev_assign ?_
        refine ow_nil (hK27 _ _ ?_); clear hK27
        refine cw_block ?_
        refine cw_imp (fun w hm => hm.row_nil (α := List Int) 22 (fun _ => (⟨none, 0, (fun _ => ())⟩ : SR (GoRep.R Int)))) ?_
        refine cw_loop (γ := Nat × ((List (List Int)) × Int) × (SR (GoRep.R (List Int)))) (env := fun (_, (lout_3, from_3), rout_3) => [(0, .v (.slice r_tasks0.a tasks0.length r_tasks0.cap)), (2, .v (.slice r_chain0.a chain0.length r_chain0.cap)), (4, .v (.pointer (some ⟨b1, 0, none⟩))), (14, .v (.slice rout_3.a lout_3.length rout_3.cap)), (15, .v (.int .i64 from_3))]) (mem := fun (_, (lout_3, from_3), rout_3) => [imm (α := (List Task)) r_tasks0 tasks0, imm (α := (List Int)) r_chain0 chain0, imm (α := (List EmptyT)) r_r0.1 r0.Empties, imm (α := (List Int)) r_r0.2 r0.Shops, own b1 53 [.int .i64 r0.Turn, .slice r_r0.1.a r0.Empties.length r_r0.1.cap, .slice r_r0.2.a r0.Shops.length r_r0.2.cap, .int .i64 r0.Service, .int .i64 r0.Limit], trow 22 rout_3 lout_3]) (R := fun g => iter (ref24_Split_b3 chain0 tasks0 r0) g.1 g.2.1 = some y) (μ := fun g => g.1) (FUEL, (([] : List (List Int)), 0), (⟨none, 0, (fun _ => (⟨none, 0, (fun _ => ())⟩ : SR (GoRep.R Int)))⟩ : SR (GoRep.R (List Int))                                                                                                                                                                                                                                                                                                                                                                                                                                                                                                                       )) hM ⟨rfl, rfl, rfl, rfl, rfl, trivial⟩ (fun w hm => hm.reord) ?_
        clear hM
        intro g hM KL3 hL3
        obtain ⟨nn3, ⟨lout_3, from_3⟩, rout_3⟩ := g
        dsimp only at hM ⊢
        obtain ⟨nn3, cont3, rfl, hcont3, hM⟩ := iter_open' hM
        dsimp only [ref24_Split_b3] at hM
        refine cw_seq fun K28 hK28 => ?_
        refine cw_seq fun K29 hK29 => ?_
        refine cw_region ?_
        refine ow_ev ev_move ?_
        refine ow_ev ev_move ?_
        refine ow_ev ev_len ?_
        refine ow_ev ev_lss ?_
        refine ow_nil (hK29 _ _ ?_); clear hK29
        refine cw_cond rfl (fun hc36 => ?_) (fun hc36 => ?_)
        ·
          replace hM := (ite_t hc36).symm.trans hM
          refine cw_skip (hK28 _ _ ?_); clear hK28
          refine cw_block ?_
          refine cw_seq fun K30 hK30 => ?_
          refine cw_region ?_
          refine ow_ev ev_move ?_
          obtain ⟨hI37, hM⟩ := chk_some hM
          refine ow_ev (ev_add (hr := fun hg => i64b_I64 hI37)) ?_
          refine ow_ev ev_assign ?_
          refine ow_nil (hK30 _ _ ?_); clear hK30
          refine cw_seq fun K31 hK31 => ?_
          refine cw_block ?_
          refine cw_loop (γ := Nat × Int × Unit) (env := fun (_, to_4, _) => [(0, .v (.slice r_tasks0.a tasks0.length r_tasks0.cap)), (2, .v (.slice r_chain0.a chain0.length r_chain0.cap)), (4, .v (.pointer (some ⟨b1, 0, none⟩))), (14, .v (.slice rout_3.a lout_3.length rout_3.cap)), (15, .v (.int .i64 from_3)), (16, .v (.int .i64 to_4))]) (mem := fun (_, to_4, _) => [imm (α := (List Task)) r_tasks0 tasks0, imm (α := (List Int)) r_chain0 chain0, imm (α := (List EmptyT)) r_r0.1 r0.Empties, imm (α := (List Int)) r_r0.2 r0.Shops, own b1 53 [.int .i64 r0.Turn, .slice r_r0.1.a r0.Empties.length r_r0.1.cap, .slice r_r0.2.a r0.Shops.length r_r0.2.cap, .int .i64 r0.Service, .int .i64 r0.Limit], trow 22 rout_3 lout_3]) (R := fun g => iter (ref24_Split_b4 chain0 from_3 tasks0 r0 lout_3 cont3) g.1 g.2.1 = some y) (μ := fun g => g.1) (FUEL, (from_3 + 1), ()) hM ⟨rfl, rfl, rfl, rfl, rfl, rfl, trivial⟩ (fun w hm => hm.reord) ?_
          clear hM
          intro g hM KL4 hL4
          obtain ⟨nn4, to_4, ⟨⟩⟩ := g
          dsimp only at hM ⊢
          obtain ⟨nn4, cont4, rfl, hcont4, hM⟩ := iter_open' hM
          dsimp only [ref24_Split_b4] at hM
          refine cw_seq fun K32 hK32 => ?_
          refine cw_seq fun K33 hK33 => ?_
          refine cw_region_any _ (List.Sublist.refl _) ?_
          refine aw_ev 0 rfl ev_move ?_
          refine aw_ev 1 rfl ev_move ?_
          refine aw_ev 2 rfl ev_len ?_
          refine aw_ev 3 rfl ev_lss ?_
          refine aw_ev 4 rfl ev_move ?_
          refine aw_evg 5 rfl rfl ev_move ?_
          refine aw_evg 6 rfl rfl (ev_load_all (b := b1)) ?_
          refine aw_evg 7 rfl rfl ev_move ?_
          refine aw_evg 8 rfl rfl ev_move ?_
          refine aw_evg 9 rfl rfl ev_move ?_
          obtain ⟨hI38, hM⟩ := chk_some hM
          refine aw_evg 10 rfl rfl (ev_add (hr := fun hg => i64b_I64 (gor hI38 hg))) ?_
          refine aw_cases (decide (to_4 < (chain0.length : Int))) (fun hg39 => ?_) (fun hg39 => ?_)
          ·
            replace hM := (ite_t hg39).symm.trans hM
            refine aw_know 90 hg39 rfl ?_
            refine aw_know 91 hg39 rfl ?_
            refine aw_know 92 hg39 rfl ?_
            refine aw_know 93 hg39 rfl ?_
            refine aw_know 94 hg39 rfl ?_
            refine aw_know 95 hg39 rfl ?_
            obtain ⟨l40, hl41, hM⟩ := bind_some hM
            refine aw_gtrue 11 rfl rfl hg39 (st_sub (r := r_chain0) (xs := chain0) (ol := some (.i64, from_3)) (oh := some (.i64, (to_4 + 1))) (Sk.imm (α := List Int) (r := r_chain0) (x := chain0) (by repeat (first | exact Has.head | apply Has.tail))) hl41 (fun r42 => ⟨fun w hm => hm.sub (by repeat (first | exact List.Sublist.refl _ | apply List.Sublist.cons_cons | apply List.Sublist.cons)), ?_⟩))
            obtain ⟨y43, hy44, hM⟩ := bind_some hM
            refine aw_gtrue 12 rfl rfl hg39 (st_callv (fun w hm => let ⟨S, hs⟩ := hm; ref24_permissible_spec _ w tasks0 r_tasks0 r0 r_r0 l40 r42 y43 hy44 (lend_lt hs) (Kn.lend (Kn.imm (α := List Task) (r := r_tasks0) (x := tasks0) (by repeat (first | exact Has.head | apply Has.tail))) hs) ⟨(Kn.lend (Kn.imm (α := List EmptyT) (r := r_r0.1) (x := r0.Empties) (by repeat (first | exact Has.head | apply Has.tail))) hs), (Kn.lend (Kn.imm (α := List Int) (r := r_r0.2) (x := r0.Shops) (by repeat (first | exact Has.head | apply Has.tail))) hs)⟩ (Kn.lend (Kn.imm (α := List Int) (r := r42) (x := l40) (by repeat (first | exact Has.head | apply Has.tail))) hs)) ⟨fun w hm => hm.sub (by repeat (first | exact List.Sublist.refl _ | apply List.Sublist.cons_cons | apply List.Sublist.cons)), ?_⟩)
            refine aw_ev 13 rfl ev_and ?_
            refine aw_done (hK33 _ _ ?_); clear hK33
            refine cw_cond rfl (fun hc45 => ?_) (fun hc45 => ?_)
            ·
              replace hM := (ite_t hc45).symm.trans hM
              refine cw_skip (hK32 _ _ ?_); clear hK32
              refine cw_block ?_
              refine cw_region ?_
              refine ow_ev ev_move ?_
              obtain ⟨hI46, hM⟩ := chk_some hM
              refine ow_ev (ev_add (hr := fun hg => i64b_I64 hI46)) ?_
              refine ow_ev ev_assign ?_
              refine ow_nil (hL4 (nn4, (to_4 + 1), ()) _ _ (eqc hcont4 hM) (Nat.lt_succ_self _) ⟨rfl, rfl, rfl, rfl, rfl, rfl, trivial⟩ (fun w hm => hm.reord))
            ·
              replace hM := (ite_f hc45).symm.trans hM
              refine cw_exit (hK31 _ _ ?_); clear hK31
              dsimp only [ref24_Split_k5] at hM
              refine cw_seq fun K34 hK34 => ?_
              refine cw_region ?_
              refine ow_ev ev_move ?_
              refine ow_ev ev_move ?_
              refine ow_ev ev_move ?_
              refine ow_ev ev_move ?_
              obtain ⟨l47, hl48, hM⟩ := bind_some hM
              refine ow_cons (st_sub (r := r_chain0) (xs := chain0) (ol := some (.i64, from_3)) (oh := some (.i64, to_4)) (Sk.imm (α := List Int) (r := r_chain0) (x := chain0) (by repeat (first | exact Has.head | apply Has.tail))) hl48 (fun r49 => ?_))
              refine ow_imp (fun w hm => hm.row_nil (α := Int) 3 (fun _ => ())) ?_
              obtain ⟨hb51, hM⟩ := chk_some hM
              refine ow_cons (st_append (r := (⟨none, 0, (fun _ => ())⟩ : SR (GoRep.R Int)                                                                                                                                                                                                                                                                                                                                                                                                                                                                                                                                        )) (r2 := r49) (by intro r'; repeat (first | exact Upd.head | apply Upd.tail)) (Kn.imm (α := List Int) (r := r49) (x := l47) (by repeat (first | exact Has.head | apply Has.tail))) (OkL.flat (fun _ _ _ _ => trivial)) (of_decide_eq_true hb51) (fun r52 => ?_))
              refine ow_imp (fun w hm => hm.freeze (r := r52) (by repeat (first | exact Upd.head | apply Upd.tail))) ?_
              refine ow_cons (st_bslice (α := List Int) 22 (fun _ => r52) ([(([] : List Int) ++ l47)] : List (List Int)) (OkL.cons (fun S w hs => ((Sk.imm (α := List Int) (r := r52) (x := (([] : List Int) ++ l47)) (by repeat (first | exact Has.head | apply Has.tail))) S w hs)) OkL.nil) (fun r53 => ?_))
              obtain ⟨hb54, hM⟩ := chk_some hM
              refine ow_cons (st_append (r := rout_3) (r2 := r53) (by intro r'; repeat (first | exact Upd.head | apply Upd.tail)) (Kn.trow (e := 22) (r := r53) (by repeat (first | exact Has.head | apply Has.tail))) (OkL.row (e := 22) (r := r53) (by repeat (first | exact Has.head | apply Has.tail))) (of_decide_eq_true hb54) (fun r55 => ?_))
              refine ow_ev ev_assign ?_
              refine ow_nil (hK34 _ _ ?_); clear hK34
              refine cw_region ?_
              refine ow_ev ev_move ?_
              refine ow_ev ev_assign ?_
              refine ow_nil (hL3 (nn3, ((lout_3 ++ ([(([] : List Int) ++ l47)] : List (List Int))), to_4), r55) _ _ (eqc hcont3 hM) (Nat.lt_succ_self _) ⟨rfl, rfl, rfl, rfl, rfl, trivial⟩ (fun w hm => hm.reord))
          ·
            replace hM := (ite_f hg39).symm.trans hM
            refine aw_gskip 11 rfl rfl hg39 ?_
            refine aw_gskip 12 rfl rfl hg39 ?_
            refine aw_ev 13 rfl (ev_andF hg39) ?_
            refine aw_done (hK33 _ _ ?_); clear hK33
            refine cw_cond_false rfl rfl ?_
            refine cw_exit (hK31 _ _ ?_); clear hK31
            dsimp only [ref24_Split_k5] at hM
            refine cw_seq fun K35 hK35 => ?_
            refine cw_region ?_
            refine ow_ev ev_move ?_
            refine ow_ev ev_move ?_
            refine ow_ev ev_move ?_
            refine ow_ev ev_move ?_
            obtain ⟨l56, hl57, hM⟩ := bind_some hM
            refine ow_cons (st_sub (r := r_chain0) (xs := chain0) (ol := some (.i64, from_3)) (oh := some (.i64, to_4)) (Sk.imm (α := List Int) (r := r_chain0) (x := chain0) (by repeat (first | exact Has.head | apply Has.tail))) hl57 (fun r58 => ?_))
            refine ow_imp (fun w hm => hm.row_nil (α := Int) 3 (fun _ => ())) ?_
            obtain ⟨hb60, hM⟩ := chk_some hM
            refine ow_cons (st_append (r := (⟨none, 0, (fun _ => ())⟩ : SR (GoRep.R Int)                                                                                                                                                                                                                                                                                                                                                                                                                                                                                                                                         )) (r2 := r58) (by intro r'; repeat (first | exact Upd.head | apply Upd.tail)) (Kn.imm (α := List Int) (r := r58) (x := l56) (by repeat (first | exact Has.head | apply Has.tail))) (OkL.flat (fun _ _ _ _ => trivial)) (of_decide_eq_true hb60) (fun r61 => ?_))
            refine ow_imp (fun w hm => hm.freeze (r := r61) (by repeat (first | exact Upd.head | apply Upd.tail))) ?_
            refine ow_cons (st_bslice (α := List Int) 22 (fun _ => r61) ([(([] : List Int) ++ l56)] : List (List Int)) (OkL.cons (fun S w hs => ((Sk.imm (α := List Int) (r := r61) (x := (([] : List Int) ++ l56)) (by repeat (first | exact Has.head | apply Has.tail))) S w hs)) OkL.nil) (fun r62 => ?_))
            obtain ⟨hb63, hM⟩ := chk_some hM
            refine ow_cons (st_append (r := rout_3) (r2 := r62) (by intro r'; repeat (first | exact Upd.head | apply Upd.tail)) (Kn.trow (e := 22) (r := r62) (by repeat (first | exact Has.head | apply Has.tail))) (OkL.row (e := 22) (r := r62) (by repeat (first | exact Has.head | apply Has.tail))) (of_decide_eq_true hb63) (fun r64 => ?_))
            refine ow_ev ev_assign ?_
            refine ow_nil (hK35 _ _ ?_); clear hK35
            refine cw_region ?_
            refine ow_ev ev_move ?_
            refine ow_ev ev_assign ?_
            refine ow_nil (hL3 (nn3, ((lout_3 ++ ([(([] : List Int) ++ l56)] : List (List Int))), to_4), r64) _ _ (eqc hcont3 hM) (Nat.lt_succ_self _) ⟨rfl, rfl, rfl, rfl, rfl, trivial⟩ (fun w hm => hm.reord))
        ·
          replace hM := (ite_f hc36).symm.trans hM
          refine cw_exit (hK26 _ _ ?_); clear hK26
          dsimp only [ref24_Split_k4] at hM
          refine cw_seq fun K36 hK36 => ?_
          refine cw_region ?_
          refine ow_ev ev_move ?_
          refine ow_ev ev_assign ?_
          refine ow_ev ev_assign ?_
          refine ow_nil (hK36 _ _ ?_); clear hK36
          obtain rfl := some_inj hM
          refine cw_ret (kw_retc2 (fun w hm => post_of rout_3 hm rfl))

end Go.Proofs.Ytedocibniankjaa
