/- Models of functions, and that the code computes them. -/
import Derived.Test.YtedocibniankjaaCc
namespace Go.Proofs.Ytedocibniankjaa
open Go.Dc Go.RowKit
set_option maxRecDepth 10000
set_option linter.unusedVariables false
def slices_Contains_int_int_m (s0 : List Int) (v0 : Int) : Option Bool :=
  (slices_Index_int_int_m s0 v0).bind fun y1 =>
  some (decide (0 ≤ y1))
theorem slices_Contains_int_int_spec (S : Soup) (w : World) (s0 : List Int) (r_s0 : GoRep.R (List Int)) (v0 : Int) (y : Bool) (hM : slices_Contains_int_int_m s0 v0 = some y) (hS : ∀ k, S k → k < w.heap.size) (h_s0 : GoRep.ok S w r_s0 s0) :
    Calls Try.prog 81 #[.slice r_s0.a s0.length r_s0.cap, .int .i64 v0] w (Ret w (.bool y)) := by
  refine calls_cw (args := [_, _]) Try.func81 rfl ((pre_nil hS).start |>.immP (α := List Int) (r := r_s0) (x := s0) h_s0) rfl ?_
  unfold slices_Contains_int_int_m at hM
  refine cw_seq fun K1 hK1 => ?_
  refine cw_region ?_
  refine ow_ev ev_assign ?_
  refine ow_nil (hK1 _ _ ?_); clear hK1
  refine cw_seq fun K2 hK2 => ?_
  refine cw_region ?_
  refine ow_ev ev_move ?_
  refine ow_ev ev_move ?_
  obtain ⟨y1, hy2, hM⟩ := bind_some hM
  refine ow_cons (st_callv (fun w hm => let ⟨S, hs⟩ := hm; slices_Index_int_int_spec _ w s0 r_s0 v0 y1 hy2 (lend_lt hs) (Kn.lend (Kn.imm (α := List Int) (r := r_s0) (x := s0) (by repeat (first | exact Has.head | apply Has.tail))) hs)) ?_)
  refine ow_ev ev_geq ?_
  refine ow_ev ev_assign ?_
  refine ow_nil (hK2 _ _ ?_); clear hK2
  obtain rfl := some_inj hM
  refine cw_ret (kw_retc1 (fun w hm => ret_of hm rfl))

def circulation_serviced_m (r0 : Rules) (a0 : Task) (b0 : Task) : Option Bool :=
  (whn (decide (a0.To = b0.From)) default (slices_Contains_int_int_m r0.Shops a0.To)).bind fun y4 =>
  chk (!(decide (a0.To = b0.From) && y4) || i64b (b0.Start - a0.End)) <|
  chk (!(decide (a0.To = b0.From) && y4) || i64b (r0.Turn + r0.Service)) <|
  some ((decide (a0.To = b0.From) && y4) && decide ((r0.Turn + r0.Service) ≤ (b0.Start - a0.End)))
theorem circulation_serviced_spec (S : Soup) (w : World) (r0 : Rules) (r_r0 : GoRep.R Rules) (a0 : Task) (b0 : Task) (y : Bool) (hM : circulation_serviced_m r0 a0 b0 = some y) (hS : ∀ k, S k → k < w.heap.size) (h_r0 : GoRep.ok S w r_r0 r0) :
    Calls Try.prog 72 #[.agg #[.int .i64 r0.Turn, .slice r_r0.1.a r0.Empties.length r_r0.1.cap, .slice r_r0.2.a r0.Shops.length r_r0.2.cap, .int .i64 r0.Service, .int .i64 r0.Limit], .agg #[.int .i64 a0.Type_, .int .i64 a0.From, .int .i64 a0.To, .int .i64 a0.Start, .int .i64 a0.End], .agg #[.int .i64 b0.Type_, .int .i64 b0.From, .int .i64 b0.To, .int .i64 b0.Start, .int .i64 b0.End]] w (Ret w (.bool y)) := by
  refine calls_cw (args := [_, _, _]) Try.func72 rfl ((pre_nil hS).start |>.immP (α := List EmptyT) (r := r_r0.1) (x := r0.Empties) h_r0.1|>.immP (α := List Int) (r := r_r0.2) (x := r0.Shops) h_r0.2) rfl ?_
  unfold circulation_serviced_m at hM
  refine cw_seq fun K1 hK1 => ?_
  refine cw_region ?_
  refine ow_cons (st_box (l := [.int .i64 r0.Turn, .slice r_r0.1.a r0.Empties.length r_r0.1.cap, .slice r_r0.2.a r0.Shops.length r_r0.2.cap, .int .i64 r0.Service, .int .i64 r0.Limit]) (k := fun b1 => ?_))
  refine ow_cons (st_box (l := [.int .i64 a0.Type_, .int .i64 a0.From, .int .i64 a0.To, .int .i64 a0.Start, .int .i64 a0.End]) (k := fun b2 => ?_))
  refine ow_cons (st_box (l := [.int .i64 b0.Type_, .int .i64 b0.From, .int .i64 b0.To, .int .i64 b0.Start, .int .i64 b0.End]) (k := fun b3 => ?_))
  refine ow_ev ev_assign ?_
  refine ow_nil (hK1 _ _ ?_); clear hK1
  refine cw_seq fun K2 hK2 => ?_
  refine cw_region ?_
  refine ow_ev (ev_field_addr 2) ?_
  refine ow_ev (ev_load_own (b := b2)) ?_
  refine ow_ev (ev_field_addr 1) ?_
  refine ow_ev (ev_load_own (b := b3)) ?_
  refine ow_ev ev_eql ?_
  refine ow_ev ev_move ?_
  refine ow_evg rfl (ev_field_addr 2) ?_
  refine ow_evg rfl (ev_load_own (b := b1)) ?_
  refine ow_evg rfl (ev_field_addr 2) ?_
  refine ow_evg rfl (ev_load_own (b := b2)) ?_
  obtain ⟨y4, hy5, hM⟩ := bind_some hM
  refine ow_callg rfl (fun hg w hm => let ⟨S, hs⟩ := hm; slices_Contains_int_int_spec _ w r0.Shops r_r0.2 a0.To y4 (whn_some hy5 hg) (lend_lt hs) (Kn.lend (Kn.imm (α := List Int) (r := r_r0.2) (x := r0.Shops) (by repeat (first | exact Has.head | apply Has.tail))) hs)) ?_
  refine ow_ev ev_and ?_
  refine ow_ev ev_move ?_
  refine ow_evg rfl (ev_field_addr 3) ?_
  refine ow_evg rfl (ev_load_own (b := b3)) ?_
  refine ow_evg rfl (ev_field_addr 4) ?_
  refine ow_evg rfl (ev_load_own (b := b2)) ?_
  obtain ⟨hI6, hM⟩ := chk_some hM
  refine ow_evg rfl (ev_sub (hr := fun hg => i64b_I64 (gor hI6 hg))) ?_
  refine ow_evg rfl (ev_field_addr 0) ?_
  refine ow_evg rfl (ev_load_own (b := b1)) ?_
  refine ow_evg rfl (ev_field_addr 3) ?_
  refine ow_evg rfl (ev_load_own (b := b1)) ?_
  obtain ⟨hI7, hM⟩ := chk_some hM
  refine ow_evg rfl (ev_add (hr := fun hg => i64b_I64 (gor hI7 hg))) ?_
  refine ow_evg rfl ev_geq ?_
  refine ow_ev ev_and ?_
  refine ow_ev ev_assign ?_
  refine ow_nil (hK2 _ _ ?_); clear hK2
  obtain rfl := some_inj hM
  refine cw_ret (kw_retc1 (fun w hm => ret_of hm rfl))

def circulation_Split_k2 (cont1 : Nat → Option ((List (List Int)) × Int)) (t28_1 : Nat) : Unit → Option ((List (List Int)) × Int) := fun _ =>
  cont1 (t28_1 + 1)
def circulation_Split_k6 (x40 : Task) (x42 : Task) (x38 : Int) (cont3 : ((List (List Int)) × Int × Nat) → Option ((List (List Int)) × Int)) (t86_3 : Nat) : ((List (List Int)) × Int) → Option ((List (List Int)) × Int) := fun (lparts_j6, running_j6) =>
  chk (i64b (running_j6 + (x40.End - x42.Start))) <|
  chk (i64b ((lparts_j6.length : Int) - 1)) <|
  chk (i64b ((lparts_j6.length : Int) - 1)) <|
  (idx lparts_j6 ((lparts_j6.length : Int) - 1)).bind fun x48 =>
  chk (decide ((x48.length + ([x38] : List Int).length) * 8 ≤ 140737488355328)) <|
  (idx lparts_j6 ((lparts_j6.length : Int) - 1)).bind fun x53 =>
  cont3 ((lparts_j6.set ((lparts_j6.length : Int) - 1).toNat (x48 ++ ([x38] : List Int))), (running_j6 + (x40.End - x42.Start)), t86_3 + 1)
def circulation_Split_k5 (t86_3 : Nat) (x40 : Task) (x42 : Task) (r0 : Rules) (lparts_3 : List (List Int)) (x38 : Int) (cont3 : ((List (List Int)) × Int × Nat) → Option ((List (List Int)) × Int)) : Int → Option ((List (List Int)) × Int) := fun running_j5 =>
  chk (!(!(decide ((t86_3 : Int) = 0))) || i64b (running_j5 + (x40.End - x42.Start))) <|
  if (decide ((t86_3 : Int) = 0) || decide (r0.Limit < (running_j5 + (x40.End - x42.Start)))) then
    (chk (decide ((lparts_3.length + 1) * 24 ≤ 140737488355328)) <|
    circulation_Split_k6 x40 x42 x38 cont3 t86_3 ((lparts_3 ++ [[]]), 0))
  else
    (circulation_Split_k6 x40 x42 x38 cont3 t86_3 (lparts_3, running_j5))
def circulation_Split_k4 (lparts_3 : List (List Int)) : Unit → Option ((List (List Int)) × Int) := fun _ =>
  some (lparts_3, 0)
def circulation_Split_b3 (chain0 : List Int) (tasks0 : List Task) (r0 : Rules) (cont3 : ((List (List Int)) × Int × Nat) → Option ((List (List Int)) × Int)) : ((List (List Int)) × Int × Nat) → Option ((List (List Int)) × Int) := fun (lparts_3, running_3, t86_3) =>
  if decide ((t86_3 : Int) < (chain0.length : Int)) then
    ((idx chain0 (t86_3 : Int)).bind fun x38 =>
    (idx tasks0 x38).bind fun x40 =>
    (idx tasks0 x38).bind fun x42 =>
    chk (i64b (x40.End - x42.Start)) <|
    if decide (0 < (t86_3 : Int)) then
      (chk (i64b ((t86_3 : Int) - 1)) <|
      (idx chain0 ((t86_3 : Int) - 1)).bind fun x63 =>
      (idx tasks0 x63).bind fun x65 =>
      (idx tasks0 x38).bind fun x68 =>
      (circulation_Follows_m r0 x65 x68).bind fun y70 =>
      (idx tasks0 x38).bind fun x72 =>
      (circulation_serviced_m r0 x65 x72).bind fun y74 =>
      if y74 then
        (circulation_Split_k5 t86_3 x40 x42 r0 lparts_3 x38 cont3 0)
      else
        (chk (i64b (running_3 + y70.1)) <|
        circulation_Split_k5 t86_3 x40 x42 r0 lparts_3 x38 cont3 (running_3 + y70.1)))
    else
      (circulation_Split_k5 t86_3 x40 x42 r0 lparts_3 x38 cont3 running_3))
  else
    (circulation_Split_k4 lparts_3 ())
def circulation_Split_k3 (chain0 : List Int) (tasks0 : List Task) (r0 : Rules) : Unit → Option ((List (List Int)) × Int) := fun _ =>
  iter (circulation_Split_b3 chain0 tasks0 r0) FUEL (([] : List (List Int)), 0, 0)
def circulation_Split_b2 (chain0 : List Int) (tasks0 : List Task) (r0 : Rules) (cont2 : Nat → Option ((List (List Int)) × Int)) : Nat → Option ((List (List Int)) × Int) := fun t65_2 =>
  if decide ((t65_2 : Int) < (chain0.length : Int)) then
    ((idx chain0 (t65_2 : Int)).bind fun x26 =>
    (idx tasks0 x26).bind fun x28 =>
    (idx tasks0 x26).bind fun x30 =>
    chk (i64b (x28.End - x30.Start)) <|
    if decide (r0.Limit < (x28.End - x30.Start)) then
      (some (([] : List (List Int)), 14))
    else
      (cont2 (t65_2 + 1)))
  else
    (circulation_Split_k3 chain0 tasks0 r0 ())
def circulation_Split_k1 (chain0 : List Int) (tasks0 : List Task) (r0 : Rules) : Unit → Option ((List (List Int)) × Int) := fun _ =>
  iter (circulation_Split_b2 chain0 tasks0 r0) FUEL 0
def circulation_Split_b1 (chain0 : List Int) (tasks0 : List Task) (r0 : Rules) (cont1 : Nat → Option ((List (List Int)) × Int)) : Nat → Option ((List (List Int)) × Int) := fun t28_1 =>
  if decide ((t28_1 : Int) < (chain0.length : Int)) then
    ((idx chain0 (t28_1 : Int)).bind fun x8 =>
    if (decide (x8 < 0) || decide ((tasks0.length : Int) ≤ x8)) then
      (some (([] : List (List Int)), 1))
    else
      (if decide ((t28_1 : Int) = 0) then
        (circulation_Split_k2 cont1 t28_1 ())
      else
        (chk (i64b ((t28_1 : Int) - 1)) <|
        (idx chain0 ((t28_1 : Int) - 1)).bind fun x14 =>
        (idx tasks0 x14).bind fun x16 =>
        (idx tasks0 x8).bind fun x18 =>
        (circulation_Follows_m r0 x16 x18).bind fun y20 =>
        if (!y20.2) then
          (some (([] : List (List Int)), 1))
        else
          (circulation_Split_k2 cont1 t28_1 ()))))
  else
    (circulation_Split_k1 chain0 tasks0 r0 ())
def circulation_Split_m (tasks0 : List Task) (r0 : Rules) (chain0 : List Int) : Option ((List (List Int)) × Int) :=
  (circulation_Check_m tasks0 r0).bind fun y2 =>
  if (!y2) then
    (some (([] : List (List Int)), 1))
  else
    (iter (circulation_Split_b1 chain0 tasks0 r0) FUEL 0)
theorem circulation_Split_spec (S : Soup) (w : World) (tasks0 : List Task) (r_tasks0 : GoRep.R (List Task)) (r0 : Rules) (r_r0 : GoRep.R Rules) (chain0 : List Int) (r_chain0 : GoRep.R (List Int)) (y : (List (List Int)) × Int) (hM : circulation_Split_m tasks0 r0 chain0 = some y) (hS : ∀ k, S k → k < w.heap.size) (h_tasks0 : GoRep.ok S w r_tasks0 tasks0) (h_r0 : GoRep.ok S w r_r0 r0) (h_chain0 : GoRep.ok S w r_chain0 chain0) :
    Calls Try.prog 49 #[.slice r_tasks0.a tasks0.length r_tasks0.cap, .agg #[.int .i64 r0.Turn, .slice r_r0.1.a r0.Empties.length r_r0.1.cap, .slice r_r0.2.a r0.Shops.length r_r0.2.cap, .int .i64 r0.Service, .int .i64 r0.Limit], .slice r_chain0.a chain0.length r_chain0.cap] w (Post (β := (GoRep.R (List (List Int)))) S [] (fun g => .tuple #[.slice g.a y.1.length g.cap, .int .i64 y.2]) (fun g => [trow 22 g y.1]) w) := by
  refine calls_cw (args := [_, _, _]) Try.func49 rfl ((pre_nil hS).start |>.immP (α := List Task) (r := r_tasks0) (x := tasks0) h_tasks0|>.immP (α := List EmptyT) (r := r_r0.1) (x := r0.Empties) h_r0.1|>.immP (α := List Int) (r := r_r0.2) (x := r0.Shops) h_r0.2|>.immP (α := List Int) (r := r_chain0) (x := chain0) h_chain0) rfl ?_
  unfold circulation_Split_m at hM
  refine cw_seq fun K1 hK1 => ?_
  refine cw_region ?_
  refine ow_cons (st_box (l := [.int .i64 r0.Turn, .slice r_r0.1.a r0.Empties.length r_r0.1.cap, .slice r_r0.2.a r0.Shops.length r_r0.2.cap, .int .i64 r0.Service, .int .i64 r0.Limit]) (k := fun b1 => ?_))
  refine ow_ev ev_assign ?_
  refine ow_ev ev_assign ?_
  refine ow_nil (hK1 _ _ ?_); clear hK1
  refine cw_seq fun K2 hK2 => ?_
  refine cw_seq fun K3 hK3 => ?_
  refine cw_region ?_
  refine ow_ev ev_move ?_
  refine ow_ev (ev_load_all (b := b1)) ?_
  obtain ⟨y2, hy3, hM⟩ := bind_some hM
  refine ow_cons (st_callv (fun w hm => let ⟨S, hs⟩ := hm; circulation_Check_spec _ w tasks0 r_tasks0 r0 r_r0 y2 hy3 (lend_lt hs) (Kn.lend (Kn.imm (α := List Task) (r := r_tasks0) (x := tasks0) (by repeat (first | exact Has.head | apply Has.tail))) hs) ⟨(Kn.lend (Kn.imm (α := List EmptyT) (r := r_r0.1) (x := r0.Empties) (by repeat (first | exact Has.head | apply Has.tail))) hs), (Kn.lend (Kn.imm (α := List Int) (r := r_r0.2) (x := r0.Shops) (by repeat (first | exact Has.head | apply Has.tail))) hs)⟩) ?_)
  refine ow_ev ev_not ?_
  refine ow_nil (hK3 _ _ ?_); clear hK3
  refine cw_cond rfl (fun hc4 => ?_) (fun hc4 => ?_)
  ·
    replace hM := (ite_t hc4).symm.trans hM
    refine cw_seq fun K4 hK4 => ?_
    refine cw_region ?_
    refine ow_ev ev_assign ?_
    refine ow_ev ev_assign ?_
    refine ow_nil (hK4 _ _ ?_); clear hK4
    refine cw_imp (fun w hm => hm.row_nil (α := List Int) 22 (fun _ => (⟨none, 0, (fun _ => ())⟩ : SR (GoRep.R Int)))) ?_
    refine cw_imp (fun w hm => hm.nil0 (e := 22) (e2 := 3) (fun _ => ⟨rfl, rfl⟩) (by repeat (first | exact Upd.head | apply Upd.tail))) ?_
    refine cw_imp (fun w hm => hm.freeze2 (r := (⟨none, 0, (fun _ => (⟨none, 0, (fun _ => ())⟩ : SR (GoRep.R Int)))⟩ : SR (GoRep.R (List Int)) )) (by repeat (first | exact Upd.head | apply Upd.tail))) ?_
    obtain rfl := some_inj hM
    refine cw_ret (kw_retc2 (fun w hm => post_of (⟨none, 0, (fun _ => (⟨none, 0, (fun _ => ())⟩ : SR (GoRep.R Int)))⟩ : SR (GoRep.R (List Int)) ) hm rfl))
  ·
    replace hM := (ite_f hc4).symm.trans hM
    refine cw_skip (hK2 _ _ ?_); clear hK2
    refine cw_seq fun K5 hK5 => ?_
    refine cw_seq fun K6 hK6 => ?_
    refine cw_region ?_
    refine ow_ev ev_move ?_
    refine ow_have (fun w hm => Kn.len (Kn.imm (α := List Int) (r := r_chain0) (x := chain0) (by repeat (first | exact Has.head | apply Has.tail))) hm) fun hl6 => ?_
    refine ow_ev ev_len ?_
    refine ow_ev ev_move ?_
    refine ow_nil (hK6 _ _ ?_); clear hK6
    refine cw_block ?_
    refine cw_loop (γ := Nat × Nat × Unit) (env := fun (_, t28_1, _) => [(0, .v (.slice r_tasks0.a tasks0.length r_tasks0.cap)), (2, .v (.slice r_chain0.a chain0.length r_chain0.cap)), (4, .v (.pointer (some ⟨b1, 0, none⟩))), (26, .v (.slice r_chain0.a chain0.length r_chain0.cap)), (27, .v (.int .i64 (chain0.length : Int))), (28, .v (.int .i64 (t28_1 : Int)))]) (mem := fun (_, t28_1, _) => [imm (α := (List Task)) r_tasks0 tasks0, imm (α := (List Int)) r_chain0 chain0, imm (α := (List EmptyT)) r_r0.1 r0.Empties, imm (α := (List Int)) r_r0.2 r0.Shops, own b1 53 [.int .i64 r0.Turn, .slice r_r0.1.a r0.Empties.length r_r0.1.cap, .slice r_r0.2.a r0.Shops.length r_r0.2.cap, .int .i64 r0.Service, .int .i64 r0.Limit]]) (R := fun g => iter (circulation_Split_b1 chain0 tasks0 r0) g.1 g.2.1 = some y) (μ := fun g => g.1) (FUEL, 0, ()) hM ⟨rfl, rfl, rfl, rfl, rfl, rfl, trivial⟩ (fun w hm => hm.reord) ?_
    clear hM
    intro g hM KL1 hL1
    obtain ⟨nn1, t28_1, ⟨⟩⟩ := g
    dsimp only at hM ⊢
    obtain ⟨nn1, cont1, rfl, hcont1, hM⟩ := iter_open' hM
    dsimp only [circulation_Split_b1] at hM
    refine cw_seq fun K7 hK7 => ?_
    refine cw_region ?_
    refine ow_ev ev_lss ?_
    refine ow_nil (hK7 _ _ ?_); clear hK7
    refine cw_seq fun K8 hK8 => ?_
    refine cw_cond rfl (fun hc7 => ?_) (fun hc7 => ?_)
    ·
      replace hM := (ite_t hc7).symm.trans hM
      have hc7d := of_decide_eq_true hc7
      refine cw_skip (hK8 _ _ ?_); clear hK8
      refine cw_cut (γ := Unit × Unit) (env := fun (_, _) => [(0, .v (.slice r_tasks0.a tasks0.length r_tasks0.cap)), (2, .v (.slice r_chain0.a chain0.length r_chain0.cap)), (4, .v (.pointer (some ⟨b1, 0, none⟩))), (26, .v (.slice r_chain0.a chain0.length r_chain0.cap)), (27, .v (.int .i64 (chain0.length : Int))), (28, .v (.int .i64 (t28_1 : Int)))]) (mem := fun (_, _) => [imm (α := (List Task)) r_tasks0 tasks0, imm (α := (List Int)) r_chain0 chain0, imm (α := (List EmptyT)) r_r0.1 r0.Empties, imm (α := (List Int)) r_r0.2 r0.Shops, own b1 53 [.int .i64 r0.Turn, .slice r_r0.1.a r0.Empties.length r_r0.1.cap, .slice r_r0.2.a r0.Shops.length r_r0.2.cap, .int .i64 r0.Service, .int .i64 r0.Limit]]) (R := fun g => circulation_Split_k2 cont1 t28_1 g.1 = some y) ?_ ?_
      · intro KJ2 hJ2
        refine cw_block ?_
        refine cw_seq fun K9 hK9 => ?_
        refine cw_region ?_
        refine ow_ev ev_move ?_
        obtain ⟨x8, hx9, hM⟩ := bind_some hM
        refine ow_ev (ev_idx (xs := chain0) 1 (Kn.imm (α := List Int) (r := r_chain0) (x := chain0) (by repeat (first | exact Has.head | apply Has.tail))) (fun hg => let h := idx_some hx9; ⟨h.1, h.2.1⟩)) ?_
        refine ow_ev (ev_ld (i := (t28_1 : Int)) (xs := chain0) (y := x8) 0 (Kn.imm (α := List Int) (r := r_chain0) (x := chain0) (by repeat (first | exact Has.head | apply Has.tail))) (fun _ => hx9)) ?_
        refine ow_ev ev_assign ?_
        refine ow_ev ev_assign ?_
        refine ow_nil (hK9 _ _ ?_); clear hK9
        refine cw_seq fun K10 hK10 => ?_
        refine cw_seq fun K11 hK11 => ?_
        refine cw_region ?_
        refine ow_ev ev_move ?_
        refine ow_ev ev_lss ?_
        refine ow_ev ev_move ?_
        refine ow_evg rfl ev_move ?_
        refine ow_evg rfl ev_move ?_
        refine ow_evg rfl ev_len ?_
        refine ow_evg rfl ev_geq ?_
        refine ow_ev ev_or ?_
        refine ow_nil (hK11 _ _ ?_); clear hK11
        refine cw_cond rfl (fun hc10 => ?_) (fun hc10 => ?_)
        ·
          replace hM := (ite_t hc10).symm.trans hM
          refine cw_seq fun K12 hK12 => ?_
          refine cw_region ?_
          refine ow_ev ev_assign ?_
          refine ow_ev ev_assign ?_
          refine ow_nil (hK12 _ _ ?_); clear hK12
          refine cw_imp (fun w hm => hm.row_nil (α := List Int) 22 (fun _ => (⟨none, 0, (fun _ => ())⟩ : SR (GoRep.R Int)))) ?_
          refine cw_imp (fun w hm => hm.nil0 (e := 22) (e2 := 3) (fun _ => ⟨rfl, rfl⟩) (by repeat (first | exact Upd.head | apply Upd.tail))) ?_
          refine cw_imp (fun w hm => hm.freeze2 (r := (⟨none, 0, (fun _ => (⟨none, 0, (fun _ => ())⟩ : SR (GoRep.R Int)))⟩ : SR (GoRep.R (List Int))                                                                                                                                                                                                                                                                    )) (by repeat (first | exact Upd.head | apply Upd.tail))) ?_
          obtain rfl := some_inj hM
          refine cw_ret (kw_retc2 (fun w hm => post_of (⟨none, 0, (fun _ => (⟨none, 0, (fun _ => ())⟩ : SR (GoRep.R Int)))⟩ : SR (GoRep.R (List Int))                                                                                                                                                                                                                                                                    ) hm rfl))
        ·
          replace hM := (ite_f hc10).symm.trans hM
          refine cw_skip (hK10 _ _ ?_); clear hK10
          refine cw_seq fun K13 hK13 => ?_
          refine cw_seq fun K14 hK14 => ?_
          refine cw_region ?_
          refine ow_ev ev_move ?_
          refine ow_ev ev_eql ?_
          refine ow_nil (hK14 _ _ ?_); clear hK14
          refine cw_cond rfl (fun hc12 => ?_) (fun hc12 => ?_)
          ·
            replace hM := (ite_t hc12).symm.trans hM
            refine cw_exit (hJ2 ((), ()) _ _ hM ⟨rfl, rfl, rfl, rfl, rfl, rfl, trivial⟩ (fun w hm => hm.reord))
          ·
            replace hM := (ite_f hc12).symm.trans hM
            refine cw_skip (hK13 _ _ ?_); clear hK13
            refine cw_seq fun K15 hK15 => ?_
            refine cw_region_any _ (List.Sublist.refl _) ?_
            refine aw_ev 0 rfl (ev_load_all (b := b1)) ?_
            refine aw_ev 1 rfl ev_move ?_
            refine aw_ev 2 rfl ev_move ?_
            refine aw_ev 3 rfl ev_move ?_
            obtain ⟨hI13, hM⟩ := chk_some hM
            refine aw_ev 4 rfl (ev_sub (hr := fun hg => i64b_I64 hI13)) ?_
            obtain ⟨x14, hx15, hM⟩ := bind_some hM
            refine aw_ev 5 rfl (ev_idx (xs := chain0) 1 (Kn.imm (α := List Int) (r := r_chain0) (x := chain0) (by repeat (first | exact Has.head | apply Has.tail))) (fun hg => let h := idx_some hx15; ⟨h.1, h.2.1⟩)) ?_
            refine aw_ev 6 rfl (ev_ld (i := ((t28_1 : Int) - 1)) (xs := chain0) (y := x14) 0 (Kn.imm (α := List Int) (r := r_chain0) (x := chain0) (by repeat (first | exact Has.head | apply Has.tail))) (fun _ => hx15)) ?_
            obtain ⟨x16, hx17, hM⟩ := bind_some hM
            refine aw_ev 7 rfl (ev_idx (xs := tasks0) 5 (Kn.imm (α := List Task) (r := r_tasks0) (x := tasks0) (by repeat (first | exact Has.head | apply Has.tail))) (fun hg => let h := idx_some hx17; ⟨h.1, h.2.1⟩)) ?_
            refine aw_ev 8 rfl (ev_lds (m := 5) (i := x14) (xs := tasks0) (y := x16) (l := [.int .i64 x16.Type_, .int .i64 x16.From, .int .i64 x16.To, .int .i64 x16.Start, .int .i64 x16.End]) 0 (Kn.imm (α := List Task) (r := r_tasks0) (x := tasks0) (by repeat (first | exact Has.head | apply Has.tail))) (fun _ => hx17)) ?_
            refine aw_ev 9 rfl ev_move ?_
            refine aw_ev 10 rfl ev_move ?_
            obtain ⟨x18, hx19, hM⟩ := bind_some hM
            refine aw_ev 11 rfl (ev_idx (xs := tasks0) 5 (Kn.imm (α := List Task) (r := r_tasks0) (x := tasks0) (by repeat (first | exact Has.head | apply Has.tail))) (fun hg => let h := idx_some hx19; ⟨h.1, h.2.1⟩)) ?_
            refine aw_ev 12 rfl (ev_lds (m := 5) (i := x8) (xs := tasks0) (y := x18) (l := [.int .i64 x18.Type_, .int .i64 x18.From, .int .i64 x18.To, .int .i64 x18.Start, .int .i64 x18.End]) 0 (Kn.imm (α := List Task) (r := r_tasks0) (x := tasks0) (by repeat (first | exact Has.head | apply Has.tail))) (fun _ => hx19)) ?_
            obtain ⟨y20, hy21, hM⟩ := bind_some hM
            refine aw_one 13 rfl (st_callv (fun w hm => let ⟨S, hs⟩ := hm; circulation_Follows_spec _ w r0 r_r0 x16 x18 y20 hy21 (lend_lt hs) ⟨(Kn.lend (Kn.imm (α := List EmptyT) (r := r_r0.1) (x := r0.Empties) (by repeat (first | exact Has.head | apply Has.tail))) hs), (Kn.lend (Kn.imm (α := List Int) (r := r_r0.2) (x := r0.Shops) (by repeat (first | exact Has.head | apply Has.tail))) hs)⟩) ⟨fun w hm => hm.sub (by repeat (first | exact List.Sublist.refl _ | apply List.Sublist.cons_cons | apply List.Sublist.cons)), ?_⟩)
            refine aw_ev 14 rfl ev_move ?_
            refine aw_ev 15 rfl (ev_extract (vs := [.int .i64 y20.1, .bool y20.2])) ?_
            refine aw_ev 16 rfl (ev_extract (vs := [.int .i64 y20.1, .bool y20.2])) ?_
            refine aw_ev 17 rfl ev_assign ?_
            refine aw_ev 18 rfl ev_assign ?_
            refine aw_done (hK15 _ _ ?_); clear hK15
            refine cw_seq fun K16 hK16 => ?_
            refine cw_region ?_
            refine ow_ev ev_move ?_
            refine ow_ev ev_not ?_
            refine ow_nil (hK16 _ _ ?_); clear hK16
            refine cw_cond rfl (fun hc22 => ?_) (fun hc22 => ?_)
            ·
              replace hM := (ite_t hc22).symm.trans hM
              refine cw_seq fun K17 hK17 => ?_
              refine cw_region ?_
              refine ow_ev ev_assign ?_
              refine ow_ev ev_assign ?_
              refine ow_nil (hK17 _ _ ?_); clear hK17
              refine cw_imp (fun w hm => hm.row_nil (α := List Int) 22 (fun _ => (⟨none, 0, (fun _ => ())⟩ : SR (GoRep.R Int)))) ?_
              refine cw_imp (fun w hm => hm.nil0 (e := 22) (e2 := 3) (fun _ => ⟨rfl, rfl⟩) (by repeat (first | exact Upd.head | apply Upd.tail))) ?_
              refine cw_imp (fun w hm => hm.freeze2 (r := (⟨none, 0, (fun _ => (⟨none, 0, (fun _ => ())⟩ : SR (GoRep.R Int)))⟩ : SR (GoRep.R (List Int))                                                                                                                                                                                                                                                                     )) (by repeat (first | exact Upd.head | apply Upd.tail))) ?_
              obtain rfl := some_inj hM
              refine cw_ret (kw_retc2 (fun w hm => post_of (⟨none, 0, (fun _ => (⟨none, 0, (fun _ => ())⟩ : SR (GoRep.R Int)))⟩ : SR (GoRep.R (List Int))                                                                                                                                                                                                                                                                     ) hm rfl))
            ·
              replace hM := (ite_f hc22).symm.trans hM
              refine cw_skip (hJ2 ((), ()) _ _ hM ⟨rfl, rfl, rfl, rfl, rfl, rfl, trivial⟩ (fun w hm => hm.reord))
      ·
        clear hM
        intro g hM
        obtain ⟨⟨⟩, ⟨⟩⟩ := g
        dsimp only at hM ⊢
        dsimp only [circulation_Split_k2] at hM
        refine cw_region ?_
        refine ow_ev (ev_add (hr := fun _ => by unfold I64; omega)) ?_
        refine ow_ev ev_move ?_
        refine ow_nil (hL1 (nn1, (t28_1 + 1), ()) _ _ (eqc hcont1 hM) (Nat.lt_succ_self _) ⟨rfl, rfl, rfl, rfl, rfl, rfl, trivial⟩ (fun w hm => hm.reord))
    ·
      replace hM := (ite_f hc7).symm.trans hM
      refine cw_exit (hK5 _ _ ?_); clear hK5
      dsimp only [circulation_Split_k1] at hM
      refine cw_seq fun K18 hK18 => ?_
      refine cw_seq fun K19 hK19 => ?_
      refine cw_region ?_
      refine ow_ev ev_move ?_
      refine ow_have (fun w hm => Kn.len (Kn.imm (α := List Int) (r := r_chain0) (x := chain0) (by repeat (first | exact Has.head | apply Has.tail))) hm) fun hl24 => ?_
      refine ow_ev ev_len ?_
      refine ow_ev ev_move ?_
      refine ow_nil (hK19 _ _ ?_); clear hK19
      refine cw_block ?_
      refine cw_loop (γ := Nat × Nat × Unit) (env := fun (_, t65_2, _) => [(0, .v (.slice r_tasks0.a tasks0.length r_tasks0.cap)), (2, .v (.slice r_chain0.a chain0.length r_chain0.cap)), (4, .v (.pointer (some ⟨b1, 0, none⟩))), (63, .v (.slice r_chain0.a chain0.length r_chain0.cap)), (64, .v (.int .i64 (chain0.length : Int))), (65, .v (.int .i64 (t65_2 : Int)))]) (mem := fun (_, t65_2, _) => [imm (α := (List Task)) r_tasks0 tasks0, imm (α := (List Int)) r_chain0 chain0, imm (α := (List EmptyT)) r_r0.1 r0.Empties, imm (α := (List Int)) r_r0.2 r0.Shops, own b1 53 [.int .i64 r0.Turn, .slice r_r0.1.a r0.Empties.length r_r0.1.cap, .slice r_r0.2.a r0.Shops.length r_r0.2.cap, .int .i64 r0.Service, .int .i64 r0.Limit]]) (R := fun g => iter (circulation_Split_b2 chain0 tasks0 r0) g.1 g.2.1 = some y) (μ := fun g => g.1) (FUEL, 0, ()) hM ⟨rfl, rfl, rfl, rfl, rfl, rfl, trivial⟩ (fun w hm => hm.reord) ?_
      clear hM
      intro g hM KL2 hL2
      obtain ⟨nn2, t65_2, ⟨⟩⟩ := g
      dsimp only at hM ⊢
      obtain ⟨nn2, cont2, rfl, hcont2, hM⟩ := iter_open' hM
      dsimp only [circulation_Split_b2] at hM
      refine cw_seq fun K20 hK20 => ?_
      refine cw_region ?_
      refine ow_ev ev_lss ?_
      refine ow_nil (hK20 _ _ ?_); clear hK20
      refine cw_seq fun K21 hK21 => ?_
      refine cw_cond rfl (fun hc25 => ?_) (fun hc25 => ?_)
      ·
        replace hM := (ite_t hc25).symm.trans hM
        have hc25d := of_decide_eq_true hc25
        refine cw_skip (hK21 _ _ ?_); clear hK21
        refine cw_seq fun K22 hK22 => ?_
        refine cw_block ?_
        refine cw_seq fun K23 hK23 => ?_
        refine cw_region ?_
        obtain ⟨x26, hx27, hM⟩ := bind_some hM
        refine ow_ev (ev_idx (xs := chain0) 1 (Kn.imm (α := List Int) (r := r_chain0) (x := chain0) (by repeat (first | exact Has.head | apply Has.tail))) (fun hg => let h := idx_some hx27; ⟨h.1, h.2.1⟩)) ?_
        refine ow_ev (ev_ld (i := (t65_2 : Int)) (xs := chain0) (y := x26) 0 (Kn.imm (α := List Int) (r := r_chain0) (x := chain0) (by repeat (first | exact Has.head | apply Has.tail))) (fun _ => hx27)) ?_
        refine ow_ev ev_assign ?_
        refine ow_nil (hK23 _ _ ?_); clear hK23
        refine cw_seq fun K24 hK24 => ?_
        refine cw_region_any _ (List.Sublist.refl _) ?_
        refine aw_ev 0 rfl ev_move ?_
        refine aw_ev 1 rfl ev_move ?_
        obtain ⟨x28, hx29, hM⟩ := bind_some hM
        refine aw_ev 2 rfl (ev_idx (xs := tasks0) 5 (Kn.imm (α := List Task) (r := r_tasks0) (x := tasks0) (by repeat (first | exact Has.head | apply Has.tail))) (fun hg => let h := idx_some hx29; ⟨h.1, h.2.1⟩)) ?_
        refine aw_ev 3 rfl (ev_field_addr 4) ?_
        refine aw_ev 4 rfl (ev_ld (i := x26) (xs := tasks0) (y := x28) 4 (Kn.imm (α := List Task) (r := r_tasks0) (x := tasks0) (by repeat (first | exact Has.head | apply Has.tail))) (fun _ => hx29)) ?_
        refine aw_ev 5 rfl ev_move ?_
        refine aw_ev 6 rfl ev_move ?_
        obtain ⟨x30, hx31, hM⟩ := bind_some hM
        refine aw_ev 7 rfl (ev_idx (xs := tasks0) 5 (Kn.imm (α := List Task) (r := r_tasks0) (x := tasks0) (by repeat (first | exact Has.head | apply Has.tail))) (fun hg => let h := idx_some hx31; ⟨h.1, h.2.1⟩)) ?_
        refine aw_ev 8 rfl (ev_field_addr 3) ?_
        refine aw_ev 9 rfl (ev_ld (i := x26) (xs := tasks0) (y := x30) 3 (Kn.imm (α := List Task) (r := r_tasks0) (x := tasks0) (by repeat (first | exact Has.head | apply Has.tail))) (fun _ => hx31)) ?_
        obtain ⟨hI32, hM⟩ := chk_some hM
        refine aw_ev 10 rfl (ev_sub (hr := fun hg => i64b_I64 hI32)) ?_
        refine aw_ev 11 rfl (ev_field_addr 4) ?_
        refine aw_ev 12 rfl (ev_load_own (b := b1)) ?_
        refine aw_ev 13 rfl ev_gtr ?_
        refine aw_done (hK24 _ _ ?_); clear hK24
        refine cw_cond rfl (fun hc33 => ?_) (fun hc33 => ?_)
        ·
          replace hM := (ite_t hc33).symm.trans hM
          refine cw_seq fun K25 hK25 => ?_
          refine cw_region ?_
          refine ow_ev ev_assign ?_
          refine ow_ev ev_assign ?_
          refine ow_nil (hK25 _ _ ?_); clear hK25
          refine cw_imp (fun w hm => hm.row_nil (α := List Int) 22 (fun _ => (⟨none, 0, (fun _ => ())⟩ : SR (GoRep.R Int)))) ?_
          refine cw_imp (fun w hm => hm.nil0 (e := 22) (e2 := 3) (fun _ => ⟨rfl, rfl⟩) (by repeat (first | exact Upd.head | apply Upd.tail))) ?_
          refine cw_imp (fun w hm => hm.freeze2 (r := (⟨none, 0, (fun _ => (⟨none, 0, (fun _ => ())⟩ : SR (GoRep.R Int)))⟩ : SR (GoRep.R (List Int))                                                                                                                                                                                                                                                                                                                      )) (by repeat (first | exact Upd.head | apply Upd.tail))) ?_
          obtain rfl := some_inj hM
          refine cw_ret (kw_retc2 (fun w hm => post_of (⟨none, 0, (fun _ => (⟨none, 0, (fun _ => ())⟩ : SR (GoRep.R Int)))⟩ : SR (GoRep.R (List Int))                                                                                                                                                                                                                                                                                                                      ) hm rfl))
        ·
          replace hM := (ite_f hc33).symm.trans hM
          refine cw_skip (hK22 _ _ ?_); clear hK22
          refine cw_region ?_
          refine ow_ev (ev_add (hr := fun _ => by unfold I64; omega)) ?_
          refine ow_ev ev_move ?_
          refine ow_nil (hL2 (nn2, (t65_2 + 1), ()) _ _ (eqc hcont2 hM) (Nat.lt_succ_self _) ⟨rfl, rfl, rfl, rfl, rfl, rfl, trivial⟩ (fun w hm => hm.reord))
      ·
        replace hM := (ite_f hc25).symm.trans hM
        refine cw_exit (hK18 _ _ ?_); clear hK18
        dsimp only [circulation_Split_k3] at hM
        refine cw_seq fun K26 hK26 => ?_
        refine cw_region ?_
        refine ow_ev ev_assign ?_
        refine ow_nil (hK26 _ _ ?_); clear hK26
        refine cw_seq fun K27 hK27 => ?_
        refine cw_region ?_
        refine ow_ev ev_assign ?_
        refine ow_nil (hK27 _ _ ?_); clear hK27
        refine cw_seq fun K28 hK28 => ?_
        refine cw_seq fun K29 hK29 => ?_
        refine cw_region ?_
        refine ow_ev ev_move ?_
        refine ow_have (fun w hm => Kn.len (Kn.imm (α := List Int) (r := r_chain0) (x := chain0) (by repeat (first | exact Has.head | apply Has.tail))) hm) fun hl35 => ?_
        refine ow_ev ev_len ?_
        refine ow_ev ev_move ?_
        refine ow_nil (hK29 _ _ ?_); clear hK29
        refine cw_block ?_
        refine cw_imp (fun w hm => hm.row_nil (α := List Int) 22 (fun _ => (⟨none, 0, (fun _ => ())⟩ : SR (GoRep.R Int)))) ?_
        refine cw_imp (fun w hm => hm.nil0 (e := 22) (e2 := 3) (fun _ => ⟨rfl, rfl⟩) (by repeat (first | exact Upd.head | apply Upd.tail))) ?_
        refine cw_loop (γ := Nat × ((List (List Int)) × Int × Nat) × (SR (GoRep.R (List Int)))) (env := fun (_, (lparts_3, running_3, t86_3), rparts_3) => [(0, .v (.slice r_tasks0.a tasks0.length r_tasks0.cap)), (2, .v (.slice r_chain0.a chain0.length r_chain0.cap)), (4, .v (.pointer (some ⟨b1, 0, none⟩))), (14, .v (.slice rparts_3.a lparts_3.length rparts_3.cap)), (15, .v (.int .i64 running_3)), (84, .v (.slice r_chain0.a chain0.length r_chain0.cap)), (85, .v (.int .i64 (chain0.length : Int))), (86, .v (.int .i64 (t86_3 : Int)))]) (mem := fun (_, (lparts_3, running_3, t86_3), rparts_3) => [imm (α := (List Task)) r_tasks0 tasks0, imm (α := (List Int)) r_chain0 chain0, imm (α := (List EmptyT)) r_r0.1 r0.Empties, imm (α := (List Int)) r_r0.2 r0.Shops, own b1 53 [.int .i64 r0.Turn, .slice r_r0.1.a r0.Empties.length r_r0.1.cap, .slice r_r0.2.a r0.Shops.length r_r0.2.cap, .int .i64 r0.Service, .int .i64 r0.Limit], rows2 (fun _ => True) 22 3 rparts_3 lparts_3]) (R := fun g => iter (circulation_Split_b3 chain0 tasks0 r0) g.1 g.2.1 = some y) (μ := fun g => g.1) (FUEL, (([] : List (List Int)), 0, 0), (⟨none, 0, (fun _ => (⟨none, 0, (fun _ => ())⟩ : SR (GoRep.R Int)))⟩ : SR (GoRep.R (List Int))                                                                                                                                                                                                                                                                                                                       )) hM ⟨rfl, rfl, rfl, rfl, rfl, rfl, rfl, rfl, trivial⟩ (fun w hm => hm.reord) ?_
        clear hM
        intro g hM KL3 hL3
        obtain ⟨nn3, ⟨lparts_3, running_3, t86_3⟩, rparts_3⟩ := g
        dsimp only at hM ⊢
        obtain ⟨nn3, cont3, rfl, hcont3, hM⟩ := iter_open' hM
        dsimp only [circulation_Split_b3] at hM
        refine cw_seq fun K30 hK30 => ?_
        refine cw_region ?_
        refine ow_ev ev_lss ?_
        refine ow_nil (hK30 _ _ ?_); clear hK30
        refine cw_seq fun K31 hK31 => ?_
        refine cw_cond rfl (fun hc37 => ?_) (fun hc37 => ?_)
        ·
          replace hM := (ite_t hc37).symm.trans hM
          have hc37d := of_decide_eq_true hc37
          refine cw_skip (hK31 _ _ ?_); clear hK31
          refine cw_seq fun K32 hK32 => ?_
          refine cw_block ?_
          refine cw_seq fun K33 hK33 => ?_
          refine cw_region ?_
          refine ow_ev ev_move ?_
          obtain ⟨x38, hx39, hM⟩ := bind_some hM
          refine ow_ev (ev_idx (xs := chain0) 1 (Kn.imm (α := List Int) (r := r_chain0) (x := chain0) (by repeat (first | exact Has.head | apply Has.tail))) (fun hg => let h := idx_some hx39; ⟨h.1, h.2.1⟩)) ?_
          refine ow_ev (ev_ld (i := (t86_3 : Int)) (xs := chain0) (y := x38) 0 (Kn.imm (α := List Int) (r := r_chain0) (x := chain0) (by repeat (first | exact Has.head | apply Has.tail))) (fun _ => hx39)) ?_
          refine ow_ev ev_assign ?_
          refine ow_ev ev_assign ?_
          refine ow_nil (hK33 _ _ ?_); clear hK33
          refine cw_seq fun K34 hK34 => ?_
          refine cw_region_any _ (List.Sublist.refl _) ?_
          refine aw_ev 0 rfl ev_move ?_
          refine aw_ev 1 rfl ev_move ?_
          obtain ⟨x40, hx41, hM⟩ := bind_some hM
          refine aw_ev 2 rfl (ev_idx (xs := tasks0) 5 (Kn.imm (α := List Task) (r := r_tasks0) (x := tasks0) (by repeat (first | exact Has.head | apply Has.tail))) (fun hg => let h := idx_some hx41; ⟨h.1, h.2.1⟩)) ?_
          refine aw_ev 3 rfl (ev_field_addr 4) ?_
          refine aw_ev 4 rfl (ev_ld (i := x38) (xs := tasks0) (y := x40) 4 (Kn.imm (α := List Task) (r := r_tasks0) (x := tasks0) (by repeat (first | exact Has.head | apply Has.tail))) (fun _ => hx41)) ?_
          refine aw_ev 5 rfl ev_move ?_
          refine aw_ev 6 rfl ev_move ?_
          obtain ⟨x42, hx43, hM⟩ := bind_some hM
          refine aw_ev 7 rfl (ev_idx (xs := tasks0) 5 (Kn.imm (α := List Task) (r := r_tasks0) (x := tasks0) (by repeat (first | exact Has.head | apply Has.tail))) (fun hg => let h := idx_some hx43; ⟨h.1, h.2.1⟩)) ?_
          refine aw_ev 8 rfl (ev_field_addr 3) ?_
          refine aw_ev 9 rfl (ev_ld (i := x38) (xs := tasks0) (y := x42) 3 (Kn.imm (α := List Task) (r := r_tasks0) (x := tasks0) (by repeat (first | exact Has.head | apply Has.tail))) (fun _ => hx43)) ?_
          obtain ⟨hI44, hM⟩ := chk_some hM
          refine aw_ev 10 rfl (ev_sub (hr := fun hg => i64b_I64 hI44)) ?_
          refine aw_ev 11 rfl ev_assign ?_
          refine aw_done (hK34 _ _ ?_); clear hK34
          refine cw_cut (γ := Int × Unit) (env := fun (running_j5, _) => [(0, .v (.slice r_tasks0.a tasks0.length r_tasks0.cap)), (2, .v (.slice r_chain0.a chain0.length r_chain0.cap)), (4, .v (.pointer (some ⟨b1, 0, none⟩))), (14, .v (.slice rparts_3.a lparts_3.length rparts_3.cap)), (15, .v (.int .i64 running_j5)), (16, .v (.int .i64 (t86_3 : Int))), (17, .v (.int .i64 x38)), (18, .v (.int .i64 (x40.End - x42.Start))), (84, .v (.slice r_chain0.a chain0.length r_chain0.cap)), (85, .v (.int .i64 (chain0.length : Int))), (86, .v (.int .i64 (t86_3 : Int)))]) (mem := fun (running_j5, _) => [imm (α := (List Task)) r_tasks0 tasks0, imm (α := (List Int)) r_chain0 chain0, imm (α := (List EmptyT)) r_r0.1 r0.Empties, imm (α := (List Int)) r_r0.2 r0.Shops, own b1 53 [.int .i64 r0.Turn, .slice r_r0.1.a r0.Empties.length r_r0.1.cap, .slice r_r0.2.a r0.Shops.length r_r0.2.cap, .int .i64 r0.Service, .int .i64 r0.Limit], rows2 (fun _ => True) 22 3 rparts_3 lparts_3]) (R := fun g => circulation_Split_k5 t86_3 x40 x42 r0 lparts_3 x38 cont3 g.1 = some y) ?_ ?_
          · intro KJ5 hJ5
            refine cw_seq fun K38 hK38 => ?_
            refine cw_region ?_
            refine ow_ev ev_move ?_
            refine ow_ev ev_gtr ?_
            refine ow_nil (hK38 _ _ ?_); clear hK38
            refine cw_cond rfl (fun hc61 => ?_) (fun hc61 => ?_)
            ·
              replace hM := (ite_t hc61).symm.trans hM
              refine cw_seq fun K39 hK39 => ?_
              refine cw_region ?_
              refine ow_ev ev_move ?_
              refine ow_ev ev_move ?_
              refine ow_ev ev_move ?_
              obtain ⟨hI62, hM⟩ := chk_some hM
              refine ow_ev (ev_sub (hr := fun hg => i64b_I64 hI62)) ?_
              obtain ⟨x63, hx64, hM⟩ := bind_some hM
              refine ow_ev (ev_idx (xs := chain0) 1 (Kn.imm (α := List Int) (r := r_chain0) (x := chain0) (by repeat (first | exact Has.head | apply Has.tail))) (fun hg => let h := idx_some hx64; ⟨h.1, h.2.1⟩)) ?_
              refine ow_ev (ev_ld (i := ((t86_3 : Int) - 1)) (xs := chain0) (y := x63) 0 (Kn.imm (α := List Int) (r := r_chain0) (x := chain0) (by repeat (first | exact Has.head | apply Has.tail))) (fun _ => hx64)) ?_
              obtain ⟨x65, hx66, hM⟩ := bind_some hM
              refine ow_ev (ev_idx (xs := tasks0) 5 (Kn.imm (α := List Task) (r := r_tasks0) (x := tasks0) (by repeat (first | exact Has.head | apply Has.tail))) (fun hg => let h := idx_some hx66; ⟨h.1, h.2.1⟩)) ?_
              refine ow_ev (ev_lds (m := 5) (i := x63) (xs := tasks0) (y := x65) (l := [.int .i64 x65.Type_, .int .i64 x65.From, .int .i64 x65.To, .int .i64 x65.Start, .int .i64 x65.End]) 0 (Kn.imm (α := List Task) (r := r_tasks0) (x := tasks0) (by repeat (first | exact Has.head | apply Has.tail))) (fun _ => hx66)) ?_
              refine ow_cons (st_alloc rfl (k := fun b67 => ?_))
              refine ow_cons (st_store_all (b := b67) (vs := [.int .i64 x65.Type_, .int .i64 x65.From, .int .i64 x65.To, .int .i64 x65.Start, .int .i64 x65.End]) (k := ?_))
              refine ow_nil (hK39 _ _ ?_); clear hK39
              refine cw_seq fun K40 hK40 => ?_
              refine cw_region_any _ (List.Sublist.refl _) ?_
              refine aw_ev 0 rfl (ev_load_all (b := b1)) ?_
              refine aw_ev 1 rfl (ev_load_all (b := b67)) ?_
              refine aw_ev 2 rfl ev_move ?_
              refine aw_ev 3 rfl ev_move ?_
              obtain ⟨x68, hx69, hM⟩ := bind_some hM
              refine aw_ev 4 rfl (ev_idx (xs := tasks0) 5 (Kn.imm (α := List Task) (r := r_tasks0) (x := tasks0) (by repeat (first | exact Has.head | apply Has.tail))) (fun hg => let h := idx_some hx69; ⟨h.1, h.2.1⟩)) ?_
              refine aw_ev 5 rfl (ev_lds (m := 5) (i := x38) (xs := tasks0) (y := x68) (l := [.int .i64 x68.Type_, .int .i64 x68.From, .int .i64 x68.To, .int .i64 x68.Start, .int .i64 x68.End]) 0 (Kn.imm (α := List Task) (r := r_tasks0) (x := tasks0) (by repeat (first | exact Has.head | apply Has.tail))) (fun _ => hx69)) ?_
              obtain ⟨y70, hy71, hM⟩ := bind_some hM
              refine aw_one 6 rfl (st_callv (fun w hm => let ⟨S, hs⟩ := hm; circulation_Follows_spec _ w r0 r_r0 x65 x68 y70 hy71 (lend_lt hs) ⟨(Kn.lend (Kn.imm (α := List EmptyT) (r := r_r0.1) (x := r0.Empties) (by repeat (first | exact Has.head | apply Has.tail))) hs), (Kn.lend (Kn.imm (α := List Int) (r := r_r0.2) (x := r0.Shops) (by repeat (first | exact Has.head | apply Has.tail))) hs)⟩) ⟨fun w hm => hm.sub (by repeat (first | exact List.Sublist.refl _ | apply List.Sublist.cons_cons | apply List.Sublist.cons)), ?_⟩)
              refine aw_ev 7 rfl ev_move ?_
              refine aw_ev 8 rfl (ev_extract (vs := [.int .i64 y70.1, .bool y70.2])) ?_
              refine aw_ev 9 rfl (ev_extract (vs := [.int .i64 y70.1, .bool y70.2])) ?_
              refine aw_ev 10 rfl ev_assign ?_
              refine aw_ev 11 rfl ev_assign ?_
              refine aw_done (hK40 _ _ ?_); clear hK40
              refine cw_seq fun K41 hK41 => ?_
              refine cw_region_any _ (List.Sublist.refl _) ?_
              refine aw_ev 0 rfl (ev_load_all (b := b1)) ?_
              refine aw_ev 1 rfl (ev_load_all (b := b67)) ?_
              refine aw_ev 2 rfl ev_move ?_
              refine aw_ev 3 rfl ev_move ?_
              obtain ⟨x72, hx73, hM⟩ := bind_some hM
              refine aw_ev 4 rfl (ev_idx (xs := tasks0) 5 (Kn.imm (α := List Task) (r := r_tasks0) (x := tasks0) (by repeat (first | exact Has.head | apply Has.tail))) (fun hg => let h := idx_some hx73; ⟨h.1, h.2.1⟩)) ?_
              refine aw_ev 5 rfl (ev_lds (m := 5) (i := x38) (xs := tasks0) (y := x72) (l := [.int .i64 x72.Type_, .int .i64 x72.From, .int .i64 x72.To, .int .i64 x72.Start, .int .i64 x72.End]) 0 (Kn.imm (α := List Task) (r := r_tasks0) (x := tasks0) (by repeat (first | exact Has.head | apply Has.tail))) (fun _ => hx73)) ?_
              obtain ⟨y74, hy75, hM⟩ := bind_some hM
              refine aw_one 6 rfl (st_callv (fun w hm => let ⟨S, hs⟩ := hm; circulation_serviced_spec _ w r0 r_r0 x65 x72 y74 hy75 (lend_lt hs) ⟨(Kn.lend (Kn.imm (α := List EmptyT) (r := r_r0.1) (x := r0.Empties) (by repeat (first | exact Has.head | apply Has.tail))) hs), (Kn.lend (Kn.imm (α := List Int) (r := r_r0.2) (x := r0.Shops) (by repeat (first | exact Has.head | apply Has.tail))) hs)⟩) ⟨fun w hm => hm.sub (by repeat (first | exact List.Sublist.refl _ | apply List.Sublist.cons_cons | apply List.Sublist.cons)), ?_⟩)
              refine aw_done (hK41 _ _ ?_); clear hK41
              refine cw_cond rfl (fun hc76 => ?_) (fun hc76 => ?_)
              ·
                replace hM := (ite_t hc76).symm.trans hM
                refine cw_region ?_
                refine ow_ev ev_assign ?_
                refine ow_nil (hJ5 (0, ()) _ _ hM ⟨rfl, rfl, rfl, rfl, rfl, rfl, rfl, rfl, rfl, rfl, rfl, trivial⟩ (fun w hm => hm.reord))
              ·
                replace hM := (ite_f hc76).symm.trans hM
                refine cw_region ?_
                refine ow_ev ev_move ?_
                refine ow_ev ev_move ?_
                obtain ⟨hI77, hM⟩ := chk_some hM
                refine ow_ev (ev_add (hr := fun hg => i64b_I64 hI77)) ?_
                refine ow_ev ev_assign ?_
                refine ow_nil (hJ5 ((running_3 + y70.1), ()) _ _ hM ⟨rfl, rfl, rfl, rfl, rfl, rfl, rfl, rfl, rfl, rfl, rfl, trivial⟩ (fun w hm => hm.reord))
            ·
              replace hM := (ite_f hc61).symm.trans hM
              refine cw_skip (hJ5 (running_3, ()) _ _ hM ⟨rfl, rfl, rfl, rfl, rfl, rfl, rfl, rfl, rfl, rfl, rfl, trivial⟩ (fun w hm => hm.reord))
          ·
            clear hM
            intro g hM
            obtain ⟨running_j5, ⟨⟩⟩ := g
            dsimp only at hM ⊢
            dsimp only [circulation_Split_k5] at hM
            refine cw_cut (γ := ((List (List Int)) × Int) × (SR (GoRep.R (List Int)))) (env := fun ((lparts_j6, running_j6), rparts_j6) => [(0, .v (.slice r_tasks0.a tasks0.length r_tasks0.cap)), (2, .v (.slice r_chain0.a chain0.length r_chain0.cap)), (4, .v (.pointer (some ⟨b1, 0, none⟩))), (14, .v (.slice rparts_j6.a lparts_j6.length rparts_j6.cap)), (15, .v (.int .i64 running_j6)), (17, .v (.int .i64 x38)), (18, .v (.int .i64 (x40.End - x42.Start))), (84, .v (.slice r_chain0.a chain0.length r_chain0.cap)), (85, .v (.int .i64 (chain0.length : Int))), (86, .v (.int .i64 (t86_3 : Int)))]) (mem := fun ((lparts_j6, running_j6), rparts_j6) => [imm (α := (List Task)) r_tasks0 tasks0, imm (α := (List Int)) r_chain0 chain0, imm (α := (List EmptyT)) r_r0.1 r0.Empties, imm (α := (List Int)) r_r0.2 r0.Shops, own b1 53 [.int .i64 r0.Turn, .slice r_r0.1.a r0.Empties.length r_r0.1.cap, .slice r_r0.2.a r0.Shops.length r_r0.2.cap, .int .i64 r0.Service, .int .i64 r0.Limit], rows2 (fun _ => True) 22 3 rparts_j6 lparts_j6]) (R := fun g => circulation_Split_k6 x40 x42 x38 cont3 t86_3 g.1 = some y) ?_ ?_
            · intro KJ6 hJ6
              refine cw_seq fun K36 hK36 => ?_
              refine cw_region ?_
              refine ow_ev ev_move ?_
              refine ow_ev ev_eql ?_
              refine ow_ev ev_move ?_
              refine ow_evg rfl ev_move ?_
              refine ow_evg rfl ev_move ?_
              obtain ⟨hI55, hM⟩ := chk_some hM
              refine ow_evg rfl (ev_add (hr := fun hg => i64b_I64 (gor hI55 hg))) ?_
              refine ow_evg rfl (ev_field_addr 4) ?_
              refine ow_evg rfl (ev_load_own (b := b1)) ?_
              refine ow_evg rfl ev_gtr ?_
              refine ow_ev ev_or ?_
              refine ow_nil (hK36 _ _ ?_); clear hK36
              refine cw_cond rfl (fun hc56 => ?_) (fun hc56 => ?_)
              ·
                replace hM := (ite_t hc56).symm.trans hM
                refine cw_seq fun K37 hK37 => ?_
                refine cw_region ?_
                refine ow_ev ev_move ?_
                refine ow_imp (fun w hm => hm.row_nil (α := Int) 3 (fun _ => ())) ?_
                refine ow_imp (fun w hm => hm.freeze (r := (⟨none, 0, (fun _ => ())⟩ : SR (GoRep.R Int)                                                                                                                                                                                                                                                                                                                                 )) (by repeat (first | exact Upd.head | apply Upd.tail))) ?_
                refine ow_cons (st_bsliceE (α := List Int) 22 (fun _ => (⟨none, 0, (fun _ => ())⟩ : SR (GoRep.R Int)                                                                                                                                                                                                                                                                                                                                 )) ([([] : List Int)] : List (List Int)) (OkL.cons (fun S w hs => ((Sk.imm (α := List Int) (r := (⟨none, 0, (fun _ => ())⟩ : SR (GoRep.R Int)                                                                                                                                                                                                                                                                                                                                 )) (x := ([] : List Int)) (by repeat (first | exact Has.head | apply Has.tail))) S w hs)) OkL.nil) (fun r58 hr58 => ?_))
                obtain ⟨hb59, hM⟩ := chk_some hM
                refine ow_cons (st_app2 (r := rparts_3) (r2 := r58) (xs := lparts_3) (fun _ => ()) (by repeat (first | exact Sel.head | apply Sel.tail)) (by repeat (first | exact Has.head | apply Has.tail)) hr58 (of_decide_eq_true hb59) (fun r60 => ?_))
                refine ow_ev ev_assign ?_
                refine ow_nil (hK37 _ _ ?_); clear hK37
                refine cw_region ?_
                refine ow_ev ev_assign ?_
                refine ow_nil (hJ6 (((lparts_3 ++ [[]]), 0), r60) _ _ hM ⟨rfl, rfl, rfl, rfl, rfl, rfl, rfl, rfl, rfl, rfl, trivial⟩ (fun w hm => hm.reord))
              ·
                replace hM := (ite_f hc56).symm.trans hM
                refine cw_skip (hJ6 ((lparts_3, running_j5), rparts_3) _ _ hM ⟨rfl, rfl, rfl, rfl, rfl, rfl, rfl, rfl, rfl, rfl, trivial⟩ (fun w hm => hm.reord))
            ·
              clear hM
              intro g hM
              obtain ⟨⟨lparts_j6, running_j6⟩, rparts_j6⟩ := g
              dsimp only at hM ⊢
              dsimp only [circulation_Split_k6] at hM
              refine cw_seq fun K35 hK35 => ?_
              refine cw_region ?_
              refine ow_ev ev_move ?_
              refine ow_ev ev_move ?_
              obtain ⟨hI45, hM⟩ := chk_some hM
              refine ow_ev (ev_add (hr := fun hg => i64b_I64 hI45)) ?_
              refine ow_ev ev_assign ?_
              refine ow_nil (hK35 _ _ ?_); clear hK35
              refine cw_region ?_
              refine ow_ev ev_move ?_
              refine ow_ev ev_move ?_
              refine ow_ev ev_len ?_
              obtain ⟨hI46, hM⟩ := chk_some hM
              refine ow_ev (ev_sub (hr := fun hg => i64b_I64 hI46)) ?_
              refine ow_ev ev_move ?_
              refine ow_ev ev_move ?_
              refine ow_ev ev_len ?_
              obtain ⟨hI47, hM⟩ := chk_some hM
              refine ow_ev (ev_sub (hr := fun hg => i64b_I64 hI47)) ?_
              obtain ⟨x48, hx49, hM⟩ := bind_some hM
              refine ow_ev (ev_idx2 (r := rparts_j6) (xs := lparts_j6) (by repeat (first | exact Has.head | apply Has.tail)) (fun hg => let h := idx_some hx49; ⟨h.1, h.2.1⟩)) ?_
              refine ow_ev (ev_ld2 (r := rparts_j6) (xs := lparts_j6) (i := ((lparts_j6.length : Int) - 1)) (by repeat (first | exact Has.head | apply Has.tail)) (fun _ => hx49)) ?_
              refine ow_ev ev_move ?_
              refine ow_cons (st_bslice (α := Int) 3 (fun _ => ()) ([x38] : List Int) (OkL.flat (fun _ _ _ _ => trivial)) (fun r50 => ?_))
              refine ow_imp (fun w hm => hm.open2 (e := 22) (e2 := 3) (r := rparts_j6) (xs := lparts_j6) hx49 (by repeat (first | exact Sel.head | apply Sel.tail))) ?_
              obtain ⟨hb51, hM⟩ := chk_some hM
              refine ow_cons (st_append (r := (rparts_j6.es ((lparts_j6.length : Int) - 1).toNat)) (r2 := r50) (by intro r'; repeat (first | exact Upd.head | apply Upd.tail)) (Kn.trow (e := 3) (r := r50) (by repeat (first | exact Has.head | apply Has.tail))) (OkL.flat (fun _ _ _ _ => trivial)) (of_decide_eq_true hb51) (fun r52 => ?_))
              obtain ⟨x53, hx54, hM⟩ := bind_some hM
              refine ow_ev (ev_idx2 (r := rparts_j6) (xs := lparts_j6) (by repeat (first | exact Has.head | apply Has.tail)) (fun hg => let h := idx_some hx54; ⟨h.1, h.2.1⟩)) ?_
              refine ow_cons (st_set2 (r := rparts_j6) (xs := lparts_j6) (i := ((lparts_j6.length : Int) - 1)) (q := r52) (u' := (x48 ++ ([x38] : List Int))) hx49 (by repeat (first | exact Upd.head | apply Upd.tail)) ?_)
              refine ow_imp (fun w hm => hm.shut2 (e := 22) (e2 := 3) (r := rparts_j6) (xs := lparts_j6) (q := r52) (u' := (x48 ++ ([x38] : List Int))) hx49 (by repeat (first | exact Sel.head | apply Sel.tail)) (by repeat (first | exact Sel.head | apply Sel.tail))) ?_
              refine ow_nil (hK32 _ _ ?_); clear hK32
              refine cw_region ?_
              refine ow_ev (ev_add (hr := fun _ => by unfold I64; omega)) ?_
              refine ow_ev ev_move ?_
              refine ow_nil (hL3 (nn3, ((lparts_j6.set ((lparts_j6.length : Int) - 1).toNat (x48 ++ ([x38] : List Int))), (running_j6 + (x40.End - x42.Start)), t86_3 + 1), (rparts_j6.upd ((lparts_j6.length : Int) - 1).toNat r52)) _ _ (eqc hcont3 hM) (Nat.lt_succ_self _) ⟨rfl, rfl, rfl, (by simp only [List.length_set]; rfl), rfl, rfl, rfl, rfl, trivial⟩ (fun w hm => hm.reord))
        ·
          replace hM := (ite_f hc37).symm.trans hM
          refine cw_exit (hK28 _ _ ?_); clear hK28
          dsimp only [circulation_Split_k4] at hM
          refine cw_seq fun K42 hK42 => ?_
          refine cw_region ?_
          refine ow_ev ev_move ?_
          refine ow_ev ev_assign ?_
          refine ow_ev ev_assign ?_
          refine ow_nil (hK42 _ _ ?_); clear hK42
          refine cw_imp (fun w hm => hm.freeze2 (r := rparts_3) (by repeat (first | exact Upd.head | apply Upd.tail))) ?_
          obtain rfl := some_inj hM
          refine cw_ret (kw_retc2 (fun w hm => post_of rparts_3 hm rfl))

end Go.Proofs.Ytedocibniankjaa
