/- Models of functions, and that the code computes them. -/
import Derived.Test.YtedocibniankjaaFa
namespace Go.Proofs.Ytedocibniankjaa
open Go.Dc Go.RowKit
set_option maxRecDepth 10000
set_option linter.unusedVariables false
def flow_Verify_k3 (cost_2 : Int) (f0 : Flow) : Unit → Option Bool := fun _ =>
  some (decide (cost_2 = f0.Cost))
def flow_Verify_b3 (g0 : Graph) (lout_2 : List Int) (cost_2 : Int) (f0 : Flow) (cont3 : Nat → Option Bool) : Nat → Option Bool := fun t130_3 =>
  if decide ((t130_3 : Int) < (g0.Supply.length : Int)) then
    ((idx g0.Supply (t130_3 : Int)).bind fun x45 =>
    (idx lout_2 (t130_3 : Int)).bind fun x47 =>
    if decide (x47 ≠ x45) then
      (some false)
    else
      (cont3 (t130_3 + 1)))
  else
    (flow_Verify_k3 cost_2 f0 ())
def flow_Verify_k2 (g0 : Graph) (lout_2 : List Int) (cost_2 : Int) (f0 : Flow) : Unit → Option Bool := fun _ =>
  iter (flow_Verify_b3 g0 lout_2 cost_2 f0) FUEL 0
def flow_Verify_b2 (g0 : Graph) (f0 : Flow) (cont2 : ((List Int) × Int × Nat) → Option Bool) : ((List Int) × Int × Nat) → Option Bool := fun (lout_2, cost_2, t54_2) =>
  if decide ((t54_2 : Int) < (g0.Arcs.length : Int)) then
    ((idx g0.Arcs (t54_2 : Int)).bind fun x18 =>
    (idx f0.X (t54_2 : Int)).bind fun x21 =>
    if (decide (x21 < 0) || decide (x18.Cap < x21)) then
      (some false)
    else
      ((idx f0.Price x18.From).bind fun x24 =>
      chk (i64b (x18.Cost + x24)) <|
      (idx f0.Price x18.To).bind fun x27 =>
      chk (i64b ((x18.Cost + x24) - x27)) <|
      if ((decide (x21 < x18.Cap) && decide (((x18.Cost + x24) - x27) < 0)) || (decide (0 < x21) && decide (0 < ((x18.Cost + x24) - x27)))) then
        (some false)
      else
        ((idx lout_2 x18.From).bind fun x31 =>
        chk (i64b (x31 + x21)) <|
        (idx lout_2 x18.From).bind fun x34 =>
        (idx (lout_2.set x18.From.toNat (x31 + x21)) x18.To).bind fun x36 =>
        chk (i64b (x36 - x21)) <|
        (idx (lout_2.set x18.From.toNat (x31 + x21)) x18.To).bind fun x39 =>
        chk (i64b (x21 * x18.Cost)) <|
        chk (i64b (cost_2 + (x21 * x18.Cost))) <|
        cont2 (((lout_2.set x18.From.toNat (x31 + x21)).set x18.To.toNat (x36 - x21)), (cost_2 + (x21 * x18.Cost)), t54_2 + 1))))
  else
    (flow_Verify_k2 g0 lout_2 cost_2 f0 ())
def flow_Verify_k1 (g0 : Graph) (f0 : Flow) : Unit → Option Bool := fun _ =>
  (mk (α := Int) 0 (g0.Supply.length : Int)).bind fun m13 =>
  iter (flow_Verify_b2 g0 f0) FUEL (m13, 0, 0)
def flow_Verify_b1 (f0 : Flow) (g0 : Graph) (cont1 : Nat → Option Bool) : Nat → Option Bool := fun t39_1 =>
  if decide ((t39_1 : Int) < (f0.Price.length : Int)) then
    ((idx f0.Price (t39_1 : Int)).bind fun x8 =>
    (flow_within_m x8 1099511627776).bind fun y10 =>
    if (!y10) then
      (some false)
    else
      (cont1 (t39_1 + 1)))
  else
    (flow_Verify_k1 g0 f0 ())
def flow_Verify_m (g0 : Graph) (f0 : Flow) : Option Bool :=
  (flow_Check_m g0).bind fun y3 =>
  if (((!y3) || decide ((f0.X.length : Int) ≠ (g0.Arcs.length : Int))) || decide ((f0.Price.length : Int) ≠ (g0.Supply.length : Int))) then
    (some false)
  else
    (iter (flow_Verify_b1 f0 g0) FUEL 0)
theorem flow_Verify_spec (S : Soup) (w : World) (g0 : Graph) (r_g0 : GoRep.R Graph) (f0 : Flow) (r_f0 : GoRep.R Flow) (y : Bool) (hM : flow_Verify_m g0 f0 = some y) (hS : ∀ k, S k → k < w.heap.size) (h_g0 : GoRep.ok S w r_g0 g0) (h_f0 : GoRep.ok S w r_f0 f0) :
    Calls Try.prog 26 #[.agg #[.slice r_g0.1.a g0.Supply.length r_g0.1.cap, .slice r_g0.2.a g0.Arcs.length r_g0.2.cap], .agg #[.slice r_f0.1.a f0.X.length r_f0.1.cap, .slice r_f0.2.a f0.Price.length r_f0.2.cap, .int .i64 f0.Cost]] w (Ret w (.bool y)) := by
  refine calls_cw (args := [_, _]) Try.func26 rfl ((pre_nil hS).start |>.immP (α := List Int) (r := r_g0.1) (x := g0.Supply) h_g0.1|>.immP (α := List Arc) (r := r_g0.2) (x := g0.Arcs) h_g0.2|>.immP (α := List Int) (r := r_f0.1) (x := f0.X) h_f0.1|>.immP (α := List Int) (r := r_f0.2) (x := f0.Price) h_f0.2) rfl ?_
  unfold flow_Verify_m at hM
  refine cw_seq fun K1 hK1 => ?_
  refine cw_region ?_
  refine ow_cons (st_box (l := [.slice r_g0.1.a g0.Supply.length r_g0.1.cap, .slice r_g0.2.a g0.Arcs.length r_g0.2.cap]) (k := fun b1 => ?_))
  refine ow_cons (st_box (l := [.slice r_f0.1.a f0.X.length r_f0.1.cap, .slice r_f0.2.a f0.Price.length r_f0.2.cap, .int .i64 f0.Cost]) (k := fun b2 => ?_))
  refine ow_ev ev_assign ?_
  refine ow_nil (hK1 _ _ ?_); clear hK1
  refine cw_seq fun K2 hK2 => ?_
  refine cw_seq fun K3 hK3 => ?_
  refine cw_region ?_
  refine ow_ev (ev_load_all (b := b1)) ?_
  obtain ⟨y3, hy4, hM⟩ := bind_some hM
  refine ow_cons (st_callv (fun w hm => let ⟨S, hs⟩ := hm; flow_Check_spec _ w g0 r_g0 y3 hy4 (lend_lt hs) ⟨(Kn.lend (Kn.imm (α := List Int) (r := r_g0.1) (x := g0.Supply) (by repeat (first | exact Has.head | apply Has.tail))) hs), (Kn.lend (Kn.imm (α := List Arc) (r := r_g0.2) (x := g0.Arcs) (by repeat (first | exact Has.head | apply Has.tail))) hs)⟩) ?_)
  refine ow_ev ev_not ?_
  refine ow_ev ev_move ?_
  refine ow_evg rfl (ev_field_addr 0) ?_
  refine ow_evg rfl (ev_load_own (b := b2)) ?_
  refine ow_evg rfl ev_len ?_
  refine ow_evg rfl (ev_field_addr 1) ?_
  refine ow_evg rfl (ev_load_own (b := b1)) ?_
  refine ow_evg rfl ev_len ?_
  refine ow_evg rfl ev_neq ?_
  refine ow_ev ev_or ?_
  refine ow_ev ev_move ?_
  refine ow_evg rfl (ev_field_addr 1) ?_
  refine ow_evg rfl (ev_load_own (b := b2)) ?_
  refine ow_evg rfl ev_len ?_
  refine ow_evg rfl (ev_field_addr 0) ?_
  refine ow_evg rfl (ev_load_own (b := b1)) ?_
  refine ow_evg rfl ev_len ?_
  refine ow_evg rfl ev_neq ?_
  refine ow_ev ev_or ?_
  refine ow_nil (hK3 _ _ ?_); clear hK3
  refine cw_cond rfl (fun hc5 => ?_) (fun hc5 => ?_)
  ·
    replace hM := (ite_t hc5).symm.trans hM
    refine cw_seq fun K4 hK4 => ?_
    refine cw_region ?_
    refine ow_ev ev_assign ?_
    refine ow_nil (hK4 _ _ ?_); clear hK4
    obtain rfl := some_inj hM
    refine cw_ret (kw_retc1 (fun w hm => ret_of hm rfl))
  ·
    replace hM := (ite_f hc5).symm.trans hM
    refine cw_skip (hK2 _ _ ?_); clear hK2
    refine cw_seq fun K5 hK5 => ?_
    refine cw_seq fun K6 hK6 => ?_
    refine cw_region ?_
    refine ow_ev (ev_field_addr 1) ?_
    refine ow_ev (ev_load_own (b := b2)) ?_
    refine ow_have (fun w hm => Kn.len (Kn.imm (α := List Int) (r := r_f0.2) (x := f0.Price) (by repeat (first | exact Has.head | apply Has.tail))) hm) fun hl6 => ?_
    refine ow_ev ev_len ?_
    refine ow_ev ev_move ?_
    refine ow_nil (hK6 _ _ ?_); clear hK6
    refine cw_block ?_
    refine cw_loop (γ := Nat × Nat × Unit) (env := fun (_, t39_1, _) => [(2, .v (.pointer (some ⟨b1, 0, none⟩))), (3, .v (.pointer (some ⟨b2, 0, none⟩))), (37, .v (.slice r_f0.2.a f0.Price.length r_f0.2.cap)), (38, .v (.int .i64 (f0.Price.length : Int))), (39, .v (.int .i64 (t39_1 : Int)))]) (mem := fun (_, t39_1, _) => [imm (α := (List Int)) r_g0.1 g0.Supply, imm (α := (List Arc)) r_g0.2 g0.Arcs, own b1 25 [.slice r_g0.1.a g0.Supply.length r_g0.1.cap, .slice r_g0.2.a g0.Arcs.length r_g0.2.cap], imm (α := (List Int)) r_f0.1 f0.X, imm (α := (List Int)) r_f0.2 f0.Price, own b2 28 [.slice r_f0.1.a f0.X.length r_f0.1.cap, .slice r_f0.2.a f0.Price.length r_f0.2.cap, .int .i64 f0.Cost]]) (R := fun g => iter (flow_Verify_b1 f0 g0) g.1 g.2.1 = some y) (μ := fun g => g.1) (FUEL, 0, ()) hM ⟨rfl, rfl, rfl, rfl, rfl, trivial⟩ (fun w hm => hm.reord) ?_
    clear hM
    intro g hM KL1 hL1
    obtain ⟨nn1, t39_1, ⟨⟩⟩ := g
    dsimp only at hM ⊢
    obtain ⟨nn1, cont1, rfl, hcont1, hM⟩ := iter_open' hM
    dsimp only [flow_Verify_b1] at hM
    refine cw_seq fun K7 hK7 => ?_
    refine cw_region ?_
    refine ow_ev ev_lss ?_
    refine ow_nil (hK7 _ _ ?_); clear hK7
    refine cw_seq fun K8 hK8 => ?_
    refine cw_cond rfl (fun hc7 => ?_) (fun hc7 => ?_)
    ·
      replace hM := (ite_t hc7).symm.trans hM
      have hc7d := of_decide_eq_true hc7
      refine cw_skip (hK8 _ _ ?_); clear hK8
      refine cw_seq fun K9 hK9 => ?_
      refine cw_block ?_
      refine cw_seq fun K10 hK10 => ?_
      refine cw_region ?_
      obtain ⟨x8, hx9, hM⟩ := bind_some hM
      refine ow_ev (ev_idx (xs := f0.Price) 1 (Kn.imm (α := List Int) (r := r_f0.2) (x := f0.Price) (by repeat (first | exact Has.head | apply Has.tail))) (fun hg => let h := idx_some hx9; ⟨h.1, h.2.1⟩)) ?_
      refine ow_ev (ev_ld (i := (t39_1 : Int)) (xs := f0.Price) (y := x8) 0 (Kn.imm (α := List Int) (r := r_f0.2) (x := f0.Price) (by repeat (first | exact Has.head | apply Has.tail))) (fun _ => hx9)) ?_
      refine ow_ev ev_assign ?_
      refine ow_nil (hK10 _ _ ?_); clear hK10
      refine cw_seq fun K11 hK11 => ?_
      refine cw_region ?_
      refine ow_ev ev_move ?_
      obtain ⟨y10, hy11, hM⟩ := bind_some hM
      refine ow_cons (st_callv (fun w hm => let ⟨S, hs⟩ := hm; flow_within_spec _ w x8 1099511627776 y10 hy11 (lend_lt hs) ) ?_)
      refine ow_ev ev_not ?_
      refine ow_nil (hK11 _ _ ?_); clear hK11
      refine cw_cond rfl (fun hc12 => ?_) (fun hc12 => ?_)
      ·
        replace hM := (ite_t hc12).symm.trans hM
        refine cw_seq fun K12 hK12 => ?_
        refine cw_region ?_
        refine ow_ev ev_assign ?_
        refine ow_nil (hK12 _ _ ?_); clear hK12
        obtain rfl := some_inj hM
        refine cw_ret (kw_retc1 (fun w hm => ret_of hm rfl))
      ·
        replace hM := (ite_f hc12).symm.trans hM
        refine cw_skip (hK9 _ _ ?_); clear hK9
        refine cw_region ?_
        refine ow_ev (ev_add (hr := fun _ => by unfold I64; omega)) ?_
        refine ow_ev ev_move ?_
        refine ow_nil (hL1 (nn1, (t39_1 + 1), ()) _ _ (eqc hcont1 hM) (Nat.lt_succ_self _) ⟨rfl, rfl, rfl, rfl, rfl, trivial⟩ (fun w hm => hm.reord))
    ·
      replace hM := (ite_f hc7).symm.trans hM
      refine cw_exit (hK5 _ _ ?_); clear hK5
      dsimp only [flow_Verify_k1] at hM
      refine cw_seq fun K13 hK13 => ?_
      refine cw_region ?_
      refine ow_ev (ev_field_addr 0) ?_
      refine ow_ev (ev_load_own (b := b1)) ?_
      refine ow_ev ev_len ?_
      obtain ⟨m13, hm14, hM⟩ := bind_some hM
      refine ow_cons (st_make (α := Int) (e := 3) 0 () hm14 (fun _ _ => trivial) (fun r15 hr15 => ?_))
      refine ow_ev ev_assign ?_
      refine ow_nil (hK13 _ _ ?_); clear hK13
      refine cw_seq fun K14 hK14 => ?_
      refine cw_region ?_
      refine ow_ev ev_assign ?_
      refine ow_nil (hK14 _ _ ?_); clear hK14
      refine cw_seq fun K15 hK15 => ?_
      refine cw_seq fun K16 hK16 => ?_
      refine cw_region ?_
      refine ow_ev (ev_field_addr 1) ?_
      refine ow_ev (ev_load_own (b := b1)) ?_
      refine ow_have (fun w hm => Kn.len (Kn.imm (α := List Arc) (r := r_g0.2) (x := g0.Arcs) (by repeat (first | exact Has.head | apply Has.tail))) hm) fun hl16 => ?_
      refine ow_ev ev_len ?_
      refine ow_ev ev_move ?_
      refine ow_nil (hK16 _ _ ?_); clear hK16
      refine cw_block ?_
      refine cw_loop (γ := Nat × ((List Int) × Int × Nat) × Unit) (env := fun (_, (lout_2, cost_2, t54_2), _) => [(2, .v (.pointer (some ⟨b1, 0, none⟩))), (3, .v (.pointer (some ⟨b2, 0, none⟩))), (7, .v (.slice r15.a lout_2.length r15.cap)), (8, .v (.int .i64 cost_2)), (52, .v (.slice r_g0.2.a g0.Arcs.length r_g0.2.cap)), (53, .v (.int .i64 (g0.Arcs.length : Int))), (54, .v (.int .i64 (t54_2 : Int)))]) (mem := fun (_, (lout_2, cost_2, t54_2), _) => [imm (α := (List Int)) r_g0.1 g0.Supply, imm (α := (List Arc)) r_g0.2 g0.Arcs, own b1 25 [.slice r_g0.1.a g0.Supply.length r_g0.1.cap, .slice r_g0.2.a g0.Arcs.length r_g0.2.cap], imm (α := (List Int)) r_f0.1 f0.X, imm (α := (List Int)) r_f0.2 f0.Price, own b2 28 [.slice r_f0.1.a f0.X.length r_f0.1.cap, .slice r_f0.2.a f0.Price.length r_f0.2.cap, .int .i64 f0.Cost], trow 3 r15 lout_2]) (R := fun g => iter (flow_Verify_b2 g0 f0) g.1 g.2.1 = some y) (μ := fun g => g.1) (FUEL, (m13, 0, 0), ()) hM ⟨rfl, rfl, rfl, rfl, rfl, rfl, rfl, trivial⟩ (fun w hm => hm.reord) ?_
      clear hM
      intro g hM KL2 hL2
      obtain ⟨nn2, ⟨lout_2, cost_2, t54_2⟩, ⟨⟩⟩ := g
      dsimp only at hM ⊢
      obtain ⟨nn2, cont2, rfl, hcont2, hM⟩ := iter_open' hM
      dsimp only [flow_Verify_b2] at hM
      refine cw_seq fun K17 hK17 => ?_
      refine cw_region ?_
      refine ow_ev ev_lss ?_
      refine ow_nil (hK17 _ _ ?_); clear hK17
      refine cw_seq fun K18 hK18 => ?_
      refine cw_cond rfl (fun hc17 => ?_) (fun hc17 => ?_)
      ·
        replace hM := (ite_t hc17).symm.trans hM
        have hc17d := of_decide_eq_true hc17
        refine cw_skip (hK18 _ _ ?_); clear hK18
        refine cw_seq fun K19 hK19 => ?_
        refine cw_block ?_
        refine cw_seq fun K20 hK20 => ?_
        refine cw_region ?_
        refine ow_ev ev_move ?_
        obtain ⟨x18, hx19, hM⟩ := bind_some hM
        refine ow_ev (ev_idx (xs := g0.Arcs) 4 (Kn.imm (α := List Arc) (r := r_g0.2) (x := g0.Arcs) (by repeat (first | exact Has.head | apply Has.tail))) (fun hg => let h := idx_some hx19; ⟨h.1, h.2.1⟩)) ?_
        refine ow_ev (ev_lds (m := 4) (i := (t54_2 : Int)) (xs := g0.Arcs) (y := x18) (l := [.int .i64 x18.From, .int .i64 x18.To, .int .i64 x18.Cap, .int .i64 x18.Cost]) 0 (Kn.imm (α := List Arc) (r := r_g0.2) (x := g0.Arcs) (by repeat (first | exact Has.head | apply Has.tail))) (fun _ => hx19)) ?_
        refine ow_cons (st_alloc rfl (k := fun b20 => ?_))
        refine ow_ev ev_assign ?_
        refine ow_cons (st_store_all (b := b20) (vs := [.int .i64 x18.From, .int .i64 x18.To, .int .i64 x18.Cap, .int .i64 x18.Cost]) (k := ?_))
        refine ow_nil (hK20 _ _ ?_); clear hK20
        refine cw_seq fun K21 hK21 => ?_
        refine cw_region ?_
        refine ow_ev (ev_field_addr 0) ?_
        refine ow_ev (ev_load_own (b := b2)) ?_
        refine ow_ev ev_move ?_
        obtain ⟨x21, hx22, hM⟩ := bind_some hM
        refine ow_ev (ev_idx (xs := f0.X) 1 (Kn.imm (α := List Int) (r := r_f0.1) (x := f0.X) (by repeat (first | exact Has.head | apply Has.tail))) (fun hg => let h := idx_some hx22; ⟨h.1, h.2.1⟩)) ?_
        refine ow_ev (ev_ld (i := (t54_2 : Int)) (xs := f0.X) (y := x21) 0 (Kn.imm (α := List Int) (r := r_f0.1) (x := f0.X) (by repeat (first | exact Has.head | apply Has.tail))) (fun _ => hx22)) ?_
        refine ow_ev ev_assign ?_
        refine ow_nil (hK21 _ _ ?_); clear hK21
        refine cw_seq fun K22 hK22 => ?_
        refine cw_seq fun K23 hK23 => ?_
        refine cw_region ?_
        refine ow_ev ev_move ?_
        refine ow_ev ev_lss ?_
        refine ow_ev ev_move ?_
        refine ow_evg rfl ev_move ?_
        refine ow_evg rfl (ev_field_addr 2) ?_
        refine ow_evg rfl (ev_load_own (b := b20)) ?_
        refine ow_evg rfl ev_gtr ?_
        refine ow_ev ev_or ?_
        refine ow_nil (hK23 _ _ ?_); clear hK23
        refine cw_cond rfl (fun hc23 => ?_) (fun hc23 => ?_)
        ·
          replace hM := (ite_t hc23).symm.trans hM
          refine cw_seq fun K24 hK24 => ?_
          refine cw_region ?_
          refine ow_ev ev_assign ?_
          refine ow_nil (hK24 _ _ ?_); clear hK24
          obtain rfl := some_inj hM
          refine cw_ret (kw_retc1 (fun w hm => ret_of hm rfl))
        ·
          replace hM := (ite_f hc23).symm.trans hM
          refine cw_skip (hK22 _ _ ?_); clear hK22
          refine cw_seq fun K25 hK25 => ?_
          refine cw_region_any _ (List.Sublist.refl _) ?_
          refine aw_ev 0 rfl (ev_field_addr 3) ?_
          refine aw_ev 1 rfl (ev_load_own (b := b20)) ?_
          refine aw_ev 2 rfl (ev_field_addr 1) ?_
          refine aw_ev 3 rfl (ev_load_own (b := b2)) ?_
          refine aw_ev 4 rfl (ev_field_addr 0) ?_
          refine aw_ev 5 rfl (ev_load_own (b := b20)) ?_
          obtain ⟨x24, hx25, hM⟩ := bind_some hM
          refine aw_ev 6 rfl (ev_idx (xs := f0.Price) 1 (Kn.imm (α := List Int) (r := r_f0.2) (x := f0.Price) (by repeat (first | exact Has.head | apply Has.tail))) (fun hg => let h := idx_some hx25; ⟨h.1, h.2.1⟩)) ?_
          refine aw_ev 7 rfl (ev_ld (i := x18.From) (xs := f0.Price) (y := x24) 0 (Kn.imm (α := List Int) (r := r_f0.2) (x := f0.Price) (by repeat (first | exact Has.head | apply Has.tail))) (fun _ => hx25)) ?_
          obtain ⟨hI26, hM⟩ := chk_some hM
          refine aw_ev 8 rfl (ev_add (hr := fun hg => i64b_I64 hI26)) ?_
          refine aw_ev 9 rfl (ev_field_addr 1) ?_
          refine aw_ev 10 rfl (ev_load_own (b := b2)) ?_
          refine aw_ev 11 rfl (ev_field_addr 1) ?_
          refine aw_ev 12 rfl (ev_load_own (b := b20)) ?_
          obtain ⟨x27, hx28, hM⟩ := bind_some hM
          refine aw_ev 13 rfl (ev_idx (xs := f0.Price) 1 (Kn.imm (α := List Int) (r := r_f0.2) (x := f0.Price) (by repeat (first | exact Has.head | apply Has.tail))) (fun hg => let h := idx_some hx28; ⟨h.1, h.2.1⟩)) ?_
          refine aw_ev 14 rfl (ev_ld (i := x18.To) (xs := f0.Price) (y := x27) 0 (Kn.imm (α := List Int) (r := r_f0.2) (x := f0.Price) (by repeat (first | exact Has.head | apply Has.tail))) (fun _ => hx28)) ?_
          obtain ⟨hI29, hM⟩ := chk_some hM
          refine aw_ev 15 rfl (ev_sub (hr := fun hg => i64b_I64 hI29)) ?_
          refine aw_ev 16 rfl ev_assign ?_
          refine aw_done (hK25 _ _ ?_); clear hK25
          refine cw_seq fun K26 hK26 => ?_
          refine cw_seq fun K27 hK27 => ?_
          refine cw_region ?_
          refine ow_ev ev_move ?_
          refine ow_ev (ev_field_addr 2) ?_
          refine ow_ev (ev_load_own (b := b20)) ?_
          refine ow_ev ev_lss ?_
          refine ow_ev ev_move ?_
          refine ow_evg rfl ev_move ?_
          refine ow_evg rfl ev_lss ?_
          refine ow_ev ev_and ?_
          refine ow_ev ev_move ?_
          refine ow_evg rfl ev_move ?_
          refine ow_evg rfl ev_gtr ?_
          refine ow_evg rfl ev_move ?_
          refine ow_evg rfl ev_move ?_
          refine ow_evg rfl ev_gtr ?_
          refine ow_evg rfl ev_and ?_
          refine ow_ev ev_or ?_
          refine ow_nil (hK27 _ _ ?_); clear hK27
          refine cw_cond rfl (fun hc30 => ?_) (fun hc30 => ?_)
          ·
            replace hM := (ite_t hc30).symm.trans hM
            refine cw_seq fun K28 hK28 => ?_
            refine cw_region ?_
            refine ow_ev ev_assign ?_
            refine ow_nil (hK28 _ _ ?_); clear hK28
            obtain rfl := some_inj hM
            refine cw_ret (kw_retc1 (fun w hm => ret_of hm rfl))
          ·
            replace hM := (ite_f hc30).symm.trans hM
            refine cw_skip (hK26 _ _ ?_); clear hK26
            refine cw_seq fun K29 hK29 => ?_
            refine cw_region ?_
            refine ow_ev ev_move ?_
            refine ow_ev (ev_field_addr 0) ?_
            refine ow_ev (ev_load_own (b := b20)) ?_
            obtain ⟨x31, hx32, hM⟩ := bind_some hM
            refine ow_ev (ev_idx (xs := lout_2) 1 (Kn.trow (e := 3) (r := r15) (by repeat (first | exact Has.head | apply Has.tail))) (fun hg => let h := idx_some hx32; ⟨h.1, h.2.1⟩)) ?_
            refine ow_ev (ev_ld (i := x18.From) (xs := lout_2) (y := x31) 0 (Kn.trow (e := 3) (r := r15) (by repeat (first | exact Has.head | apply Has.tail))) (fun _ => hx32)) ?_
            refine ow_ev ev_move ?_
            obtain ⟨hI33, hM⟩ := chk_some hM
            refine ow_ev (ev_add (hr := fun hg => i64b_I64 hI33)) ?_
            obtain ⟨x34, hx35, hM⟩ := bind_some hM
            refine ow_ev (ev_idx (xs := lout_2) 1 (Kn.trow (e := 3) (r := r15) (by repeat (first | exact Has.head | apply Has.tail))) (fun hg => let h := idx_some hx35; ⟨h.1, h.2.1⟩)) ?_
            refine ow_cons (st_set (r := r15) (i := x18.From) (xs := lout_2) (u := x34) (vs := [.int .i64 (x31 + x21)]) 0 (x31 + x21) hx35 rfl (fun _ _ h => h) (by repeat (first | exact Upd.head | apply Upd.tail)) ?_)
            refine ow_nil (hK29 _ _ ?_); clear hK29
            refine cw_seq fun K30 hK30 => ?_
            refine cw_region ?_
            refine ow_ev ev_move ?_
            refine ow_ev (ev_field_addr 1) ?_
            refine ow_ev (ev_load_own (b := b20)) ?_
            obtain ⟨x36, hx37, hM⟩ := bind_some hM
            refine ow_ev (ev_idx (xs := (lout_2.set x18.From.toNat (x31 + x21))) 1 (Kn.trow (e := 3) (r := r15) (by repeat (first | exact Has.head | apply Has.tail))) (fun hg => let h := idx_some hx37; ⟨h.1, h.2.1⟩)) ?_
            refine ow_ev (ev_ld (i := x18.To) (xs := (lout_2.set x18.From.toNat (x31 + x21))) (y := x36) 0 (Kn.trow (e := 3) (r := r15) (by repeat (first | exact Has.head | apply Has.tail))) (fun _ => hx37)) ?_
            refine ow_ev ev_move ?_
            obtain ⟨hI38, hM⟩ := chk_some hM
            refine ow_ev (ev_sub (hr := fun hg => i64b_I64 hI38)) ?_
            obtain ⟨x39, hx40, hM⟩ := bind_some hM
            refine ow_ev (ev_idx (xs := (lout_2.set x18.From.toNat (x31 + x21))) 1 (Kn.trow (e := 3) (r := r15) (by repeat (first | exact Has.head | apply Has.tail))) (fun hg => let h := idx_some hx40; ⟨h.1, h.2.1⟩)) ?_
            refine ow_cons (st_set (r := r15) (i := x18.To) (xs := (lout_2.set x18.From.toNat (x31 + x21))) (u := x39) (vs := [.int .i64 (x36 - x21)]) 0 (x36 - x21) hx40 rfl (fun _ _ h => h) (by repeat (first | exact Upd.head | apply Upd.tail)) ?_)
            refine ow_nil (hK30 _ _ ?_); clear hK30
            refine cw_region ?_
            refine ow_ev ev_move ?_
            refine ow_ev ev_move ?_
            refine ow_ev (ev_field_addr 3) ?_
            refine ow_ev (ev_load_own (b := b20)) ?_
            obtain ⟨hI41, hM⟩ := chk_some hM
            refine ow_ev (ev_mul (hr := fun hg => i64b_I64 hI41)) ?_
            obtain ⟨hI42, hM⟩ := chk_some hM
            refine ow_ev (ev_add (hr := fun hg => i64b_I64 hI42)) ?_
            refine ow_ev ev_assign ?_
            refine ow_nil (hK19 _ _ ?_); clear hK19
            refine cw_region ?_
            refine ow_ev (ev_add (hr := fun _ => by unfold I64; omega)) ?_
            refine ow_ev ev_move ?_
            refine ow_nil (hL2 (nn2, (((lout_2.set x18.From.toNat (x31 + x21)).set x18.To.toNat (x36 - x21)), (cost_2 + (x21 * x18.Cost)), t54_2 + 1), ()) _ _ (eqc hcont2 hM) (Nat.lt_succ_self _) ⟨rfl, rfl, (by simp only [List.length_set]; rfl), rfl, rfl, rfl, rfl, trivial⟩ (fun w hm => hm.reord))
      ·
        replace hM := (ite_f hc17).symm.trans hM
        refine cw_exit (hK15 _ _ ?_); clear hK15
        dsimp only [flow_Verify_k2] at hM
        refine cw_seq fun K31 hK31 => ?_
        refine cw_seq fun K32 hK32 => ?_
        refine cw_region ?_
        refine ow_ev (ev_field_addr 0) ?_
        refine ow_ev (ev_load_own (b := b1)) ?_
        refine ow_have (fun w hm => Kn.len (Kn.imm (α := List Int) (r := r_g0.1) (x := g0.Supply) (by repeat (first | exact Has.head | apply Has.tail))) hm) fun hl43 => ?_
        refine ow_ev ev_len ?_
        refine ow_ev ev_move ?_
        refine ow_nil (hK32 _ _ ?_); clear hK32
        refine cw_block ?_
        refine cw_loop (γ := Nat × Nat × Unit) (env := fun (_, t130_3, _) => [(3, .v (.pointer (some ⟨b2, 0, none⟩))), (7, .v (.slice r15.a lout_2.length r15.cap)), (8, .v (.int .i64 cost_2)), (128, .v (.slice r_g0.1.a g0.Supply.length r_g0.1.cap)), (129, .v (.int .i64 (g0.Supply.length : Int))), (130, .v (.int .i64 (t130_3 : Int)))]) (mem := fun (_, t130_3, _) => [imm (α := (List Int)) r_f0.1 f0.X, imm (α := (List Int)) r_f0.2 f0.Price, own b2 28 [.slice r_f0.1.a f0.X.length r_f0.1.cap, .slice r_f0.2.a f0.Price.length r_f0.2.cap, .int .i64 f0.Cost], trow 3 r15 lout_2, imm (α := (List Int)) r_g0.1 g0.Supply]) (R := fun g => iter (flow_Verify_b3 g0 lout_2 cost_2 f0) g.1 g.2.1 = some y) (μ := fun g => g.1) (FUEL, 0, ()) hM ⟨rfl, rfl, rfl, rfl, rfl, rfl, trivial⟩ (fun w hm => hm.reord) ?_
        clear hM
        intro g hM KL3 hL3
        obtain ⟨nn3, t130_3, ⟨⟩⟩ := g
        dsimp only at hM ⊢
        obtain ⟨nn3, cont3, rfl, hcont3, hM⟩ := iter_open' hM
        dsimp only [flow_Verify_b3] at hM
        refine cw_seq fun K33 hK33 => ?_
        refine cw_region ?_
        refine ow_ev ev_lss ?_
        refine ow_nil (hK33 _ _ ?_); clear hK33
        refine cw_seq fun K34 hK34 => ?_
        refine cw_cond rfl (fun hc44 => ?_) (fun hc44 => ?_)
        ·
          replace hM := (ite_t hc44).symm.trans hM
          have hc44d := of_decide_eq_true hc44
          refine cw_skip (hK34 _ _ ?_); clear hK34
          refine cw_seq fun K35 hK35 => ?_
          refine cw_block ?_
          refine cw_seq fun K36 hK36 => ?_
          refine cw_region ?_
          refine ow_ev ev_move ?_
          obtain ⟨x45, hx46, hM⟩ := bind_some hM
          refine ow_ev (ev_idx (xs := g0.Supply) 1 (Kn.imm (α := List Int) (r := r_g0.1) (x := g0.Supply) (by repeat (first | exact Has.head | apply Has.tail))) (fun hg => let h := idx_some hx46; ⟨h.1, h.2.1⟩)) ?_
          refine ow_ev (ev_ld (i := (t130_3 : Int)) (xs := g0.Supply) (y := x45) 0 (Kn.imm (α := List Int) (r := r_g0.1) (x := g0.Supply) (by repeat (first | exact Has.head | apply Has.tail))) (fun _ => hx46)) ?_
          refine ow_ev ev_assign ?_
          refine ow_ev ev_assign ?_
          refine ow_nil (hK36 _ _ ?_); clear hK36
          refine cw_seq fun K37 hK37 => ?_
          refine cw_region ?_
          refine ow_ev ev_move ?_
          refine ow_ev ev_move ?_
          obtain ⟨x47, hx48, hM⟩ := bind_some hM
          refine ow_ev (ev_idx (xs := lout_2) 1 (Kn.trow (e := 3) (r := r15) (by repeat (first | exact Has.head | apply Has.tail))) (fun hg => let h := idx_some hx48; ⟨h.1, h.2.1⟩)) ?_
          refine ow_ev (ev_ld (i := (t130_3 : Int)) (xs := lout_2) (y := x47) 0 (Kn.trow (e := 3) (r := r15) (by repeat (first | exact Has.head | apply Has.tail))) (fun _ => hx48)) ?_
          refine ow_ev ev_move ?_
          refine ow_ev ev_neq ?_
          refine ow_nil (hK37 _ _ ?_); clear hK37
          refine cw_cond rfl (fun hc49 => ?_) (fun hc49 => ?_)
          ·
            replace hM := (ite_t hc49).symm.trans hM
            refine cw_seq fun K38 hK38 => ?_
            refine cw_region ?_
            refine ow_ev ev_assign ?_
            refine ow_nil (hK38 _ _ ?_); clear hK38
            obtain rfl := some_inj hM
            refine cw_ret (kw_retc1 (fun w hm => ret_of hm rfl))
          ·
            replace hM := (ite_f hc49).symm.trans hM
            refine cw_skip (hK35 _ _ ?_); clear hK35
            refine cw_region ?_
            refine ow_ev (ev_add (hr := fun _ => by unfold I64; omega)) ?_
            refine ow_ev ev_move ?_
            refine ow_nil (hL3 (nn3, (t130_3 + 1), ()) _ _ (eqc hcont3 hM) (Nat.lt_succ_self _) ⟨rfl, rfl, rfl, rfl, rfl, rfl, trivial⟩ (fun w hm => hm.reord))
        ·
          replace hM := (ite_f hc44).symm.trans hM
          refine cw_exit (hK31 _ _ ?_); clear hK31
          dsimp only [flow_Verify_k3] at hM
          refine cw_seq fun K39 hK39 => ?_
          refine cw_region ?_
          refine ow_ev ev_move ?_
          refine ow_ev (ev_field_addr 2) ?_
          refine ow_ev (ev_load_own (b := b2)) ?_
          refine ow_ev ev_eql ?_
          refine ow_ev ev_assign ?_
          refine ow_nil (hK39 _ _ ?_); clear hK39
          obtain rfl := some_inj hM
          refine cw_ret (kw_retc1 (fun w hm => ret_of hm rfl))

def ref24_FeasibleFlow_k2 : Unit → Option Bool := fun _ =>
  some true
def ref24_FeasibleFlow_b2 (lleft_1 : List Int) (cont2 : Nat → Option Bool) : Nat → Option Bool := fun t66_2 =>
  if decide ((t66_2 : Int) < (lleft_1.length : Int)) then
    ((idx lleft_1 (t66_2 : Int)).bind fun x32 =>
    if decide (x32 ≠ 0) then
      (some false)
    else
      (cont2 (t66_2 + 1)))
  else
    (ref24_FeasibleFlow_k2 ())
def ref24_FeasibleFlow_k1 (lleft_1 : List Int) : Unit → Option Bool := fun _ =>
  iter (ref24_FeasibleFlow_b2 lleft_1) FUEL 0
def ref24_FeasibleFlow_b1 (g0 : Graph) (x0 : List Int) (cont1 : ((List Int) × Nat) → Option Bool) : ((List Int) × Nat) → Option Bool := fun (lleft_1, t22_1) =>
  if decide ((t22_1 : Int) < (g0.Arcs.length : Int)) then
    ((idx g0.Arcs (t22_1 : Int)).bind fun x8 =>
    (idx x0 (t22_1 : Int)).bind fun x11 =>
    (whn (!(decide (x11 < 0))) default (idx x0 (t22_1 : Int))).bind fun x13 =>
    if (decide (x11 < 0) || decide (x8.Cap < x13)) then
      (some false)
    else
      ((idx lleft_1 x8.From).bind fun x16 =>
      (idx x0 (t22_1 : Int)).bind fun x18 =>
      chk (i64b (x16 - x18)) <|
      (idx lleft_1 x8.From).bind fun x21 =>
      (idx (lleft_1.set x8.From.toNat (x16 - x18)) x8.To).bind fun x23 =>
      (idx x0 (t22_1 : Int)).bind fun x25 =>
      chk (i64b (x23 + x25)) <|
      (idx (lleft_1.set x8.From.toNat (x16 - x18)) x8.To).bind fun x28 =>
      cont1 (((lleft_1.set x8.From.toNat (x16 - x18)).set x8.To.toNat (x23 + x25)), t22_1 + 1)))
  else
    (ref24_FeasibleFlow_k1 lleft_1 ())
def ref24_FeasibleFlow_m (g0 : Graph) (x0 : List Int) : Option Bool :=
  if decide ((x0.length : Int) ≠ (g0.Arcs.length : Int)) then
    (some false)
  else
    (chk (decide ((([] : List Int).length + g0.Supply.length) * 8 ≤ 140737488355328)) <|
    iter (ref24_FeasibleFlow_b1 g0 x0) FUEL ((([] : List Int) ++ g0.Supply), 0))
theorem ref24_FeasibleFlow_spec (S : Soup) (w : World) (g0 : Graph) (r_g0 : GoRep.R Graph) (x0 : List Int) (r_x0 : GoRep.R (List Int)) (y : Bool) (hM : ref24_FeasibleFlow_m g0 x0 = some y) (hS : ∀ k, S k → k < w.heap.size) (h_g0 : GoRep.ok S w r_g0 g0) (h_x0 : GoRep.ok S w r_x0 x0) :
    Calls Try.prog 58 #[.agg #[.slice r_g0.1.a g0.Supply.length r_g0.1.cap, .slice r_g0.2.a g0.Arcs.length r_g0.2.cap], .slice r_x0.a x0.length r_x0.cap] w (Ret w (.bool y)) := by
  refine calls_cw (args := [_, _]) Try.func58 rfl ((pre_nil hS).start |>.immP (α := List Int) (r := r_g0.1) (x := g0.Supply) h_g0.1|>.immP (α := List Arc) (r := r_g0.2) (x := g0.Arcs) h_g0.2|>.immP (α := List Int) (r := r_x0) (x := x0) h_x0) rfl ?_
  unfold ref24_FeasibleFlow_m at hM
  refine cw_seq fun K1 hK1 => ?_
  refine cw_region ?_
  refine ow_cons (st_box (l := [.slice r_g0.1.a g0.Supply.length r_g0.1.cap, .slice r_g0.2.a g0.Arcs.length r_g0.2.cap]) (k := fun b1 => ?_))
  refine ow_ev ev_assign ?_
  refine ow_nil (hK1 _ _ ?_); clear hK1
  refine cw_seq fun K2 hK2 => ?_
  refine cw_seq fun K3 hK3 => ?_
  refine cw_region ?_
  refine ow_ev ev_move ?_
  refine ow_ev ev_len ?_
  refine ow_ev (ev_field_addr 1) ?_
  refine ow_ev (ev_load_own (b := b1)) ?_
  refine ow_ev ev_len ?_
  refine ow_ev ev_neq ?_
  refine ow_nil (hK3 _ _ ?_); clear hK3
  refine cw_cond rfl (fun hc2 => ?_) (fun hc2 => ?_)
  ·
    replace hM := (ite_t hc2).symm.trans hM
    refine cw_seq fun K4 hK4 => ?_
    refine cw_region ?_
    refine ow_ev ev_assign ?_
    refine ow_nil (hK4 _ _ ?_); clear hK4
    obtain rfl := some_inj hM
    refine cw_ret (kw_retc1 (fun w hm => ret_of hm rfl))
  ·
    replace hM := (ite_f hc2).symm.trans hM
    refine cw_skip (hK2 _ _ ?_); clear hK2
    refine cw_seq fun K5 hK5 => ?_
    refine cw_region ?_
    refine ow_ev (ev_field_addr 0) ?_
    refine ow_ev (ev_load_own (b := b1)) ?_
    refine ow_imp (fun w hm => hm.row_nil (α := Int) 3 (fun _ => ())) ?_
    obtain ⟨hb4, hM⟩ := chk_some hM
    refine ow_cons (st_append (r := (⟨none, 0, (fun _ => ())⟩ : SR (GoRep.R Int) )) (r2 := r_g0.1) (by intro r'; repeat (first | exact Upd.head | apply Upd.tail)) (Kn.imm (α := List Int) (r := r_g0.1) (x := g0.Supply) (by repeat (first | exact Has.head | apply Has.tail))) (OkL.flat (fun _ _ _ _ => trivial)) (of_decide_eq_true hb4) (fun r5 => ?_))
    refine ow_ev ev_assign ?_
    refine ow_nil (hK5 _ _ ?_); clear hK5
    refine cw_seq fun K6 hK6 => ?_
    refine cw_seq fun K7 hK7 => ?_
    refine cw_region ?_
    refine ow_ev (ev_field_addr 1) ?_
    refine ow_ev (ev_load_own (b := b1)) ?_
    refine ow_have (fun w hm => Kn.len (Kn.imm (α := List Arc) (r := r_g0.2) (x := g0.Arcs) (by repeat (first | exact Has.head | apply Has.tail))) hm) fun hl6 => ?_
    refine ow_ev ev_len ?_
    refine ow_ev ev_move ?_
    refine ow_nil (hK7 _ _ ?_); clear hK7
    refine cw_block ?_
    refine cw_loop (γ := Nat × ((List Int) × Nat) × Unit) (env := fun (_, (lleft_1, t22_1), _) => [(1, .v (.slice r_x0.a x0.length r_x0.cap)), (5, .v (.slice r5.a lleft_1.length r5.cap)), (20, .v (.slice r_g0.2.a g0.Arcs.length r_g0.2.cap)), (21, .v (.int .i64 (g0.Arcs.length : Int))), (22, .v (.int .i64 (t22_1 : Int)))]) (mem := fun (_, (lleft_1, t22_1), _) => [imm (α := (List Int)) r_x0 x0, trow 3 r5 lleft_1, imm (α := (List Arc)) r_g0.2 g0.Arcs]) (R := fun g => iter (ref24_FeasibleFlow_b1 g0 x0) g.1 g.2.1 = some y) (μ := fun g => g.1) (FUEL, ((([] : List Int) ++ g0.Supply), 0), ()) hM ⟨rfl, rfl, rfl, rfl, rfl, trivial⟩ (fun w hm => hm.reord) ?_
    clear hM
    intro g hM KL1 hL1
    obtain ⟨nn1, ⟨lleft_1, t22_1⟩, ⟨⟩⟩ := g
    dsimp only at hM ⊢
    obtain ⟨nn1, cont1, rfl, hcont1, hM⟩ := iter_open' hM
    dsimp only [ref24_FeasibleFlow_b1] at hM
    refine cw_seq fun K8 hK8 => ?_
    refine cw_region ?_
    refine ow_ev ev_lss ?_
    refine ow_nil (hK8 _ _ ?_); clear hK8
    refine cw_seq fun K9 hK9 => ?_
    refine cw_cond rfl (fun hc7 => ?_) (fun hc7 => ?_)
    ·
      replace hM := (ite_t hc7).symm.trans hM
      have hc7d := of_decide_eq_true hc7
      refine cw_skip (hK9 _ _ ?_); clear hK9
      refine cw_seq fun K10 hK10 => ?_
      refine cw_block ?_
      refine cw_seq fun K11 hK11 => ?_
      refine cw_region ?_
      refine ow_ev ev_move ?_
      obtain ⟨x8, hx9, hM⟩ := bind_some hM
      refine ow_ev (ev_idx (xs := g0.Arcs) 4 (Kn.imm (α := List Arc) (r := r_g0.2) (x := g0.Arcs) (by repeat (first | exact Has.head | apply Has.tail))) (fun hg => let h := idx_some hx9; ⟨h.1, h.2.1⟩)) ?_
      refine ow_ev (ev_lds (m := 4) (i := (t22_1 : Int)) (xs := g0.Arcs) (y := x8) (l := [.int .i64 x8.From, .int .i64 x8.To, .int .i64 x8.Cap, .int .i64 x8.Cost]) 0 (Kn.imm (α := List Arc) (r := r_g0.2) (x := g0.Arcs) (by repeat (first | exact Has.head | apply Has.tail))) (fun _ => hx9)) ?_
      refine ow_cons (st_alloc rfl (k := fun b10 => ?_))
      refine ow_ev ev_assign ?_
      refine ow_cons (st_store_all (b := b10) (vs := [.int .i64 x8.From, .int .i64 x8.To, .int .i64 x8.Cap, .int .i64 x8.Cost]) (k := ?_))
      refine ow_nil (hK11 _ _ ?_); clear hK11
      refine cw_seq fun K12 hK12 => ?_
      refine cw_seq fun K13 hK13 => ?_
      refine cw_region_any _ (List.Sublist.refl _) ?_
      refine aw_ev 0 rfl ev_move ?_
      refine aw_ev 1 rfl ev_move ?_
      obtain ⟨x11, hx12, hM⟩ := bind_some hM
      refine aw_ev 2 rfl (ev_idx (xs := x0) 1 (Kn.imm (α := List Int) (r := r_x0) (x := x0) (by repeat (first | exact Has.head | apply Has.tail))) (fun hg => let h := idx_some hx12; ⟨h.1, h.2.1⟩)) ?_
      refine aw_ev 3 rfl (ev_ld (i := (t22_1 : Int)) (xs := x0) (y := x11) 0 (Kn.imm (α := List Int) (r := r_x0) (x := x0) (by repeat (first | exact Has.head | apply Has.tail))) (fun _ => hx12)) ?_
      refine aw_ev 4 rfl ev_lss ?_
      refine aw_ev 5 rfl ev_move ?_
      refine aw_evg 6 rfl rfl ev_move ?_
      refine aw_evg 7 rfl rfl ev_move ?_
      obtain ⟨x13, hx14, hM⟩ := bind_some hM
      refine aw_evg 8 rfl rfl (ev_idx (xs := x0) 1 (Kn.imm (α := List Int) (r := r_x0) (x := x0) (by repeat (first | exact Has.head | apply Has.tail))) (fun hg => let h := idx_some (whn_some hx14 hg); ⟨h.1, h.2.1⟩)) ?_
      refine aw_evg 9 rfl rfl (ev_ld (i := (t22_1 : Int)) (xs := x0) (y := x13) 0 (Kn.imm (α := List Int) (r := r_x0) (x := x0) (by repeat (first | exact Has.head | apply Has.tail))) (fun hg => whn_some hx14 hg)) ?_
      refine aw_evg 10 rfl rfl (ev_field_addr 2) ?_
      refine aw_evg 11 rfl rfl (ev_load_own (b := b10)) ?_
      refine aw_evg 12 rfl rfl ev_gtr ?_
      refine aw_ev 13 rfl ev_or ?_
      refine aw_done (hK13 _ _ ?_); clear hK13
      refine cw_cond rfl (fun hc15 => ?_) (fun hc15 => ?_)
      ·
        replace hM := (ite_t hc15).symm.trans hM
        refine cw_seq fun K14 hK14 => ?_
        refine cw_region ?_
        refine ow_ev ev_assign ?_
        refine ow_nil (hK14 _ _ ?_); clear hK14
        obtain rfl := some_inj hM
        refine cw_ret (kw_retc1 (fun w hm => ret_of hm rfl))
      ·
        replace hM := (ite_f hc15).symm.trans hM
        refine cw_skip (hK12 _ _ ?_); clear hK12
        refine cw_seq fun K15 hK15 => ?_
        refine cw_region_z [own b10 40 [.int .i64 x8.From, .int .i64 x8.To, .int .i64 x8.Cap, .int .i64 x8.Cost], imm (α := (List Int)) r_x0 x0, trow 3 r5 lleft_1, imm (α := (List Arc)) r_g0.2 g0.Arcs] 11 ?_
        refine az_ev 0 rfl ev_move ?_
        refine az_ev 1 rfl (ev_field_addr 0) ?_
        refine az_ev 2 rfl (ev_load_own (b := b10)) ?_
        obtain ⟨x16, hx17, hM⟩ := bind_some hM
        refine az_ev 3 rfl (ev_idx (xs := lleft_1) 1 (Kn.trow (e := 3) (r := r5) (by repeat (first | exact Has.head | apply Has.tail))) (fun hg => let h := idx_some hx17; ⟨h.1, h.2.1⟩)) ?_
        refine az_ev 4 rfl (ev_ld (i := x8.From) (xs := lleft_1) (y := x16) 0 (Kn.trow (e := 3) (r := r5) (by repeat (first | exact Has.head | apply Has.tail))) (fun _ => hx17)) ?_
        refine az_ev 5 rfl ev_move ?_
        refine az_ev 6 rfl ev_move ?_
        obtain ⟨x18, hx19, hM⟩ := bind_some hM
        refine az_ev 7 rfl (ev_idx (xs := x0) 1 (Kn.imm (α := List Int) (r := r_x0) (x := x0) (by repeat (first | exact Has.head | apply Has.tail))) (fun hg => let h := idx_some hx19; ⟨h.1, h.2.1⟩)) ?_
        refine az_ev 8 rfl (ev_ld (i := (t22_1 : Int)) (xs := x0) (y := x18) 0 (Kn.imm (α := List Int) (r := r_x0) (x := x0) (by repeat (first | exact Has.head | apply Has.tail))) (fun _ => hx19)) ?_
        obtain ⟨hI20, hM⟩ := chk_some hM
        refine az_ev 9 rfl (ev_sub (hr := fun hg => i64b_I64 hI20)) ?_
        obtain ⟨x21, hx22, hM⟩ := bind_some hM
        refine az_ev 10 rfl (ev_idx (xs := lleft_1) 1 (Kn.trow (e := 3) (r := r5) (by repeat (first | exact Has.head | apply Has.tail))) (fun hg => let h := idx_some hx22; ⟨h.1, h.2.1⟩)) ?_
        refine az_last rfl (st_set (r := r5) (i := x8.From) (xs := lleft_1) (u := x21) (vs := [.int .i64 (x16 - x18)]) 0 (x16 - x18) hx22 rfl (fun _ _ h => h) (by repeat (first | exact Upd.head | apply Upd.tail)) ?_)
        refine az_done (hK15 _ _ ?_); clear hK15
        refine cw_region_z [own b10 40 [.int .i64 x8.From, .int .i64 x8.To, .int .i64 x8.Cap, .int .i64 x8.Cost], imm (α := (List Int)) r_x0 x0, trow 3 r5 (lleft_1.set x8.From.toNat (x16 - x18)), imm (α := (List Arc)) r_g0.2 g0.Arcs] 11 ?_
        refine az_ev 0 rfl ev_move ?_
        refine az_ev 1 rfl (ev_field_addr 1) ?_
        refine az_ev 2 rfl (ev_load_own (b := b10)) ?_
        obtain ⟨x23, hx24, hM⟩ := bind_some hM
        refine az_ev 3 rfl (ev_idx (xs := (lleft_1.set x8.From.toNat (x16 - x18))) 1 (Kn.trow (e := 3) (r := r5) (by repeat (first | exact Has.head | apply Has.tail))) (fun hg => let h := idx_some hx24; ⟨h.1, h.2.1⟩)) ?_
        refine az_ev 4 rfl (ev_ld (i := x8.To) (xs := (lleft_1.set x8.From.toNat (x16 - x18))) (y := x23) 0 (Kn.trow (e := 3) (r := r5) (by repeat (first | exact Has.head | apply Has.tail))) (fun _ => hx24)) ?_
        refine az_ev 5 rfl ev_move ?_
        refine az_ev 6 rfl ev_move ?_
        obtain ⟨x25, hx26, hM⟩ := bind_some hM
        refine az_ev 7 rfl (ev_idx (xs := x0) 1 (Kn.imm (α := List Int) (r := r_x0) (x := x0) (by repeat (first | exact Has.head | apply Has.tail))) (fun hg => let h := idx_some hx26; ⟨h.1, h.2.1⟩)) ?_
        refine az_ev 8 rfl (ev_ld (i := (t22_1 : Int)) (xs := x0) (y := x25) 0 (Kn.imm (α := List Int) (r := r_x0) (x := x0) (by repeat (first | exact Has.head | apply Has.tail))) (fun _ => hx26)) ?_
        obtain ⟨hI27, hM⟩ := chk_some hM
        refine az_ev 9 rfl (ev_add (hr := fun hg => i64b_I64 hI27)) ?_
        obtain ⟨x28, hx29, hM⟩ := bind_some hM
        refine az_ev 10 rfl (ev_idx (xs := (lleft_1.set x8.From.toNat (x16 - x18))) 1 (Kn.trow (e := 3) (r := r5) (by repeat (first | exact Has.head | apply Has.tail))) (fun hg => let h := idx_some hx29; ⟨h.1, h.2.1⟩)) ?_
        refine az_last rfl (st_set (r := r5) (i := x8.To) (xs := (lleft_1.set x8.From.toNat (x16 - x18))) (u := x28) (vs := [.int .i64 (x23 + x25)]) 0 (x23 + x25) hx29 rfl (fun _ _ h => h) (by repeat (first | exact Upd.head | apply Upd.tail)) ?_)
        refine az_done (hK10 _ _ ?_); clear hK10
        refine cw_region ?_
        refine ow_ev (ev_add (hr := fun _ => by unfold I64; omega)) ?_
        refine ow_ev ev_move ?_
        refine ow_nil (hL1 (nn1, (((lleft_1.set x8.From.toNat (x16 - x18)).set x8.To.toNat (x23 + x25)), t22_1 + 1), ()) _ _ (eqc hcont1 hM) (Nat.lt_succ_self _) ⟨rfl, (by simp only [List.length_set]; rfl), rfl, rfl, rfl, trivial⟩ (fun w hm => hm.reord))
    ·
      replace hM := (ite_f hc7).symm.trans hM
      refine cw_exit (hK6 _ _ ?_); clear hK6
      dsimp only [ref24_FeasibleFlow_k1] at hM
      refine cw_seq fun K16 hK16 => ?_
      refine cw_seq fun K17 hK17 => ?_
      refine cw_region ?_
      refine ow_ev ev_move ?_
      refine ow_have (fun w hm => Kn.len (Kn.trow (e := 3) (r := r5) (by repeat (first | exact Has.head | apply Has.tail))) hm) fun hl30 => ?_
      refine ow_ev ev_len ?_
      refine ow_ev ev_move ?_
      refine ow_nil (hK17 _ _ ?_); clear hK17
      refine cw_block ?_
      refine cw_loop (γ := Nat × Nat × Unit) (env := fun (_, t66_2, _) => [(64, .v (.slice r5.a lleft_1.length r5.cap)), (65, .v (.int .i64 (lleft_1.length : Int))), (66, .v (.int .i64 (t66_2 : Int)))]) (mem := fun (_, t66_2, _) => [trow 3 r5 lleft_1]) (R := fun g => iter (ref24_FeasibleFlow_b2 lleft_1) g.1 g.2.1 = some y) (μ := fun g => g.1) (FUEL, 0, ()) hM ⟨rfl, rfl, rfl, trivial⟩ (fun w hm => hm.reord) ?_
      clear hM
      intro g hM KL2 hL2
      obtain ⟨nn2, t66_2, ⟨⟩⟩ := g
      dsimp only at hM ⊢
      obtain ⟨nn2, cont2, rfl, hcont2, hM⟩ := iter_open' hM
      dsimp only [ref24_FeasibleFlow_b2] at hM
      refine cw_seq fun K18 hK18 => ?_
      refine cw_region ?_
      refine ow_ev ev_lss ?_
      refine ow_nil (hK18 _ _ ?_); clear hK18
      refine cw_seq fun K19 hK19 => ?_
      refine cw_cond rfl (fun hc31 => ?_) (fun hc31 => ?_)
      ·
        replace hM := (ite_t hc31).symm.trans hM
        have hc31d := of_decide_eq_true hc31
        refine cw_skip (hK19 _ _ ?_); clear hK19
        refine cw_seq fun K20 hK20 => ?_
        refine cw_block ?_
        refine cw_seq fun K21 hK21 => ?_
        refine cw_region ?_
        obtain ⟨x32, hx33, hM⟩ := bind_some hM
        refine ow_ev (ev_idx (xs := lleft_1) 1 (Kn.trow (e := 3) (r := r5) (by repeat (first | exact Has.head | apply Has.tail))) (fun hg => let h := idx_some hx33; ⟨h.1, h.2.1⟩)) ?_
        refine ow_ev (ev_ld (i := (t66_2 : Int)) (xs := lleft_1) (y := x32) 0 (Kn.trow (e := 3) (r := r5) (by repeat (first | exact Has.head | apply Has.tail))) (fun _ => hx33)) ?_
        refine ow_ev ev_assign ?_
        refine ow_nil (hK21 _ _ ?_); clear hK21
        refine cw_seq fun K22 hK22 => ?_
        refine cw_region ?_
        refine ow_ev ev_move ?_
        refine ow_ev ev_neq ?_
        refine ow_nil (hK22 _ _ ?_); clear hK22
        refine cw_cond rfl (fun hc34 => ?_) (fun hc34 => ?_)
        ·
          replace hM := (ite_t hc34).symm.trans hM
          refine cw_seq fun K23 hK23 => ?_
          refine cw_region ?_
          refine ow_ev ev_assign ?_
          refine ow_nil (hK23 _ _ ?_); clear hK23
          obtain rfl := some_inj hM
          refine cw_ret (kw_retc1 (fun w hm => ret_of hm rfl))
        ·
          replace hM := (ite_f hc34).symm.trans hM
          refine cw_skip (hK20 _ _ ?_); clear hK20
          refine cw_region ?_
          refine ow_ev (ev_add (hr := fun _ => by unfold I64; omega)) ?_
          refine ow_ev ev_move ?_
          refine ow_nil (hL2 (nn2, (t66_2 + 1), ()) _ _ (eqc hcont2 hM) (Nat.lt_succ_self _) ⟨rfl, rfl, rfl, trivial⟩ (fun w hm => hm.reord))
      ·
        replace hM := (ite_f hc31).symm.trans hM
        refine cw_exit (hK16 _ _ ?_); clear hK16
        dsimp only [ref24_FeasibleFlow_k2] at hM
        refine cw_seq fun K24 hK24 => ?_
        refine cw_region ?_
        refine ow_ev ev_assign ?_
        refine ow_nil (hK24 _ _ ?_); clear hK24
        obtain rfl := some_inj hM
        refine cw_ret (kw_retc1 (fun w hm => ret_of hm rfl))

def ref24_FlowCost_k1 (c_1 : Int) : Unit → Option Int := fun _ =>
  some c_1
def ref24_FlowCost_b1 (g0 : Graph) (x0 : List Int) (cont1 : (Int × Nat) → Option Int) : (Int × Nat) → Option Int := fun (c_1, t11_1) =>
  if decide ((t11_1 : Int) < (g0.Arcs.length : Int)) then
    ((idx g0.Arcs (t11_1 : Int)).bind fun x4 =>
    (idx x0 (t11_1 : Int)).bind fun x7 =>
    chk (i64b (x7 * x4.Cost)) <|
    chk (i64b (c_1 + (x7 * x4.Cost))) <|
    cont1 ((c_1 + (x7 * x4.Cost)), t11_1 + 1))
  else
    (ref24_FlowCost_k1 c_1 ())
def ref24_FlowCost_m (g0 : Graph) (x0 : List Int) : Option Int :=
  iter (ref24_FlowCost_b1 g0 x0) FUEL (0, 0)
theorem ref24_FlowCost_spec (S : Soup) (w : World) (g0 : Graph) (r_g0 : GoRep.R Graph) (x0 : List Int) (r_x0 : GoRep.R (List Int)) (y : Int) (hM : ref24_FlowCost_m g0 x0 = some y) (hS : ∀ k, S k → k < w.heap.size) (h_g0 : GoRep.ok S w r_g0 g0) (h_x0 : GoRep.ok S w r_x0 x0) :
    Calls Try.prog 59 #[.agg #[.slice r_g0.1.a g0.Supply.length r_g0.1.cap, .slice r_g0.2.a g0.Arcs.length r_g0.2.cap], .slice r_x0.a x0.length r_x0.cap] w (Ret w (.int .i64 y)) := by
  refine calls_cw (args := [_, _]) Try.func59 rfl ((pre_nil hS).start |>.immP (α := List Int) (r := r_g0.1) (x := g0.Supply) h_g0.1|>.immP (α := List Arc) (r := r_g0.2) (x := g0.Arcs) h_g0.2|>.immP (α := List Int) (r := r_x0) (x := x0) h_x0) rfl ?_
  unfold ref24_FlowCost_m at hM
  refine cw_seq fun K1 hK1 => ?_
  refine cw_region ?_
  refine ow_cons (st_box (l := [.slice r_g0.1.a g0.Supply.length r_g0.1.cap, .slice r_g0.2.a g0.Arcs.length r_g0.2.cap]) (k := fun b1 => ?_))
  refine ow_ev ev_assign ?_
  refine ow_nil (hK1 _ _ ?_); clear hK1
  refine cw_seq fun K2 hK2 => ?_
  refine cw_region ?_
  refine ow_ev ev_assign ?_
  refine ow_nil (hK2 _ _ ?_); clear hK2
  refine cw_seq fun K3 hK3 => ?_
  refine cw_seq fun K4 hK4 => ?_
  refine cw_region ?_
  refine ow_ev (ev_field_addr 1) ?_
  refine ow_ev (ev_load_own (b := b1)) ?_
  refine ow_have (fun w hm => Kn.len (Kn.imm (α := List Arc) (r := r_g0.2) (x := g0.Arcs) (by repeat (first | exact Has.head | apply Has.tail))) hm) fun hl2 => ?_
  refine ow_ev ev_len ?_
  refine ow_ev ev_move ?_
  refine ow_nil (hK4 _ _ ?_); clear hK4
  refine cw_block ?_
  refine cw_loop (γ := Nat × (Int × Nat) × Unit) (env := fun (_, (c_1, t11_1), _) => [(1, .v (.slice r_x0.a x0.length r_x0.cap)), (5, .v (.int .i64 c_1)), (9, .v (.slice r_g0.2.a g0.Arcs.length r_g0.2.cap)), (10, .v (.int .i64 (g0.Arcs.length : Int))), (11, .v (.int .i64 (t11_1 : Int)))]) (mem := fun (_, (c_1, t11_1), _) => [imm (α := (List Int)) r_x0 x0, imm (α := (List Arc)) r_g0.2 g0.Arcs]) (R := fun g => iter (ref24_FlowCost_b1 g0 x0) g.1 g.2.1 = some y) (μ := fun g => g.1) (FUEL, (0, 0), ()) hM ⟨rfl, rfl, rfl, rfl, rfl, trivial⟩ (fun w hm => hm.reord) ?_
  clear hM
  intro g hM KL1 hL1
  obtain ⟨nn1, ⟨c_1, t11_1⟩, ⟨⟩⟩ := g
  dsimp only at hM ⊢
  obtain ⟨nn1, cont1, rfl, hcont1, hM⟩ := iter_open' hM
  dsimp only [ref24_FlowCost_b1] at hM
  refine cw_seq fun K5 hK5 => ?_
  refine cw_region ?_
  refine ow_ev ev_lss ?_
  refine ow_nil (hK5 _ _ ?_); clear hK5
  refine cw_seq fun K6 hK6 => ?_
  refine cw_cond rfl (fun hc3 => ?_) (fun hc3 => ?_)
  ·
    replace hM := (ite_t hc3).symm.trans hM
    have hc3d := of_decide_eq_true hc3
    refine cw_skip (hK6 _ _ ?_); clear hK6
    refine cw_seq fun K7 hK7 => ?_
    refine cw_block ?_
    refine cw_seq fun K8 hK8 => ?_
    refine cw_region ?_
    refine ow_ev ev_move ?_
    obtain ⟨x4, hx5, hM⟩ := bind_some hM
    refine ow_ev (ev_idx (xs := g0.Arcs) 4 (Kn.imm (α := List Arc) (r := r_g0.2) (x := g0.Arcs) (by repeat (first | exact Has.head | apply Has.tail))) (fun hg => let h := idx_some hx5; ⟨h.1, h.2.1⟩)) ?_
    refine ow_ev (ev_lds (m := 4) (i := (t11_1 : Int)) (xs := g0.Arcs) (y := x4) (l := [.int .i64 x4.From, .int .i64 x4.To, .int .i64 x4.Cap, .int .i64 x4.Cost]) 0 (Kn.imm (α := List Arc) (r := r_g0.2) (x := g0.Arcs) (by repeat (first | exact Has.head | apply Has.tail))) (fun _ => hx5)) ?_
    refine ow_cons (st_alloc rfl (k := fun b6 => ?_))
    refine ow_ev ev_assign ?_
    refine ow_cons (st_store_all (b := b6) (vs := [.int .i64 x4.From, .int .i64 x4.To, .int .i64 x4.Cap, .int .i64 x4.Cost]) (k := ?_))
    refine ow_nil (hK8 _ _ ?_); clear hK8
    refine cw_region_any _ (List.Sublist.refl _) ?_
    refine aw_ev 0 rfl ev_move ?_
    refine aw_ev 1 rfl ev_move ?_
    refine aw_ev 2 rfl ev_move ?_
    obtain ⟨x7, hx8, hM⟩ := bind_some hM
    refine aw_ev 3 rfl (ev_idx (xs := x0) 1 (Kn.imm (α := List Int) (r := r_x0) (x := x0) (by repeat (first | exact Has.head | apply Has.tail))) (fun hg => let h := idx_some hx8; ⟨h.1, h.2.1⟩)) ?_
    refine aw_ev 4 rfl (ev_ld (i := (t11_1 : Int)) (xs := x0) (y := x7) 0 (Kn.imm (α := List Int) (r := r_x0) (x := x0) (by repeat (first | exact Has.head | apply Has.tail))) (fun _ => hx8)) ?_
    refine aw_ev 5 rfl (ev_field_addr 3) ?_
    refine aw_ev 6 rfl (ev_load_own (b := b6)) ?_
    obtain ⟨hI9, hM⟩ := chk_some hM
    refine aw_ev 7 rfl (ev_mul (hr := fun hg => i64b_I64 hI9)) ?_
    obtain ⟨hI10, hM⟩ := chk_some hM
    refine aw_ev 8 rfl (ev_add (hr := fun hg => i64b_I64 hI10)) ?_
    refine aw_ev 9 rfl ev_assign ?_
    refine aw_done (hK7 _ _ ?_); clear hK7
    refine cw_region ?_
    refine ow_ev (ev_add (hr := fun _ => by unfold I64; omega)) ?_
    refine ow_ev ev_move ?_
    refine ow_nil (hL1 (nn1, ((c_1 + (x7 * x4.Cost)), t11_1 + 1), ()) _ _ (eqc hcont1 hM) (Nat.lt_succ_self _) ⟨rfl, rfl, rfl, rfl, rfl, trivial⟩ (fun w hm => hm.reord))
  ·
    replace hM := (ite_f hc3).symm.trans hM
    refine cw_exit (hK3 _ _ ?_); clear hK3
    dsimp only [ref24_FlowCost_k1] at hM
    refine cw_seq fun K9 hK9 => ?_
    refine cw_region ?_
    refine ow_ev ev_move ?_
    refine ow_ev ev_assign ?_
    refine ow_nil (hK9 _ _ ?_); clear hK9
    obtain rfl := some_inj hM
    refine cw_ret (kw_retc1 (fun w hm => ret_of hm rfl))

def ref24_VerifyFlow_k2 : Unit → Option Bool := fun _ =>
  some true
def ref24_VerifyFlow_b2 (g0 : Graph) (f0 : Flow) (cont2 : Nat → Option Bool) : Nat → Option Bool := fun t52_2 =>
  if decide ((t52_2 : Int) < (g0.Arcs.length : Int)) then
    ((idx g0.Arcs (t52_2 : Int)).bind fun x19 =>
    (idx f0.Price x19.From).bind fun x22 =>
    chk (i64b (x19.Cost + x22)) <|
    (idx f0.Price x19.To).bind fun x25 =>
    chk (i64b ((x19.Cost + x22) - x25)) <|
    (idx f0.X (t52_2 : Int)).bind fun x28 =>
    (whn (!(decide (x28 < x19.Cap) && decide (((x19.Cost + x22) - x25) < 0))) default (idx f0.X (t52_2 : Int))).bind fun x30 =>
    if ((decide (x28 < x19.Cap) && decide (((x19.Cost + x22) - x25) < 0)) || (decide (0 < x30) && decide (0 < ((x19.Cost + x22) - x25)))) then
      (some false)
    else
      (cont2 (t52_2 + 1)))
  else
    (ref24_VerifyFlow_k2 ())
def ref24_VerifyFlow_k1 (g0 : Graph) (f0 : Flow) : Unit → Option Bool := fun _ =>
  iter (ref24_VerifyFlow_b2 g0 f0) FUEL 0
def ref24_VerifyFlow_b1 (f0 : Flow) (g0 : Graph) (cont1 : Nat → Option Bool) : Nat → Option Bool := fun t41_1 =>
  if decide ((t41_1 : Int) < (f0.Price.length : Int)) then
    ((idx f0.Price (t41_1 : Int)).bind fun x12 =>
    (ref24_moderate_m x12).bind fun y14 =>
    if (!y14) then
      (some false)
    else
      (cont1 (t41_1 + 1)))
  else
    (ref24_VerifyFlow_k1 g0 f0 ())
def ref24_VerifyFlow_m (g0 : Graph) (f0 : Flow) : Option Bool :=
  (ref24_CheckGraph_m g0).bind fun y3 =>
  (whn (!(!y3)) default (ref24_FeasibleFlow_m g0 f0.X)).bind fun y5 =>
  (whn (!((!y3) || (!y5))) default (ref24_FlowCost_m g0 f0.X)).bind fun y7 =>
  if ((((!y3) || (!y5)) || decide (f0.Cost ≠ y7)) || decide ((f0.Price.length : Int) ≠ (g0.Supply.length : Int))) then
    (some false)
  else
    (iter (ref24_VerifyFlow_b1 f0 g0) FUEL 0)
theorem ref24_VerifyFlow_spec (S : Soup) (w : World) (g0 : Graph) (r_g0 : GoRep.R Graph) (f0 : Flow) (r_f0 : GoRep.R Flow) (y : Bool) (hM : ref24_VerifyFlow_m g0 f0 = some y) (hS : ∀ k, S k → k < w.heap.size) (h_g0 : GoRep.ok S w r_g0 g0) (h_f0 : GoRep.ok S w r_f0 f0) :
    Calls Try.prog 24 #[.agg #[.slice r_g0.1.a g0.Supply.length r_g0.1.cap, .slice r_g0.2.a g0.Arcs.length r_g0.2.cap], .agg #[.slice r_f0.1.a f0.X.length r_f0.1.cap, .slice r_f0.2.a f0.Price.length r_f0.2.cap, .int .i64 f0.Cost]] w (Ret w (.bool y)) := by
  refine calls_cw (args := [_, _]) Try.func24 rfl ((pre_nil hS).start |>.immP (α := List Int) (r := r_g0.1) (x := g0.Supply) h_g0.1|>.immP (α := List Arc) (r := r_g0.2) (x := g0.Arcs) h_g0.2|>.immP (α := List Int) (r := r_f0.1) (x := f0.X) h_f0.1|>.immP (α := List Int) (r := r_f0.2) (x := f0.Price) h_f0.2) rfl ?_
  unfold ref24_VerifyFlow_m at hM
  refine cw_seq fun K1 hK1 => ?_
  refine cw_region ?_
  refine ow_cons (st_box (l := [.slice r_g0.1.a g0.Supply.length r_g0.1.cap, .slice r_g0.2.a g0.Arcs.length r_g0.2.cap]) (k := fun b1 => ?_))
  refine ow_cons (st_box (l := [.slice r_f0.1.a f0.X.length r_f0.1.cap, .slice r_f0.2.a f0.Price.length r_f0.2.cap, .int .i64 f0.Cost]) (k := fun b2 => ?_))
  refine ow_ev ev_assign ?_
  refine ow_nil (hK1 _ _ ?_); clear hK1
  refine cw_seq fun K2 hK2 => ?_
  refine cw_seq fun K3 hK3 => ?_
  refine cw_region_any _ (List.Sublist.refl _) ?_
  refine aw_ev 0 rfl (ev_load_all (b := b1)) ?_
  obtain ⟨y3, hy4, hM⟩ := bind_some hM
  refine aw_one 1 rfl (st_callv (fun w hm => let ⟨S, hs⟩ := hm; ref24_CheckGraph_spec _ w g0 r_g0 y3 hy4 (lend_lt hs) ⟨(Kn.lend (Kn.imm (α := List Int) (r := r_g0.1) (x := g0.Supply) (by repeat (first | exact Has.head | apply Has.tail))) hs), (Kn.lend (Kn.imm (α := List Arc) (r := r_g0.2) (x := g0.Arcs) (by repeat (first | exact Has.head | apply Has.tail))) hs)⟩) ⟨fun w hm => hm.sub (by repeat (first | exact List.Sublist.refl _ | apply List.Sublist.cons_cons | apply List.Sublist.cons)), ?_⟩)
  refine aw_ev 2 rfl ev_not ?_
  refine aw_ev 3 rfl ev_move ?_
  refine aw_evg 4 rfl rfl (ev_load_all (b := b1)) ?_
  refine aw_evg 5 rfl rfl (ev_field_addr 0) ?_
  refine aw_evg 6 rfl rfl (ev_load_own (b := b2)) ?_
  obtain ⟨y5, hy6, hM⟩ := bind_some hM
  refine aw_callg 7 rfl rfl (fun hg w hm => let ⟨S, hs⟩ := hm; ref24_FeasibleFlow_spec _ w g0 r_g0 f0.X r_f0.1 y5 (whn_some hy6 hg) (lend_lt hs) ⟨(Kn.lend (Kn.imm (α := List Int) (r := r_g0.1) (x := g0.Supply) (by repeat (first | exact Has.head | apply Has.tail))) hs), (Kn.lend (Kn.imm (α := List Arc) (r := r_g0.2) (x := g0.Arcs) (by repeat (first | exact Has.head | apply Has.tail))) hs)⟩ (Kn.lend (Kn.imm (α := List Int) (r := r_f0.1) (x := f0.X) (by repeat (first | exact Has.head | apply Has.tail))) hs)) ?_
  refine aw_evg 8 rfl rfl ev_not ?_
  refine aw_ev 9 rfl ev_or ?_
  refine aw_ev 10 rfl ev_move ?_
  refine aw_evg 11 rfl rfl (ev_field_addr 2) ?_
  refine aw_evg 12 rfl rfl (ev_load_own (b := b2)) ?_
  refine aw_evg 13 rfl rfl (ev_load_all (b := b1)) ?_
  refine aw_evg 14 rfl rfl (ev_field_addr 0) ?_
  refine aw_evg 15 rfl rfl (ev_load_own (b := b2)) ?_
  obtain ⟨y7, hy8, hM⟩ := bind_some hM
  refine aw_callg 16 rfl rfl (fun hg w hm => let ⟨S, hs⟩ := hm; ref24_FlowCost_spec _ w g0 r_g0 f0.X r_f0.1 y7 (whn_some hy8 hg) (lend_lt hs) ⟨(Kn.lend (Kn.imm (α := List Int) (r := r_g0.1) (x := g0.Supply) (by repeat (first | exact Has.head | apply Has.tail))) hs), (Kn.lend (Kn.imm (α := List Arc) (r := r_g0.2) (x := g0.Arcs) (by repeat (first | exact Has.head | apply Has.tail))) hs)⟩ (Kn.lend (Kn.imm (α := List Int) (r := r_f0.1) (x := f0.X) (by repeat (first | exact Has.head | apply Has.tail))) hs)) ?_
  refine aw_evg 17 rfl rfl ev_neq ?_
  refine aw_ev 18 rfl ev_or ?_
  refine aw_ev 19 rfl ev_move ?_
  refine aw_evg 20 rfl rfl (ev_field_addr 1) ?_
  refine aw_evg 21 rfl rfl (ev_load_own (b := b2)) ?_
  refine aw_evg 22 rfl rfl ev_len ?_
  refine aw_evg 23 rfl rfl (ev_field_addr 0) ?_
  refine aw_evg 24 rfl rfl (ev_load_own (b := b1)) ?_
  refine aw_evg 25 rfl rfl ev_len ?_
  refine aw_evg 26 rfl rfl ev_neq ?_
  refine aw_ev 27 rfl ev_or ?_
  refine aw_done (hK3 _ _ ?_); clear hK3
  refine cw_cond rfl (fun hc9 => ?_) (fun hc9 => ?_)
  ·
    replace hM := (ite_t hc9).symm.trans hM
    refine cw_seq fun K4 hK4 => ?_
    refine cw_region ?_
    refine ow_ev ev_assign ?_
    refine ow_nil (hK4 _ _ ?_); clear hK4
    obtain rfl := some_inj hM
    refine cw_ret (kw_retc1 (fun w hm => ret_of hm rfl))
  ·
    replace hM := (ite_f hc9).symm.trans hM
    refine cw_skip (hK2 _ _ ?_); clear hK2
    refine cw_seq fun K5 hK5 => ?_
    refine cw_seq fun K6 hK6 => ?_
    refine cw_region ?_
    refine ow_ev (ev_field_addr 1) ?_
    refine ow_ev (ev_load_own (b := b2)) ?_
    refine ow_have (fun w hm => Kn.len (Kn.imm (α := List Int) (r := r_f0.2) (x := f0.Price) (by repeat (first | exact Has.head | apply Has.tail))) hm) fun hl10 => ?_
    refine ow_ev ev_len ?_
    refine ow_ev ev_move ?_
    refine ow_nil (hK6 _ _ ?_); clear hK6
    refine cw_block ?_
    refine cw_loop (γ := Nat × Nat × Unit) (env := fun (_, t41_1, _) => [(2, .v (.pointer (some ⟨b1, 0, none⟩))), (3, .v (.pointer (some ⟨b2, 0, none⟩))), (39, .v (.slice r_f0.2.a f0.Price.length r_f0.2.cap)), (40, .v (.int .i64 (f0.Price.length : Int))), (41, .v (.int .i64 (t41_1 : Int)))]) (mem := fun (_, t41_1, _) => [imm (α := (List Int)) r_g0.1 g0.Supply, imm (α := (List Arc)) r_g0.2 g0.Arcs, own b1 25 [.slice r_g0.1.a g0.Supply.length r_g0.1.cap, .slice r_g0.2.a g0.Arcs.length r_g0.2.cap], imm (α := (List Int)) r_f0.1 f0.X, imm (α := (List Int)) r_f0.2 f0.Price, own b2 28 [.slice r_f0.1.a f0.X.length r_f0.1.cap, .slice r_f0.2.a f0.Price.length r_f0.2.cap, .int .i64 f0.Cost]]) (R := fun g => iter (ref24_VerifyFlow_b1 f0 g0) g.1 g.2.1 = some y) (μ := fun g => g.1) (FUEL, 0, ()) hM ⟨rfl, rfl, rfl, rfl, rfl, trivial⟩ (fun w hm => hm.reord) ?_
    clear hM
    intro g hM KL1 hL1
    obtain ⟨nn1, t41_1, ⟨⟩⟩ := g
    dsimp only at hM ⊢
    obtain ⟨nn1, cont1, rfl, hcont1, hM⟩ := iter_open' hM
    dsimp only [ref24_VerifyFlow_b1] at hM
    refine cw_seq fun K7 hK7 => ?_
    refine cw_region ?_
    refine ow_ev ev_lss ?_
    refine ow_nil (hK7 _ _ ?_); clear hK7
    refine cw_seq fun K8 hK8 => ?_
    refine cw_cond rfl (fun hc11 => ?_) (fun hc11 => ?_)
    ·
      replace hM := (ite_t hc11).symm.trans hM
      have hc11d := of_decide_eq_true hc11
      refine cw_skip (hK8 _ _ ?_); clear hK8
      refine cw_seq fun K9 hK9 => ?_
      refine cw_block ?_
      refine cw_seq fun K10 hK10 => ?_
      refine cw_region ?_
      obtain ⟨x12, hx13, hM⟩ := bind_some hM
      refine ow_ev (ev_idx (xs := f0.Price) 1 (Kn.imm (α := List Int) (r := r_f0.2) (x := f0.Price) (by repeat (first | exact Has.head | apply Has.tail))) (fun hg => let h := idx_some hx13; ⟨h.1, h.2.1⟩)) ?_
      refine ow_ev (ev_ld (i := (t41_1 : Int)) (xs := f0.Price) (y := x12) 0 (Kn.imm (α := List Int) (r := r_f0.2) (x := f0.Price) (by repeat (first | exact Has.head | apply Has.tail))) (fun _ => hx13)) ?_
      refine ow_ev ev_assign ?_
      refine ow_nil (hK10 _ _ ?_); clear hK10
      refine cw_seq fun K11 hK11 => ?_
      refine cw_region ?_
      refine ow_ev ev_move ?_
      obtain ⟨y14, hy15, hM⟩ := bind_some hM
      refine ow_cons (st_callv (fun w hm => let ⟨S, hs⟩ := hm; ref24_moderate_spec _ w x12 y14 hy15 (lend_lt hs) ) ?_)
      refine ow_ev ev_not ?_
      refine ow_nil (hK11 _ _ ?_); clear hK11
      refine cw_cond rfl (fun hc16 => ?_) (fun hc16 => ?_)
      ·
        replace hM := (ite_t hc16).symm.trans hM
        refine cw_seq fun K12 hK12 => ?_
        refine cw_region ?_
        refine ow_ev ev_assign ?_
        refine ow_nil (hK12 _ _ ?_); clear hK12
        obtain rfl := some_inj hM
        refine cw_ret (kw_retc1 (fun w hm => ret_of hm rfl))
      ·
        replace hM := (ite_f hc16).symm.trans hM
        refine cw_skip (hK9 _ _ ?_); clear hK9
        refine cw_region ?_
        refine ow_ev (ev_add (hr := fun _ => by unfold I64; omega)) ?_
        refine ow_ev ev_move ?_
        refine ow_nil (hL1 (nn1, (t41_1 + 1), ()) _ _ (eqc hcont1 hM) (Nat.lt_succ_self _) ⟨rfl, rfl, rfl, rfl, rfl, trivial⟩ (fun w hm => hm.reord))
    ·
      replace hM := (ite_f hc11).symm.trans hM
      refine cw_exit (hK5 _ _ ?_); clear hK5
      dsimp only [ref24_VerifyFlow_k1] at hM
      refine cw_seq fun K13 hK13 => ?_
      refine cw_seq fun K14 hK14 => ?_
      refine cw_region ?_
      refine ow_ev (ev_field_addr 1) ?_
      refine ow_ev (ev_load_own (b := b1)) ?_
      refine ow_have (fun w hm => Kn.len (Kn.imm (α := List Arc) (r := r_g0.2) (x := g0.Arcs) (by repeat (first | exact Has.head | apply Has.tail))) hm) fun hl17 => ?_
      refine ow_ev ev_len ?_
      refine ow_ev ev_move ?_
      refine ow_nil (hK14 _ _ ?_); clear hK14
      refine cw_block ?_
      refine cw_loop (γ := Nat × Nat × Unit) (env := fun (_, t52_2, _) => [(3, .v (.pointer (some ⟨b2, 0, none⟩))), (50, .v (.slice r_g0.2.a g0.Arcs.length r_g0.2.cap)), (51, .v (.int .i64 (g0.Arcs.length : Int))), (52, .v (.int .i64 (t52_2 : Int)))]) (mem := fun (_, t52_2, _) => [imm (α := (List Int)) r_f0.1 f0.X, imm (α := (List Int)) r_f0.2 f0.Price, own b2 28 [.slice r_f0.1.a f0.X.length r_f0.1.cap, .slice r_f0.2.a f0.Price.length r_f0.2.cap, .int .i64 f0.Cost], imm (α := (List Arc)) r_g0.2 g0.Arcs]) (R := fun g => iter (ref24_VerifyFlow_b2 g0 f0) g.1 g.2.1 = some y) (μ := fun g => g.1) (FUEL, 0, ()) hM ⟨rfl, rfl, rfl, rfl, trivial⟩ (fun w hm => hm.reord) ?_
      clear hM
      intro g hM KL2 hL2
      obtain ⟨nn2, t52_2, ⟨⟩⟩ := g
      dsimp only at hM ⊢
      obtain ⟨nn2, cont2, rfl, hcont2, hM⟩ := iter_open' hM
      dsimp only [ref24_VerifyFlow_b2] at hM
      refine cw_seq fun K15 hK15 => ?_
      refine cw_region ?_
      refine ow_ev ev_lss ?_
      refine ow_nil (hK15 _ _ ?_); clear hK15
      refine cw_seq fun K16 hK16 => ?_
      refine cw_cond rfl (fun hc18 => ?_) (fun hc18 => ?_)
      ·
        replace hM := (ite_t hc18).symm.trans hM
        have hc18d := of_decide_eq_true hc18
        refine cw_skip (hK16 _ _ ?_); clear hK16
        refine cw_seq fun K17 hK17 => ?_
        refine cw_block ?_
        refine cw_seq fun K18 hK18 => ?_
        refine cw_region ?_
        refine ow_ev ev_move ?_
        obtain ⟨x19, hx20, hM⟩ := bind_some hM
        refine ow_ev (ev_idx (xs := g0.Arcs) 4 (Kn.imm (α := List Arc) (r := r_g0.2) (x := g0.Arcs) (by repeat (first | exact Has.head | apply Has.tail))) (fun hg => let h := idx_some hx20; ⟨h.1, h.2.1⟩)) ?_
        refine ow_ev (ev_lds (m := 4) (i := (t52_2 : Int)) (xs := g0.Arcs) (y := x19) (l := [.int .i64 x19.From, .int .i64 x19.To, .int .i64 x19.Cap, .int .i64 x19.Cost]) 0 (Kn.imm (α := List Arc) (r := r_g0.2) (x := g0.Arcs) (by repeat (first | exact Has.head | apply Has.tail))) (fun _ => hx20)) ?_
        refine ow_cons (st_alloc rfl (k := fun b21 => ?_))
        refine ow_ev ev_assign ?_
        refine ow_cons (st_store_all (b := b21) (vs := [.int .i64 x19.From, .int .i64 x19.To, .int .i64 x19.Cap, .int .i64 x19.Cost]) (k := ?_))
        refine ow_nil (hK18 _ _ ?_); clear hK18
        refine cw_seq fun K19 hK19 => ?_
        refine cw_region_any _ (List.Sublist.refl _) ?_
        refine aw_ev 0 rfl (ev_field_addr 3) ?_
        refine aw_ev 1 rfl (ev_load_own (b := b21)) ?_
        refine aw_ev 2 rfl (ev_field_addr 1) ?_
        refine aw_ev 3 rfl (ev_load_own (b := b2)) ?_
        refine aw_ev 4 rfl (ev_field_addr 0) ?_
        refine aw_ev 5 rfl (ev_load_own (b := b21)) ?_
        obtain ⟨x22, hx23, hM⟩ := bind_some hM
        refine aw_ev 6 rfl (ev_idx (xs := f0.Price) 1 (Kn.imm (α := List Int) (r := r_f0.2) (x := f0.Price) (by repeat (first | exact Has.head | apply Has.tail))) (fun hg => let h := idx_some hx23; ⟨h.1, h.2.1⟩)) ?_
        refine aw_ev 7 rfl (ev_ld (i := x19.From) (xs := f0.Price) (y := x22) 0 (Kn.imm (α := List Int) (r := r_f0.2) (x := f0.Price) (by repeat (first | exact Has.head | apply Has.tail))) (fun _ => hx23)) ?_
        obtain ⟨hI24, hM⟩ := chk_some hM
        refine aw_ev 8 rfl (ev_add (hr := fun hg => i64b_I64 hI24)) ?_
        refine aw_ev 9 rfl (ev_field_addr 1) ?_
        refine aw_ev 10 rfl (ev_load_own (b := b2)) ?_
        refine aw_ev 11 rfl (ev_field_addr 1) ?_
        refine aw_ev 12 rfl (ev_load_own (b := b21)) ?_
        obtain ⟨x25, hx26, hM⟩ := bind_some hM
        refine aw_ev 13 rfl (ev_idx (xs := f0.Price) 1 (Kn.imm (α := List Int) (r := r_f0.2) (x := f0.Price) (by repeat (first | exact Has.head | apply Has.tail))) (fun hg => let h := idx_some hx26; ⟨h.1, h.2.1⟩)) ?_
        refine aw_ev 14 rfl (ev_ld (i := x19.To) (xs := f0.Price) (y := x25) 0 (Kn.imm (α := List Int) (r := r_f0.2) (x := f0.Price) (by repeat (first | exact Has.head | apply Has.tail))) (fun _ => hx26)) ?_
        obtain ⟨hI27, hM⟩ := chk_some hM
        refine aw_ev 15 rfl (ev_sub (hr := fun hg => i64b_I64 hI27)) ?_
        refine aw_ev 16 rfl ev_assign ?_
        refine aw_done (hK19 _ _ ?_); clear hK19
        refine cw_seq fun K20 hK20 => ?_
        refine cw_region_any _ (List.Sublist.refl _) ?_
        refine aw_ev 0 rfl (ev_field_addr 0) ?_
        refine aw_ev 1 rfl (ev_load_own (b := b2)) ?_
        refine aw_ev 2 rfl ev_move ?_
        obtain ⟨x28, hx29, hM⟩ := bind_some hM
        refine aw_ev 3 rfl (ev_idx (xs := f0.X) 1 (Kn.imm (α := List Int) (r := r_f0.1) (x := f0.X) (by repeat (first | exact Has.head | apply Has.tail))) (fun hg => let h := idx_some hx29; ⟨h.1, h.2.1⟩)) ?_
        refine aw_ev 4 rfl (ev_ld (i := (t52_2 : Int)) (xs := f0.X) (y := x28) 0 (Kn.imm (α := List Int) (r := r_f0.1) (x := f0.X) (by repeat (first | exact Has.head | apply Has.tail))) (fun _ => hx29)) ?_
        refine aw_ev 5 rfl (ev_field_addr 2) ?_
        refine aw_ev 6 rfl (ev_load_own (b := b21)) ?_
        refine aw_ev 7 rfl ev_lss ?_
        refine aw_ev 8 rfl ev_move ?_
        refine aw_evg 9 rfl rfl ev_move ?_
        refine aw_evg 10 rfl rfl ev_lss ?_
        refine aw_ev 11 rfl ev_and ?_
        refine aw_ev 12 rfl ev_move ?_
        refine aw_evg 13 rfl rfl (ev_field_addr 0) ?_
        refine aw_evg 14 rfl rfl (ev_load_own (b := b2)) ?_
        refine aw_evg 15 rfl rfl ev_move ?_
        obtain ⟨x30, hx31, hM⟩ := bind_some hM
        refine aw_evg 16 rfl rfl (ev_idx (xs := f0.X) 1 (Kn.imm (α := List Int) (r := r_f0.1) (x := f0.X) (by repeat (first | exact Has.head | apply Has.tail))) (fun hg => let h := idx_some (whn_some hx31 hg); ⟨h.1, h.2.1⟩)) ?_
        refine aw_evg 17 rfl rfl (ev_ld (i := (t52_2 : Int)) (xs := f0.X) (y := x30) 0 (Kn.imm (α := List Int) (r := r_f0.1) (x := f0.X) (by repeat (first | exact Has.head | apply Has.tail))) (fun hg => whn_some hx31 hg)) ?_
        refine aw_evg 18 rfl rfl ev_gtr ?_
        refine aw_evg 19 rfl rfl ev_move ?_
        refine aw_evg 20 rfl rfl ev_move ?_
        refine aw_evg 21 rfl rfl ev_gtr ?_
        refine aw_evg 22 rfl rfl ev_and ?_
        refine aw_ev 23 rfl ev_or ?_
        refine aw_done (hK20 _ _ ?_); clear hK20
        refine cw_cond rfl (fun hc32 => ?_) (fun hc32 => ?_)
        ·
          replace hM := (ite_t hc32).symm.trans hM
          refine cw_seq fun K21 hK21 => ?_
          refine cw_region ?_
          refine ow_ev ev_assign ?_
          refine ow_nil (hK21 _ _ ?_); clear hK21
          obtain rfl := some_inj hM
          refine cw_ret (kw_retc1 (fun w hm => ret_of hm rfl))
        ·
          replace hM := (ite_f hc32).symm.trans hM
          refine cw_skip (hK17 _ _ ?_); clear hK17
          refine cw_region ?_
          refine ow_ev (ev_add (hr := fun _ => by unfold I64; omega)) ?_
          refine ow_ev ev_move ?_
          refine ow_nil (hL2 (nn2, (t52_2 + 1), ()) _ _ (eqc hcont2 hM) (Nat.lt_succ_self _) ⟨rfl, rfl, rfl, rfl, trivial⟩ (fun w hm => hm.reord))
      ·
        replace hM := (ite_f hc18).symm.trans hM
        refine cw_exit (hK13 _ _ ?_); clear hK13
        dsimp only [ref24_VerifyFlow_k2] at hM
        refine cw_seq fun K22 hK22 => ?_
        refine cw_region ?_
        refine ow_ev ev_assign ?_
        refine ow_nil (hK22 _ _ ?_); clear hK22
        obtain rfl := some_inj hM
        refine cw_ret (kw_retc1 (fun w hm => ret_of hm rfl))

def flow_Excess_k3 (cont2 : (Int × Nat) → Option Int) (t49_2 : Nat) : Int → Option Int := fun sum_j3 =>
  cont2 (sum_j3, t49_2 + 1)
def flow_Excess_k2 (sum_2 : Int) : Unit → Option Int := fun _ =>
  some sum_2
def flow_Excess_b2 (g0 : Graph) (lin_1 : List Bool) (cont2 : (Int × Nat) → Option Int) : (Int × Nat) → Option Int := fun (sum_2, t49_2) =>
  if decide ((t49_2 : Int) < (g0.Arcs.length : Int)) then
    ((idx g0.Arcs (t49_2 : Int)).bind fun x20 =>
    (idx lin_1 x20.From).bind fun x23 =>
    (whn x23 default (idx lin_1 x20.To)).bind fun x25 =>
    if (x23 && (!x25)) then
      (chk (i64b (sum_2 - x20.Cap)) <|
      flow_Excess_k3 cont2 t49_2 (sum_2 - x20.Cap))
    else
      (flow_Excess_k3 cont2 t49_2 sum_2))
  else
    (flow_Excess_k2 sum_2 ())
def flow_Excess_k1 (g0 : Graph) (lin_1 : List Bool) (sum_1 : Int) : Unit → Option Int := fun _ =>
  iter (flow_Excess_b2 g0 lin_1) FUEL (sum_1, 0)
def flow_Excess_b1 (set0 : List Int) (g0 : Graph) (cont1 : ((List Bool) × Int × Int × Nat) → Option Int) : ((List Bool) × Int × Int × Nat) → Option Int := fun (lin_1, last_1, sum_1, t21_1) =>
  if decide ((t21_1 : Int) < (set0.length : Int)) then
    ((idx set0 (t21_1 : Int)).bind fun x10 =>
    if (decide (x10 ≤ last_1) || decide ((lin_1.length : Int) ≤ x10)) then
      (some 0)
    else
      ((idx lin_1 x10).bind fun x13 =>
      (idx g0.Supply x10).bind fun x15 =>
      chk (i64b (sum_1 + x15)) <|
      cont1 ((lin_1.set x10.toNat true), x10, (sum_1 + x15), t21_1 + 1)))
  else
    (flow_Excess_k1 g0 lin_1 sum_1 ())
def flow_Excess_m (g0 : Graph) (set0 : List Int) : Option Int :=
  (flow_Check_m g0).bind fun y2 =>
  if (!y2) then
    (some 0)
  else
    ((mk (α := Bool) false (g0.Supply.length : Int)).bind fun m5 =>
    iter (flow_Excess_b1 set0 g0) FUEL (m5, (-1), 0, 0))
theorem flow_Excess_spec (S : Soup) (w : World) (g0 : Graph) (r_g0 : GoRep.R Graph) (set0 : List Int) (r_set0 : GoRep.R (List Int)) (y : Int) (hM : flow_Excess_m g0 set0 = some y) (hS : ∀ k, S k → k < w.heap.size) (h_g0 : GoRep.ok S w r_g0 g0) (h_set0 : GoRep.ok S w r_set0 set0) :
    Calls Try.prog 29 #[.agg #[.slice r_g0.1.a g0.Supply.length r_g0.1.cap, .slice r_g0.2.a g0.Arcs.length r_g0.2.cap], .slice r_set0.a set0.length r_set0.cap] w (Ret w (.int .i64 y)) := by
  refine calls_cw (args := [_, _]) Try.func29 rfl ((pre_nil hS).start |>.immP (α := List Int) (r := r_g0.1) (x := g0.Supply) h_g0.1|>.immP (α := List Arc) (r := r_g0.2) (x := g0.Arcs) h_g0.2|>.immP (α := List Int) (r := r_set0) (x := set0) h_set0) rfl ?_
  unfold flow_Excess_m at hM
  refine cw_seq fun K1 hK1 => ?_
  refine cw_region ?_
  refine ow_cons (st_box (l := [.slice r_g0.1.a g0.Supply.length r_g0.1.cap, .slice r_g0.2.a g0.Arcs.length r_g0.2.cap]) (k := fun b1 => ?_))
  refine ow_ev ev_assign ?_
  refine ow_nil (hK1 _ _ ?_); clear hK1
  refine cw_seq fun K2 hK2 => ?_
  refine cw_seq fun K3 hK3 => ?_
  refine cw_region ?_
  refine ow_ev (ev_load_all (b := b1)) ?_
  obtain ⟨y2, hy3, hM⟩ := bind_some hM
  refine ow_cons (st_callv (fun w hm => let ⟨S, hs⟩ := hm; flow_Check_spec _ w g0 r_g0 y2 hy3 (lend_lt hs) ⟨(Kn.lend (Kn.imm (α := List Int) (r := r_g0.1) (x := g0.Supply) (by repeat (first | exact Has.head | apply Has.tail))) hs), (Kn.lend (Kn.imm (α := List Arc) (r := r_g0.2) (x := g0.Arcs) (by repeat (first | exact Has.head | apply Has.tail))) hs)⟩) ?_)
  refine ow_ev ev_not ?_
  refine ow_nil (hK3 _ _ ?_); clear hK3
  refine cw_cond rfl (fun hc4 => ?_) (fun hc4 => ?_)
  ·
    replace hM := (ite_t hc4).symm.trans hM
    refine cw_seq fun K4 hK4 => ?_
    refine cw_region ?_
    refine ow_ev ev_assign ?_
    refine ow_nil (hK4 _ _ ?_); clear hK4
    obtain rfl := some_inj hM
    refine cw_ret (kw_retc1 (fun w hm => ret_of hm rfl))
  ·
    replace hM := (ite_f hc4).symm.trans hM
    refine cw_skip (hK2 _ _ ?_); clear hK2
    refine cw_seq fun K5 hK5 => ?_
    refine cw_region ?_
    refine ow_ev (ev_field_addr 0) ?_
    refine ow_ev (ev_load_own (b := b1)) ?_
    refine ow_ev ev_len ?_
    obtain ⟨m5, hm6, hM⟩ := bind_some hM
    refine ow_cons (st_make (α := Bool) (e := 4) false () hm6 (fun _ _ => trivial) (fun r7 hr7 => ?_))
    refine ow_ev ev_assign ?_
    refine ow_nil (hK5 _ _ ?_); clear hK5
    refine cw_seq fun K6 hK6 => ?_
    refine cw_region ?_
    refine ow_ev ev_assign ?_
    refine ow_ev ev_assign ?_
    refine ow_nil (hK6 _ _ ?_); clear hK6
    refine cw_seq fun K7 hK7 => ?_
    refine cw_seq fun K8 hK8 => ?_
    refine cw_region ?_
    refine ow_ev ev_move ?_
    refine ow_have (fun w hm => Kn.len (Kn.imm (α := List Int) (r := r_set0) (x := set0) (by repeat (first | exact Has.head | apply Has.tail))) hm) fun hl8 => ?_
    refine ow_ev ev_len ?_
    refine ow_ev ev_move ?_
    refine ow_nil (hK8 _ _ ?_); clear hK8
    refine cw_block ?_
    refine cw_loop (γ := Nat × ((List Bool) × Int × Int × Nat) × Unit) (env := fun (_, (lin_1, last_1, sum_1, t21_1), _) => [(2, .v (.pointer (some ⟨b1, 0, none⟩))), (5, .v (.slice r7.a lin_1.length r7.cap)), (6, .v (.int .i64 last_1)), (7, .v (.int .i64 sum_1)), (19, .v (.slice r_set0.a set0.length r_set0.cap)), (20, .v (.int .i64 (set0.length : Int))), (21, .v (.int .i64 (t21_1 : Int)))]) (mem := fun (_, (lin_1, last_1, sum_1, t21_1), _) => [imm (α := (List Int)) r_g0.1 g0.Supply, imm (α := (List Arc)) r_g0.2 g0.Arcs, own b1 25 [.slice r_g0.1.a g0.Supply.length r_g0.1.cap, .slice r_g0.2.a g0.Arcs.length r_g0.2.cap], trow 4 r7 lin_1, imm (α := (List Int)) r_set0 set0]) (R := fun g => iter (flow_Excess_b1 set0 g0) g.1 g.2.1 = some y) (μ := fun g => g.1) (FUEL, (m5, (-1), 0, 0), ()) hM ⟨rfl, rfl, rfl, rfl, rfl, rfl, rfl, trivial⟩ (fun w hm => hm.reord) ?_
    clear hM
    intro g hM KL1 hL1
    obtain ⟨nn1, ⟨lin_1, last_1, sum_1, t21_1⟩, ⟨⟩⟩ := g
    dsimp only at hM ⊢
    obtain ⟨nn1, cont1, rfl, hcont1, hM⟩ := iter_open' hM
    dsimp only [flow_Excess_b1] at hM
    refine cw_seq fun K9 hK9 => ?_
    refine cw_region ?_
    refine ow_ev ev_lss ?_
    refine ow_nil (hK9 _ _ ?_); clear hK9
    refine cw_seq fun K10 hK10 => ?_
    refine cw_cond rfl (fun hc9 => ?_) (fun hc9 => ?_)
    ·
      replace hM := (ite_t hc9).symm.trans hM
      have hc9d := of_decide_eq_true hc9
      refine cw_skip (hK10 _ _ ?_); clear hK10
      refine cw_seq fun K11 hK11 => ?_
      refine cw_block ?_
      refine cw_seq fun K12 hK12 => ?_
      refine cw_region ?_
      obtain ⟨x10, hx11, hM⟩ := bind_some hM
      refine ow_ev (ev_idx (xs := set0) 1 (Kn.imm (α := List Int) (r := r_set0) (x := set0) (by repeat (first | exact Has.head | apply Has.tail))) (fun hg => let h := idx_some hx11; ⟨h.1, h.2.1⟩)) ?_
      refine ow_ev (ev_ld (i := (t21_1 : Int)) (xs := set0) (y := x10) 0 (Kn.imm (α := List Int) (r := r_set0) (x := set0) (by repeat (first | exact Has.head | apply Has.tail))) (fun _ => hx11)) ?_
      refine ow_ev ev_assign ?_
      refine ow_nil (hK12 _ _ ?_); clear hK12
      refine cw_seq fun K13 hK13 => ?_
      refine cw_seq fun K14 hK14 => ?_
      refine cw_region ?_
      refine ow_ev ev_move ?_
      refine ow_ev ev_move ?_
      refine ow_ev ev_leq ?_
      refine ow_ev ev_move ?_
      refine ow_evg rfl ev_move ?_
      refine ow_evg rfl ev_move ?_
      refine ow_evg rfl ev_len ?_
      refine ow_evg rfl ev_geq ?_
      refine ow_ev ev_or ?_
      refine ow_nil (hK14 _ _ ?_); clear hK14
      refine cw_cond rfl (fun hc12 => ?_) (fun hc12 => ?_)
      ·
        replace hM := (ite_t hc12).symm.trans hM
        refine cw_seq fun K15 hK15 => ?_
        refine cw_region ?_
        refine ow_ev ev_assign ?_
        refine ow_nil (hK15 _ _ ?_); clear hK15
        obtain rfl := some_inj hM
        refine cw_ret (kw_retc1 (fun w hm => ret_of hm rfl))
      ·
        replace hM := (ite_f hc12).symm.trans hM
        refine cw_skip (hK13 _ _ ?_); clear hK13
        refine cw_seq fun K16 hK16 => ?_
        refine cw_region ?_
        refine ow_ev ev_move ?_
        refine ow_ev ev_assign ?_
        refine ow_nil (hK16 _ _ ?_); clear hK16
        refine cw_seq fun K17 hK17 => ?_
        refine cw_region ?_
        refine ow_ev ev_move ?_
        refine ow_ev ev_move ?_
        obtain ⟨x13, hx14, hM⟩ := bind_some hM
        refine ow_ev (ev_idx (xs := lin_1) 1 (Kn.trow (e := 4) (r := r7) (by repeat (first | exact Has.head | apply Has.tail))) (fun hg => let h := idx_some hx14; ⟨h.1, h.2.1⟩)) ?_
        refine ow_cons (st_set (r := r7) (i := x10) (xs := lin_1) (u := x13) (vs := [.bool true]) 0 true hx14 rfl (fun _ _ h => h) (by repeat (first | exact Upd.head | apply Upd.tail)) ?_)
        refine ow_nil (hK17 _ _ ?_); clear hK17
        refine cw_region ?_
        refine ow_ev ev_move ?_
        refine ow_ev (ev_field_addr 0) ?_
        refine ow_ev (ev_load_own (b := b1)) ?_
        refine ow_ev ev_move ?_
        obtain ⟨x15, hx16, hM⟩ := bind_some hM
        refine ow_ev (ev_idx (xs := g0.Supply) 1 (Kn.imm (α := List Int) (r := r_g0.1) (x := g0.Supply) (by repeat (first | exact Has.head | apply Has.tail))) (fun hg => let h := idx_some hx16; ⟨h.1, h.2.1⟩)) ?_
        refine ow_ev (ev_ld (i := x10) (xs := g0.Supply) (y := x15) 0 (Kn.imm (α := List Int) (r := r_g0.1) (x := g0.Supply) (by repeat (first | exact Has.head | apply Has.tail))) (fun _ => hx16)) ?_
        obtain ⟨hI17, hM⟩ := chk_some hM
        refine ow_ev (ev_add (hr := fun hg => i64b_I64 hI17)) ?_
        refine ow_ev ev_assign ?_
        refine ow_nil (hK11 _ _ ?_); clear hK11
        refine cw_region ?_
        refine ow_ev (ev_add (hr := fun _ => by unfold I64; omega)) ?_
        refine ow_ev ev_move ?_
        refine ow_nil (hL1 (nn1, ((lin_1.set x10.toNat true), x10, (sum_1 + x15), t21_1 + 1), ()) _ _ (eqc hcont1 hM) (Nat.lt_succ_self _) ⟨rfl, (by simp only [List.length_set]; rfl), rfl, rfl, rfl, rfl, rfl, trivial⟩ (fun w hm => hm.reord))
    ·
      replace hM := (ite_f hc9).symm.trans hM
      refine cw_exit (hK7 _ _ ?_); clear hK7
      dsimp only [flow_Excess_k1] at hM
      refine cw_seq fun K18 hK18 => ?_
      refine cw_seq fun K19 hK19 => ?_
      refine cw_region ?_
      refine ow_ev (ev_field_addr 1) ?_
      refine ow_ev (ev_load_own (b := b1)) ?_
      refine ow_have (fun w hm => Kn.len (Kn.imm (α := List Arc) (r := r_g0.2) (x := g0.Arcs) (by repeat (first | exact Has.head | apply Has.tail))) hm) fun hl18 => ?_
      refine ow_ev ev_len ?_
      refine ow_ev ev_move ?_
      refine ow_nil (hK19 _ _ ?_); clear hK19
      refine cw_block ?_
      refine cw_loop (γ := Nat × (Int × Nat) × Unit) (env := fun (_, (sum_2, t49_2), _) => [(5, .v (.slice r7.a lin_1.length r7.cap)), (7, .v (.int .i64 sum_2)), (47, .v (.slice r_g0.2.a g0.Arcs.length r_g0.2.cap)), (48, .v (.int .i64 (g0.Arcs.length : Int))), (49, .v (.int .i64 (t49_2 : Int)))]) (mem := fun (_, (sum_2, t49_2), _) => [trow 4 r7 lin_1, imm (α := (List Arc)) r_g0.2 g0.Arcs]) (R := fun g => iter (flow_Excess_b2 g0 lin_1) g.1 g.2.1 = some y) (μ := fun g => g.1) (FUEL, (sum_1, 0), ()) hM ⟨rfl, rfl, rfl, rfl, rfl, trivial⟩ (fun w hm => hm.reord) ?_
      clear hM
      intro g hM KL2 hL2
      obtain ⟨nn2, ⟨sum_2, t49_2⟩, ⟨⟩⟩ := g
      dsimp only at hM ⊢
      obtain ⟨nn2, cont2, rfl, hcont2, hM⟩ := iter_open' hM
      dsimp only [flow_Excess_b2] at hM
      refine cw_seq fun K20 hK20 => ?_
      refine cw_region ?_
      refine ow_ev ev_lss ?_
      refine ow_nil (hK20 _ _ ?_); clear hK20
      refine cw_seq fun K21 hK21 => ?_
      refine cw_cond rfl (fun hc19 => ?_) (fun hc19 => ?_)
      ·
        replace hM := (ite_t hc19).symm.trans hM
        have hc19d := of_decide_eq_true hc19
        refine cw_skip (hK21 _ _ ?_); clear hK21
        refine cw_cut (γ := Int × Unit) (env := fun (sum_j3, _) => [(5, .v (.slice r7.a lin_1.length r7.cap)), (7, .v (.int .i64 sum_j3)), (47, .v (.slice r_g0.2.a g0.Arcs.length r_g0.2.cap)), (48, .v (.int .i64 (g0.Arcs.length : Int))), (49, .v (.int .i64 (t49_2 : Int)))]) (mem := fun (sum_j3, _) => [trow 4 r7 lin_1, imm (α := (List Arc)) r_g0.2 g0.Arcs]) (R := fun g => flow_Excess_k3 cont2 t49_2 g.1 = some y) ?_ ?_
        · intro KJ3 hJ3
          refine cw_block ?_
          refine cw_seq fun K22 hK22 => ?_
          refine cw_region ?_
          obtain ⟨x20, hx21, hM⟩ := bind_some hM
          refine ow_ev (ev_idx (xs := g0.Arcs) 4 (Kn.imm (α := List Arc) (r := r_g0.2) (x := g0.Arcs) (by repeat (first | exact Has.head | apply Has.tail))) (fun hg => let h := idx_some hx21; ⟨h.1, h.2.1⟩)) ?_
          refine ow_ev (ev_lds (m := 4) (i := (t49_2 : Int)) (xs := g0.Arcs) (y := x20) (l := [.int .i64 x20.From, .int .i64 x20.To, .int .i64 x20.Cap, .int .i64 x20.Cost]) 0 (Kn.imm (α := List Arc) (r := r_g0.2) (x := g0.Arcs) (by repeat (first | exact Has.head | apply Has.tail))) (fun _ => hx21)) ?_
          refine ow_cons (st_alloc rfl (k := fun b22 => ?_))
          refine ow_cons (st_store_all (b := b22) (vs := [.int .i64 x20.From, .int .i64 x20.To, .int .i64 x20.Cap, .int .i64 x20.Cost]) (k := ?_))
          refine ow_nil (hK22 _ _ ?_); clear hK22
          refine cw_seq fun K23 hK23 => ?_
          refine cw_region ?_
          refine ow_ev ev_move ?_
          refine ow_ev (ev_field_addr 0) ?_
          refine ow_ev (ev_load_own (b := b22)) ?_
          obtain ⟨x23, hx24, hM⟩ := bind_some hM
          refine ow_ev (ev_idx (xs := lin_1) 1 (Kn.trow (e := 4) (r := r7) (by repeat (first | exact Has.head | apply Has.tail))) (fun hg => let h := idx_some hx24; ⟨h.1, h.2.1⟩)) ?_
          refine ow_ev (ev_ld (i := x20.From) (xs := lin_1) (y := x23) 0 (Kn.trow (e := 4) (r := r7) (by repeat (first | exact Has.head | apply Has.tail))) (fun _ => hx24)) ?_
          refine ow_ev ev_move ?_
          refine ow_evg rfl ev_move ?_
          refine ow_evg rfl (ev_field_addr 1) ?_
          refine ow_evg rfl (ev_load_own (b := b22)) ?_
          obtain ⟨x25, hx26, hM⟩ := bind_some hM
          refine ow_evg rfl (ev_idx (xs := lin_1) 1 (Kn.trow (e := 4) (r := r7) (by repeat (first | exact Has.head | apply Has.tail))) (fun hg => let h := idx_some (whn_some hx26 hg); ⟨h.1, h.2.1⟩)) ?_
          refine ow_evg rfl (ev_ld (i := x20.To) (xs := lin_1) (y := x25) 0 (Kn.trow (e := 4) (r := r7) (by repeat (first | exact Has.head | apply Has.tail))) (fun hg => whn_some hx26 hg)) ?_
          refine ow_evg rfl ev_not ?_
          refine ow_ev ev_and ?_
          refine ow_nil (hK23 _ _ ?_); clear hK23
          refine cw_cond rfl (fun hc27 => ?_) (fun hc27 => ?_)
          ·
            replace hM := (ite_t hc27).symm.trans hM
            refine cw_region ?_
            refine ow_ev ev_move ?_
            refine ow_ev (ev_field_addr 2) ?_
            refine ow_ev (ev_load_own (b := b22)) ?_
            obtain ⟨hI28, hM⟩ := chk_some hM
            refine ow_ev (ev_sub (hr := fun hg => i64b_I64 hI28)) ?_
            refine ow_ev ev_assign ?_
            refine ow_nil (hJ3 ((sum_2 - x20.Cap), ()) _ _ hM ⟨rfl, rfl, rfl, rfl, rfl, trivial⟩ (fun w hm => hm.reord))
          ·
            replace hM := (ite_f hc27).symm.trans hM
            refine cw_skip (hJ3 (sum_2, ()) _ _ hM ⟨rfl, rfl, rfl, rfl, rfl, trivial⟩ (fun w hm => hm.reord))
        ·
          clear hM
          intro g hM
          obtain ⟨sum_j3, ⟨⟩⟩ := g
          dsimp only at hM ⊢
          dsimp only [flow_Excess_k3] at hM
          refine cw_region ?_
          refine ow_ev (ev_add (hr := fun _ => by unfold I64; omega)) ?_
          refine ow_ev ev_move ?_
          refine ow_nil (hL2 (nn2, (sum_j3, t49_2 + 1), ()) _ _ (eqc hcont2 hM) (Nat.lt_succ_self _) ⟨rfl, rfl, rfl, rfl, rfl, trivial⟩ (fun w hm => hm.reord))
      ·
        replace hM := (ite_f hc19).symm.trans hM
        refine cw_exit (hK18 _ _ ?_); clear hK18
        dsimp only [flow_Excess_k2] at hM
        refine cw_seq fun K24 hK24 => ?_
        refine cw_region ?_
        refine ow_ev ev_move ?_
        refine ow_ev ev_assign ?_
        refine ow_nil (hK24 _ _ ?_); clear hK24
        obtain rfl := some_inj hM
        refine cw_ret (kw_retc1 (fun w hm => ret_of hm rfl))

def ref24_Excess_k3 (cont2 : (Int × Nat) → Option Int) (t60_2 : Nat) : Int → Option Int := fun sum_j3 =>
  cont2 (sum_j3, t60_2 + 1)
def ref24_Excess_k2 (sum_2 : Int) : Unit → Option Int := fun _ =>
  some sum_2
def ref24_Excess_b2 (g0 : Graph) (lin_1 : List Bool) (cont2 : (Int × Nat) → Option Int) : (Int × Nat) → Option Int := fun (sum_2, t60_2) =>
  if decide ((t60_2 : Int) < (g0.Arcs.length : Int)) then
    ((idx g0.Arcs (t60_2 : Int)).bind fun x23 =>
    (idx lin_1 x23.From).bind fun x26 =>
    (whn x26 default (idx lin_1 x23.To)).bind fun x28 =>
    if (x26 && (!x28)) then
      (chk (i64b (sum_2 - x23.Cap)) <|
      ref24_Excess_k3 cont2 t60_2 (sum_2 - x23.Cap))
    else
      (ref24_Excess_k3 cont2 t60_2 sum_2))
  else
    (ref24_Excess_k2 sum_2 ())
def ref24_Excess_k1 (g0 : Graph) (lin_1 : List Bool) (sum_1 : Int) : Unit → Option Int := fun _ =>
  iter (ref24_Excess_b2 g0 lin_1) FUEL (sum_1, 0)
def ref24_Excess_b1 (set0 : List Int) (g0 : Graph) (cont1 : ((List Bool) × Int × Nat) → Option Int) : ((List Bool) × Int × Nat) → Option Int := fun (lin_1, sum_1, t20_1) =>
  if decide ((t20_1 : Int) < (set0.length : Int)) then
    ((idx set0 (t20_1 : Int)).bind fun x10 =>
    chk (!((!(decide (x10 < 0) || decide ((lin_1.length : Int) ≤ x10))) && decide (0 < (t20_1 : Int))) || i64b ((t20_1 : Int) - 1)) <|
    (whn ((!(decide (x10 < 0) || decide ((lin_1.length : Int) ≤ x10))) && decide (0 < (t20_1 : Int))) default (idx set0 ((t20_1 : Int) - 1))).bind fun x13 =>
    if ((decide (x10 < 0) || decide ((lin_1.length : Int) ≤ x10)) || (decide (0 < (t20_1 : Int)) && decide (x10 ≤ x13))) then
      (some 0)
    else
      ((idx lin_1 x10).bind fun x16 =>
      (idx g0.Supply x10).bind fun x18 =>
      chk (i64b (sum_1 + x18)) <|
      cont1 ((lin_1.set x10.toNat true), (sum_1 + x18), t20_1 + 1)))
  else
    (ref24_Excess_k1 g0 lin_1 sum_1 ())
def ref24_Excess_m (g0 : Graph) (set0 : List Int) : Option Int :=
  (ref24_CheckGraph_m g0).bind fun y2 =>
  if (!y2) then
    (some 0)
  else
    ((mk (α := Bool) false (g0.Supply.length : Int)).bind fun m5 =>
    iter (ref24_Excess_b1 set0 g0) FUEL (m5, 0, 0))
theorem ref24_Excess_spec (S : Soup) (w : World) (g0 : Graph) (r_g0 : GoRep.R Graph) (set0 : List Int) (r_set0 : GoRep.R (List Int)) (y : Int) (hM : ref24_Excess_m g0 set0 = some y) (hS : ∀ k, S k → k < w.heap.size) (h_g0 : GoRep.ok S w r_g0 g0) (h_set0 : GoRep.ok S w r_set0 set0) :
    Calls Try.prog 30 #[.agg #[.slice r_g0.1.a g0.Supply.length r_g0.1.cap, .slice r_g0.2.a g0.Arcs.length r_g0.2.cap], .slice r_set0.a set0.length r_set0.cap] w (Ret w (.int .i64 y)) := by
  refine calls_cw (args := [_, _]) Try.func30 rfl ((pre_nil hS).start |>.immP (α := List Int) (r := r_g0.1) (x := g0.Supply) h_g0.1|>.immP (α := List Arc) (r := r_g0.2) (x := g0.Arcs) h_g0.2|>.immP (α := List Int) (r := r_set0) (x := set0) h_set0) rfl ?_
  unfold ref24_Excess_m at hM
  refine cw_seq fun K1 hK1 => ?_
  refine cw_region ?_
  refine ow_cons (st_box (l := [.slice r_g0.1.a g0.Supply.length r_g0.1.cap, .slice r_g0.2.a g0.Arcs.length r_g0.2.cap]) (k := fun b1 => ?_))
  refine ow_ev ev_assign ?_
  refine ow_nil (hK1 _ _ ?_); clear hK1
  refine cw_seq fun K2 hK2 => ?_
  refine cw_seq fun K3 hK3 => ?_
  refine cw_region ?_
  refine ow_ev (ev_load_all (b := b1)) ?_
  obtain ⟨y2, hy3, hM⟩ := bind_some hM
  refine ow_cons (st_callv (fun w hm => let ⟨S, hs⟩ := hm; ref24_CheckGraph_spec _ w g0 r_g0 y2 hy3 (lend_lt hs) ⟨(Kn.lend (Kn.imm (α := List Int) (r := r_g0.1) (x := g0.Supply) (by repeat (first | exact Has.head | apply Has.tail))) hs), (Kn.lend (Kn.imm (α := List Arc) (r := r_g0.2) (x := g0.Arcs) (by repeat (first | exact Has.head | apply Has.tail))) hs)⟩) ?_)
  refine ow_ev ev_not ?_
  refine ow_nil (hK3 _ _ ?_); clear hK3
  refine cw_cond rfl (fun hc4 => ?_) (fun hc4 => ?_)
  ·
    replace hM := (ite_t hc4).symm.trans hM
    refine cw_seq fun K4 hK4 => ?_
    refine cw_region ?_
    refine ow_ev ev_assign ?_
    refine ow_nil (hK4 _ _ ?_); clear hK4
    obtain rfl := some_inj hM
    refine cw_ret (kw_retc1 (fun w hm => ret_of hm rfl))
  ·
    replace hM := (ite_f hc4).symm.trans hM
    refine cw_skip (hK2 _ _ ?_); clear hK2
    refine cw_seq fun K5 hK5 => ?_
    refine cw_region ?_
    refine ow_ev (ev_field_addr 0) ?_
    refine ow_ev (ev_load_own (b := b1)) ?_
    refine ow_ev ev_len ?_
    obtain ⟨m5, hm6, hM⟩ := bind_some hM
    refine ow_cons (st_make (α := Bool) (e := 4) false () hm6 (fun _ _ => trivial) (fun r7 hr7 => ?_))
    refine ow_ev ev_assign ?_
    refine ow_nil (hK5 _ _ ?_); clear hK5
    refine cw_seq fun K6 hK6 => ?_
    refine cw_region ?_
    refine ow_ev ev_assign ?_
    refine ow_nil (hK6 _ _ ?_); clear hK6
    refine cw_seq fun K7 hK7 => ?_
    refine cw_seq fun K8 hK8 => ?_
    refine cw_region ?_
    refine ow_ev ev_move ?_
    refine ow_have (fun w hm => Kn.len (Kn.imm (α := List Int) (r := r_set0) (x := set0) (by repeat (first | exact Has.head | apply Has.tail))) hm) fun hl8 => ?_
    refine ow_ev ev_len ?_
    refine ow_ev ev_move ?_
    refine ow_nil (hK8 _ _ ?_); clear hK8
    refine cw_block ?_
    refine cw_loop (γ := Nat × ((List Bool) × Int × Nat) × Unit) (env := fun (_, (lin_1, sum_1, t20_1), _) => [(1, .v (.slice r_set0.a set0.length r_set0.cap)), (2, .v (.pointer (some ⟨b1, 0, none⟩))), (5, .v (.slice r7.a lin_1.length r7.cap)), (6, .v (.int .i64 sum_1)), (18, .v (.slice r_set0.a set0.length r_set0.cap)), (19, .v (.int .i64 (set0.length : Int))), (20, .v (.int .i64 (t20_1 : Int)))]) (mem := fun (_, (lin_1, sum_1, t20_1), _) => [imm (α := (List Int)) r_set0 set0, imm (α := (List Int)) r_g0.1 g0.Supply, imm (α := (List Arc)) r_g0.2 g0.Arcs, own b1 25 [.slice r_g0.1.a g0.Supply.length r_g0.1.cap, .slice r_g0.2.a g0.Arcs.length r_g0.2.cap], trow 4 r7 lin_1]) (R := fun g => iter (ref24_Excess_b1 set0 g0) g.1 g.2.1 = some y) (μ := fun g => g.1) (FUEL, (m5, 0, 0), ()) hM ⟨rfl, rfl, rfl, rfl, rfl, rfl, rfl, trivial⟩ (fun w hm => hm.reord) ?_
    clear hM
    intro g hM KL1 hL1
    obtain ⟨nn1, ⟨lin_1, sum_1, t20_1⟩, ⟨⟩⟩ := g
    dsimp only at hM ⊢
    obtain ⟨nn1, cont1, rfl, hcont1, hM⟩ := iter_open' hM
    dsimp only [ref24_Excess_b1] at hM
    refine cw_seq fun K9 hK9 => ?_
    refine cw_region ?_
    refine ow_ev ev_lss ?_
    refine ow_nil (hK9 _ _ ?_); clear hK9
    refine cw_seq fun K10 hK10 => ?_
    refine cw_cond rfl (fun hc9 => ?_) (fun hc9 => ?_)
    ·
      replace hM := (ite_t hc9).symm.trans hM
      have hc9d := of_decide_eq_true hc9
      refine cw_skip (hK10 _ _ ?_); clear hK10
      refine cw_seq fun K11 hK11 => ?_
      refine cw_block ?_
      refine cw_seq fun K12 hK12 => ?_
      refine cw_region ?_
      refine ow_ev ev_move ?_
      obtain ⟨x10, hx11, hM⟩ := bind_some hM
      refine ow_ev (ev_idx (xs := set0) 1 (Kn.imm (α := List Int) (r := r_set0) (x := set0) (by repeat (first | exact Has.head | apply Has.tail))) (fun hg => let h := idx_some hx11; ⟨h.1, h.2.1⟩)) ?_
      refine ow_ev (ev_ld (i := (t20_1 : Int)) (xs := set0) (y := x10) 0 (Kn.imm (α := List Int) (r := r_set0) (x := set0) (by repeat (first | exact Has.head | apply Has.tail))) (fun _ => hx11)) ?_
      refine ow_ev ev_assign ?_
      refine ow_ev ev_assign ?_
      refine ow_nil (hK12 _ _ ?_); clear hK12
      refine cw_seq fun K13 hK13 => ?_
      refine cw_seq fun K14 hK14 => ?_
      refine cw_region ?_
      refine ow_ev ev_move ?_
      refine ow_ev ev_lss ?_
      refine ow_ev ev_move ?_
      refine ow_evg rfl ev_move ?_
      refine ow_evg rfl ev_move ?_
      refine ow_evg rfl ev_len ?_
      refine ow_evg rfl ev_geq ?_
      refine ow_ev ev_or ?_
      refine ow_ev ev_move ?_
      refine ow_evg rfl ev_move ?_
      refine ow_evg rfl ev_gtr ?_
      refine ow_evg rfl ev_move ?_
      refine ow_evg rfl ev_move ?_
      refine ow_evg rfl ev_move ?_
      refine ow_evg rfl ev_move ?_
      obtain ⟨hI12, hM⟩ := chk_some hM
      refine ow_evg rfl (ev_sub (hr := fun hg => i64b_I64 (gor hI12 hg))) ?_
      obtain ⟨x13, hx14, hM⟩ := bind_some hM
      refine ow_evg rfl (ev_idx (xs := set0) 1 (Kn.imm (α := List Int) (r := r_set0) (x := set0) (by repeat (first | exact Has.head | apply Has.tail))) (fun hg => let h := idx_some (whn_some hx14 hg); ⟨h.1, h.2.1⟩)) ?_
      refine ow_evg rfl (ev_ld (i := ((t20_1 : Int) - 1)) (xs := set0) (y := x13) 0 (Kn.imm (α := List Int) (r := r_set0) (x := set0) (by repeat (first | exact Has.head | apply Has.tail))) (fun hg => whn_some hx14 hg)) ?_
      refine ow_evg rfl ev_leq ?_
      refine ow_evg rfl ev_and ?_
      refine ow_ev ev_or ?_
      refine ow_nil (hK14 _ _ ?_); clear hK14
      refine cw_cond rfl (fun hc15 => ?_) (fun hc15 => ?_)
      ·
        replace hM := (ite_t hc15).symm.trans hM
        refine cw_seq fun K15 hK15 => ?_
        refine cw_region ?_
        refine ow_ev ev_assign ?_
        refine ow_nil (hK15 _ _ ?_); clear hK15
        obtain rfl := some_inj hM
        refine cw_ret (kw_retc1 (fun w hm => ret_of hm rfl))
      ·
        replace hM := (ite_f hc15).symm.trans hM
        refine cw_skip (hK13 _ _ ?_); clear hK13
        refine cw_seq fun K16 hK16 => ?_
        refine cw_region ?_
        refine ow_ev ev_move ?_
        refine ow_ev ev_move ?_
        obtain ⟨x16, hx17, hM⟩ := bind_some hM
        refine ow_ev (ev_idx (xs := lin_1) 1 (Kn.trow (e := 4) (r := r7) (by repeat (first | exact Has.head | apply Has.tail))) (fun hg => let h := idx_some hx17; ⟨h.1, h.2.1⟩)) ?_
        refine ow_cons (st_set (r := r7) (i := x10) (xs := lin_1) (u := x16) (vs := [.bool true]) 0 true hx17 rfl (fun _ _ h => h) (by repeat (first | exact Upd.head | apply Upd.tail)) ?_)
        refine ow_nil (hK16 _ _ ?_); clear hK16
        refine cw_region ?_
        refine ow_ev ev_move ?_
        refine ow_ev (ev_field_addr 0) ?_
        refine ow_ev (ev_load_own (b := b1)) ?_
        refine ow_ev ev_move ?_
        obtain ⟨x18, hx19, hM⟩ := bind_some hM
        refine ow_ev (ev_idx (xs := g0.Supply) 1 (Kn.imm (α := List Int) (r := r_g0.1) (x := g0.Supply) (by repeat (first | exact Has.head | apply Has.tail))) (fun hg => let h := idx_some hx19; ⟨h.1, h.2.1⟩)) ?_
        refine ow_ev (ev_ld (i := x10) (xs := g0.Supply) (y := x18) 0 (Kn.imm (α := List Int) (r := r_g0.1) (x := g0.Supply) (by repeat (first | exact Has.head | apply Has.tail))) (fun _ => hx19)) ?_
        obtain ⟨hI20, hM⟩ := chk_some hM
        refine ow_ev (ev_add (hr := fun hg => i64b_I64 hI20)) ?_
        refine ow_ev ev_assign ?_
        refine ow_nil (hK11 _ _ ?_); clear hK11
        refine cw_region ?_
        refine ow_ev (ev_add (hr := fun _ => by unfold I64; omega)) ?_
        refine ow_ev ev_move ?_
        refine ow_nil (hL1 (nn1, ((lin_1.set x10.toNat true), (sum_1 + x18), t20_1 + 1), ()) _ _ (eqc hcont1 hM) (Nat.lt_succ_self _) ⟨rfl, rfl, (by simp only [List.length_set]; rfl), rfl, rfl, rfl, rfl, trivial⟩ (fun w hm => hm.reord))
    ·
      replace hM := (ite_f hc9).symm.trans hM
      refine cw_exit (hK7 _ _ ?_); clear hK7
      dsimp only [ref24_Excess_k1] at hM
      refine cw_seq fun K17 hK17 => ?_
      refine cw_seq fun K18 hK18 => ?_
      refine cw_region ?_
      refine ow_ev (ev_field_addr 1) ?_
      refine ow_ev (ev_load_own (b := b1)) ?_
      refine ow_have (fun w hm => Kn.len (Kn.imm (α := List Arc) (r := r_g0.2) (x := g0.Arcs) (by repeat (first | exact Has.head | apply Has.tail))) hm) fun hl21 => ?_
      refine ow_ev ev_len ?_
      refine ow_ev ev_move ?_
      refine ow_nil (hK18 _ _ ?_); clear hK18
      refine cw_block ?_
      refine cw_loop (γ := Nat × (Int × Nat) × Unit) (env := fun (_, (sum_2, t60_2), _) => [(5, .v (.slice r7.a lin_1.length r7.cap)), (6, .v (.int .i64 sum_2)), (58, .v (.slice r_g0.2.a g0.Arcs.length r_g0.2.cap)), (59, .v (.int .i64 (g0.Arcs.length : Int))), (60, .v (.int .i64 (t60_2 : Int)))]) (mem := fun (_, (sum_2, t60_2), _) => [trow 4 r7 lin_1, imm (α := (List Arc)) r_g0.2 g0.Arcs]) (R := fun g => iter (ref24_Excess_b2 g0 lin_1) g.1 g.2.1 = some y) (μ := fun g => g.1) (FUEL, (sum_1, 0), ()) hM ⟨rfl, rfl, rfl, rfl, rfl, trivial⟩ (fun w hm => hm.reord) ?_
      clear hM
      intro g hM KL2 hL2
      obtain ⟨nn2, ⟨sum_2, t60_2⟩, ⟨⟩⟩ := g
      dsimp only at hM ⊢
      obtain ⟨nn2, cont2, rfl, hcont2, hM⟩ := iter_open' hM
      dsimp only [ref24_Excess_b2] at hM
      refine cw_seq fun K19 hK19 => ?_
      refine cw_region ?_
      refine ow_ev ev_lss ?_
      refine ow_nil (hK19 _ _ ?_); clear hK19
      refine cw_seq fun K20 hK20 => ?_
      refine cw_cond rfl (fun hc22 => ?_) (fun hc22 => ?_)
      ·
        replace hM := (ite_t hc22).symm.trans hM
        have hc22d := of_decide_eq_true hc22
        refine cw_skip (hK20 _ _ ?_); clear hK20
        refine cw_cut (γ := Int × Unit) (env := fun (sum_j3, _) => [(5, .v (.slice r7.a lin_1.length r7.cap)), (6, .v (.int .i64 sum_j3)), (58, .v (.slice r_g0.2.a g0.Arcs.length r_g0.2.cap)), (59, .v (.int .i64 (g0.Arcs.length : Int))), (60, .v (.int .i64 (t60_2 : Int)))]) (mem := fun (sum_j3, _) => [trow 4 r7 lin_1, imm (α := (List Arc)) r_g0.2 g0.Arcs]) (R := fun g => ref24_Excess_k3 cont2 t60_2 g.1 = some y) ?_ ?_
        · intro KJ3 hJ3
          refine cw_block ?_
          refine cw_seq fun K21 hK21 => ?_
          refine cw_region ?_
          obtain ⟨x23, hx24, hM⟩ := bind_some hM
          refine ow_ev (ev_idx (xs := g0.Arcs) 4 (Kn.imm (α := List Arc) (r := r_g0.2) (x := g0.Arcs) (by repeat (first | exact Has.head | apply Has.tail))) (fun hg => let h := idx_some hx24; ⟨h.1, h.2.1⟩)) ?_
          refine ow_ev (ev_lds (m := 4) (i := (t60_2 : Int)) (xs := g0.Arcs) (y := x23) (l := [.int .i64 x23.From, .int .i64 x23.To, .int .i64 x23.Cap, .int .i64 x23.Cost]) 0 (Kn.imm (α := List Arc) (r := r_g0.2) (x := g0.Arcs) (by repeat (first | exact Has.head | apply Has.tail))) (fun _ => hx24)) ?_
          refine ow_cons (st_alloc rfl (k := fun b25 => ?_))
          refine ow_cons (st_store_all (b := b25) (vs := [.int .i64 x23.From, .int .i64 x23.To, .int .i64 x23.Cap, .int .i64 x23.Cost]) (k := ?_))
          refine ow_nil (hK21 _ _ ?_); clear hK21
          refine cw_seq fun K22 hK22 => ?_
          refine cw_region ?_
          refine ow_ev ev_move ?_
          refine ow_ev (ev_field_addr 0) ?_
          refine ow_ev (ev_load_own (b := b25)) ?_
          obtain ⟨x26, hx27, hM⟩ := bind_some hM
          refine ow_ev (ev_idx (xs := lin_1) 1 (Kn.trow (e := 4) (r := r7) (by repeat (first | exact Has.head | apply Has.tail))) (fun hg => let h := idx_some hx27; ⟨h.1, h.2.1⟩)) ?_
          refine ow_ev (ev_ld (i := x23.From) (xs := lin_1) (y := x26) 0 (Kn.trow (e := 4) (r := r7) (by repeat (first | exact Has.head | apply Has.tail))) (fun _ => hx27)) ?_
          refine ow_ev ev_move ?_
          refine ow_evg rfl ev_move ?_
          refine ow_evg rfl (ev_field_addr 1) ?_
          refine ow_evg rfl (ev_load_own (b := b25)) ?_
          obtain ⟨x28, hx29, hM⟩ := bind_some hM
          refine ow_evg rfl (ev_idx (xs := lin_1) 1 (Kn.trow (e := 4) (r := r7) (by repeat (first | exact Has.head | apply Has.tail))) (fun hg => let h := idx_some (whn_some hx29 hg); ⟨h.1, h.2.1⟩)) ?_
          refine ow_evg rfl (ev_ld (i := x23.To) (xs := lin_1) (y := x28) 0 (Kn.trow (e := 4) (r := r7) (by repeat (first | exact Has.head | apply Has.tail))) (fun hg => whn_some hx29 hg)) ?_
          refine ow_evg rfl ev_not ?_
          refine ow_ev ev_and ?_
          refine ow_nil (hK22 _ _ ?_); clear hK22
          refine cw_cond rfl (fun hc30 => ?_) (fun hc30 => ?_)
          ·
            replace hM := (ite_t hc30).symm.trans hM
            refine cw_region ?_
            refine ow_ev ev_move ?_
            refine ow_ev (ev_field_addr 2) ?_
            refine ow_ev (ev_load_own (b := b25)) ?_
            obtain ⟨hI31, hM⟩ := chk_some hM
            refine ow_ev (ev_sub (hr := fun hg => i64b_I64 hI31)) ?_
            refine ow_ev ev_assign ?_
            refine ow_nil (hJ3 ((sum_2 - x23.Cap), ()) _ _ hM ⟨rfl, rfl, rfl, rfl, rfl, trivial⟩ (fun w hm => hm.reord))
          ·
            replace hM := (ite_f hc30).symm.trans hM
            refine cw_skip (hJ3 (sum_2, ()) _ _ hM ⟨rfl, rfl, rfl, rfl, rfl, trivial⟩ (fun w hm => hm.reord))
        ·
          clear hM
          intro g hM
          obtain ⟨sum_j3, ⟨⟩⟩ := g
          dsimp only at hM ⊢
          dsimp only [ref24_Excess_k3] at hM
          refine cw_region ?_
          refine ow_ev (ev_add (hr := fun _ => by unfold I64; omega)) ?_
          refine ow_ev ev_move ?_
          refine ow_nil (hL2 (nn2, (sum_j3, t60_2 + 1), ()) _ _ (eqc hcont2 hM) (Nat.lt_succ_self _) ⟨rfl, rfl, rfl, rfl, rfl, trivial⟩ (fun w hm => hm.reord))
      ·
        replace hM := (ite_f hc22).symm.trans hM
        refine cw_exit (hK17 _ _ ?_); clear hK17
        dsimp only [ref24_Excess_k2] at hM
        refine cw_seq fun K23 hK23 => ?_
        refine cw_region ?_
        refine ow_ev ev_move ?_
        refine ow_ev ev_assign ?_
        refine ow_nil (hK23 _ _ ?_); clear hK23
        obtain rfl := some_inj hM
        refine cw_ret (kw_retc1 (fun w hm => ret_of hm rfl))

def law27_example_m  : Option Graph :=
  some (Graph.mk ([2, 0, (-2)] : List Int) ([(Arc.mk 0 2 1 5), (Arc.mk 0 1 2 1), (Arc.mk 1 2 2 1)] : List Arc))
theorem law27_example_spec (S : Soup) (w : World)  (y : Graph) (hM : law27_example_m  = some y) (hS : ∀ k, S k → k < w.heap.size)  :
    Calls Try.prog 31 #[] w (Post (β := (GoRep.R Graph)) S [] (fun g => .agg #[.slice g.1.a y.Supply.length g.1.cap, .slice g.2.a y.Arcs.length g.2.cap]) (fun g => [trow 3 g.1 y.Supply, trow 40 g.2 y.Arcs]) w) := by
  refine calls_cw (args := []) Try.func31 rfl ((pre_nil hS).start) rfl ?_
  unfold law27_example_m at hM
  refine cw_seq fun K1 hK1 => ?_
  refine cw_region ?_
  refine ow_cons (st_alloc rfl (k := fun b1 => ?_))
  refine ow_nil (hK1 _ _ ?_); clear hK1
  refine cw_seq fun K2 hK2 => ?_
  refine cw_region ?_
  refine ow_cons (st_bslice (α := Int) 3 (fun _ => ()) ([2, 0, (-2)] : List Int) (OkL.flat (fun _ _ _ _ => trivial)) (fun r2 => ?_))
  refine ow_ev (ev_build [.int .i64 0, .int .i64 2, .int .i64 1, .int .i64 5]) ?_
  refine ow_ev (ev_build [.int .i64 0, .int .i64 1, .int .i64 2, .int .i64 1]) ?_
  refine ow_ev (ev_build [.int .i64 1, .int .i64 2, .int .i64 2, .int .i64 1]) ?_
  refine ow_cons (st_bslice (α := Arc) 40 (fun _ => ()) ([(Arc.mk 0 2 1 5), (Arc.mk 0 1 2 1), (Arc.mk 1 2 2 1)] : List Arc) (OkL.flat (fun _ _ _ _ => trivial)) (fun r3 => ?_))
  refine ow_ev (ev_build [.slice r2.a (([2, 0, (-2)] : List Int).length) r2.cap, .slice r3.a (([(Arc.mk 0 2 1 5), (Arc.mk 0 1 2 1), (Arc.mk 1 2 2 1)] : List Arc).length) r3.cap]) ?_
  refine ow_cons (st_store_all (b := b1) (vs := [.slice r2.a (([2, 0, (-2)] : List Int).length) r2.cap, .slice r3.a (([(Arc.mk 0 2 1 5), (Arc.mk 0 1 2 1), (Arc.mk 1 2 2 1)] : List Arc).length) r3.cap]) (k := ?_))
  refine ow_nil (hK2 _ _ ?_); clear hK2
  obtain rfl := some_inj hM
  refine cw_ret (kw_retc1 (fun w hm => post_of (r2, r3) hm rfl))

end Go.Proofs.Ytedocibniankjaa
