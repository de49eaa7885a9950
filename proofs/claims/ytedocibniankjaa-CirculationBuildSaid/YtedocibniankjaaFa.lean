/- Models of functions, and that the code computes them. -/
import Derived.Test.YtedocibniankjaaTypes
namespace Go.Proofs.Ytedocibniankjaa
open Go.Dc Go.RowKit
set_option maxRecDepth 10000
set_option linter.unusedVariables false
def flow_within_m (n0 : Int) (limit0 : Int) : Option Bool :=
  chk (i64b (-limit0)) <|
  some (decide ((-limit0) ≤ n0) && decide (n0 ≤ limit0))
theorem flow_within_spec (S : Soup) (w : World) (n0 : Int) (limit0 : Int) (y : Bool) (hM : flow_within_m n0 limit0 = some y) (hS : ∀ k, S k → k < w.heap.size)  :
    Calls Try.prog 62 #[.int .i64 n0, .int .i64 limit0] w (Ret w (.bool y)) := by
  refine calls_cw (args := [_, _]) Try.func62 rfl ((pre_nil hS).start) rfl ?_
  unfold flow_within_m at hM
  refine cw_seq fun K1 hK1 => ?_
  refine cw_region ?_
  refine ow_ev ev_assign ?_
  refine ow_nil (hK1 _ _ ?_); clear hK1
  refine cw_seq fun K2 hK2 => ?_
  refine cw_region ?_
  refine ow_ev ev_move ?_
  refine ow_ev ev_move ?_
  obtain ⟨hI1, hM⟩ := chk_some hM
  refine ow_ev (ev_neg (hr := fun hg => i64b_I64 hI1)) ?_
  refine ow_ev ev_geq ?_
  refine ow_ev ev_move ?_
  refine ow_evg rfl ev_move ?_
  refine ow_evg rfl ev_move ?_
  refine ow_evg rfl ev_leq ?_
  refine ow_ev ev_and ?_
  refine ow_ev ev_assign ?_
  refine ow_nil (hK2 _ _ ?_); clear hK2
  obtain rfl := some_inj hM
  refine cw_ret (kw_retc1 (fun w hm => ret_of hm rfl))

def flow_Check_k2 (sum_1 : Int) : Unit → Option Bool := fun _ =>
  some (decide (sum_1 = 0))
def flow_Check_b2 (g0 : Graph) (sum_1 : Int) (cont2 : Nat → Option Bool) : Nat → Option Bool := fun t41_2 =>
  if decide ((t41_2 : Int) < (g0.Arcs.length : Int)) then
    ((idx g0.Arcs (t41_2 : Int)).bind fun x13 =>
    if ((((decide (x13.From < 0) || decide ((g0.Supply.length : Int) ≤ x13.From)) || decide (x13.To < 0)) || decide ((g0.Supply.length : Int) ≤ x13.To)) || decide (x13.From = x13.To)) then
      (some false)
    else
      ((whn (!(decide (x13.Cap < 0) || decide (1048576 < x13.Cap))) default (flow_within_m x13.Cost 1048576)).bind fun y17 =>
      if ((decide (x13.Cap < 0) || decide (1048576 < x13.Cap)) || (!y17)) then
        (some false)
      else
        (cont2 (t41_2 + 1))))
  else
    (flow_Check_k2 sum_1 ())
def flow_Check_k1 (g0 : Graph) (sum_1 : Int) : Unit → Option Bool := fun _ =>
  iter (flow_Check_b2 g0 sum_1) FUEL 0
def flow_Check_b1 (g0 : Graph) (cont1 : (Int × Nat) → Option Bool) : (Int × Nat) → Option Bool := fun (sum_1, t27_1) =>
  if decide ((t27_1 : Int) < (g0.Supply.length : Int)) then
    ((idx g0.Supply (t27_1 : Int)).bind fun x5 =>
    (flow_within_m x5 1048576).bind fun y7 =>
    if (!y7) then
      (some false)
    else
      (chk (i64b (sum_1 + x5)) <|
      cont1 ((sum_1 + x5), t27_1 + 1)))
  else
    (flow_Check_k1 g0 sum_1 ())
def flow_Check_m (g0 : Graph) : Option Bool :=
  if ((decide ((g0.Supply.length : Int) < 1) || decide (96 < (g0.Supply.length : Int))) || decide (1024 < (g0.Arcs.length : Int))) then
    (some false)
  else
    (iter (flow_Check_b1 g0) FUEL (0, 0))
theorem flow_Check_spec (S : Soup) (w : World) (g0 : Graph) (r_g0 : GoRep.R Graph) (y : Bool) (hM : flow_Check_m g0 = some y) (hS : ∀ k, S k → k < w.heap.size) (h_g0 : GoRep.ok S w r_g0 g0) :
    Calls Try.prog 27 #[.agg #[.slice r_g0.1.a g0.Supply.length r_g0.1.cap, .slice r_g0.2.a g0.Arcs.length r_g0.2.cap]] w (Ret w (.bool y)) := by
  refine calls_cw (args := [_]) Try.func27 rfl ((pre_nil hS).start |>.immP (α := List Int) (r := r_g0.1) (x := g0.Supply) h_g0.1|>.immP (α := List Arc) (r := r_g0.2) (x := g0.Arcs) h_g0.2) rfl ?_
  unfold flow_Check_m at hM
  refine cw_seq fun K1 hK1 => ?_
  refine cw_region ?_
  refine ow_cons (st_box (l := [.slice r_g0.1.a g0.Supply.length r_g0.1.cap, .slice r_g0.2.a g0.Arcs.length r_g0.2.cap]) (k := fun b1 => ?_))
  refine ow_ev ev_assign ?_
  refine ow_nil (hK1 _ _ ?_); clear hK1
  refine cw_seq fun K2 hK2 => ?_
  refine cw_region ?_
  refine ow_ev (ev_field_addr 0) ?_
  refine ow_ev (ev_load_own (b := b1)) ?_
  refine ow_ev ev_len ?_
  refine ow_ev ev_assign ?_
  refine ow_nil (hK2 _ _ ?_); clear hK2
  refine cw_seq fun K3 hK3 => ?_
  refine cw_seq fun K4 hK4 => ?_
  refine cw_region ?_
  refine ow_ev ev_move ?_
  refine ow_ev ev_lss ?_
  refine ow_ev ev_move ?_
  refine ow_evg rfl ev_move ?_
  refine ow_evg rfl ev_gtr ?_
  refine ow_ev ev_or ?_
  refine ow_ev ev_move ?_
  refine ow_evg rfl (ev_field_addr 1) ?_
  refine ow_evg rfl (ev_load_own (b := b1)) ?_
  refine ow_evg rfl ev_len ?_
  refine ow_evg rfl ev_gtr ?_
  refine ow_ev ev_or ?_
  refine ow_nil (hK4 _ _ ?_); clear hK4
  refine cw_cond rfl (fun hc2 => ?_) (fun hc2 => ?_)
  ·
    replace hM := (ite_t hc2).symm.trans hM
    refine cw_seq fun K5 hK5 => ?_
    refine cw_region ?_
    refine ow_ev ev_assign ?_
    refine ow_nil (hK5 _ _ ?_); clear hK5
    obtain rfl := some_inj hM
    refine cw_ret (kw_retc1 (fun w hm => ret_of hm rfl))
  ·
    replace hM := (ite_f hc2).symm.trans hM
    refine cw_skip (hK3 _ _ ?_); clear hK3
    refine cw_seq fun K6 hK6 => ?_
    refine cw_region ?_
    refine ow_ev ev_assign ?_
    refine ow_nil (hK6 _ _ ?_); clear hK6
    refine cw_seq fun K7 hK7 => ?_
    refine cw_seq fun K8 hK8 => ?_
    refine cw_region ?_
    refine ow_ev (ev_field_addr 0) ?_
    refine ow_ev (ev_load_own (b := b1)) ?_
    refine ow_have (fun w hm => Kn.len (Kn.imm (α := List Int) (r := r_g0.1) (x := g0.Supply) (by repeat (first | exact Has.head | apply Has.tail))) hm) fun hl3 => ?_
    refine ow_ev ev_len ?_
    refine ow_ev ev_move ?_
    refine ow_nil (hK8 _ _ ?_); clear hK8
    refine cw_block ?_
    refine cw_loop (γ := Nat × (Int × Nat) × Unit) (env := fun (_, (sum_1, t27_1), _) => [(1, .v (.pointer (some ⟨b1, 0, none⟩))), (3, .v (.int .i64 (g0.Supply.length : Int))), (4, .v (.int .i64 sum_1)), (25, .v (.slice r_g0.1.a g0.Supply.length r_g0.1.cap)), (26, .v (.int .i64 (g0.Supply.length : Int))), (27, .v (.int .i64 (t27_1 : Int)))]) (mem := fun (_, (sum_1, t27_1), _) => [imm (α := (List Int)) r_g0.1 g0.Supply, imm (α := (List Arc)) r_g0.2 g0.Arcs, own b1 25 [.slice r_g0.1.a g0.Supply.length r_g0.1.cap, .slice r_g0.2.a g0.Arcs.length r_g0.2.cap]]) (R := fun g => iter (flow_Check_b1 g0) g.1 g.2.1 = some y) (μ := fun g => g.1) (FUEL, (0, 0), ()) hM ⟨rfl, rfl, rfl, rfl, rfl, rfl, trivial⟩ (fun w hm => hm.reord) ?_
    clear hM
    intro g hM KL1 hL1
    obtain ⟨nn1, ⟨sum_1, t27_1⟩, ⟨⟩⟩ := g
    dsimp only at hM ⊢
    obtain ⟨nn1, cont1, rfl, hcont1, hM⟩ := iter_open' hM
    dsimp only [flow_Check_b1] at hM
    refine cw_seq fun K9 hK9 => ?_
    refine cw_region ?_
    refine ow_ev ev_lss ?_
    refine ow_nil (hK9 _ _ ?_); clear hK9
    refine cw_seq fun K10 hK10 => ?_
    refine cw_cond rfl (fun hc4 => ?_) (fun hc4 => ?_)
    ·
      replace hM := (ite_t hc4).symm.trans hM
      have hc4d := of_decide_eq_true hc4
      refine cw_skip (hK10 _ _ ?_); clear hK10
      refine cw_seq fun K11 hK11 => ?_
      refine cw_block ?_
      refine cw_seq fun K12 hK12 => ?_
      refine cw_region ?_
      obtain ⟨x5, hx6, hM⟩ := bind_some hM
      refine ow_ev (ev_idx (xs := g0.Supply) 1 (Kn.imm (α := List Int) (r := r_g0.1) (x := g0.Supply) (by repeat (first | exact Has.head | apply Has.tail))) (fun hg => let h := idx_some hx6; ⟨h.1, h.2.1⟩)) ?_
      refine ow_ev (ev_ld (i := (t27_1 : Int)) (xs := g0.Supply) (y := x5) 0 (Kn.imm (α := List Int) (r := r_g0.1) (x := g0.Supply) (by repeat (first | exact Has.head | apply Has.tail))) (fun _ => hx6)) ?_
      refine ow_ev ev_assign ?_
      refine ow_nil (hK12 _ _ ?_); clear hK12
      refine cw_seq fun K13 hK13 => ?_
      refine cw_seq fun K14 hK14 => ?_
      refine cw_region ?_
      refine ow_ev ev_move ?_
      obtain ⟨y7, hy8, hM⟩ := bind_some hM
      refine ow_cons (st_callv (fun w hm => let ⟨S, hs⟩ := hm; flow_within_spec _ w x5 1048576 y7 hy8 (lend_lt hs) ) ?_)
      refine ow_ev ev_not ?_
      refine ow_nil (hK14 _ _ ?_); clear hK14
      refine cw_cond rfl (fun hc9 => ?_) (fun hc9 => ?_)
      ·
        replace hM := (ite_t hc9).symm.trans hM
        refine cw_seq fun K15 hK15 => ?_
        refine cw_region ?_
        refine ow_ev ev_assign ?_
        refine ow_nil (hK15 _ _ ?_); clear hK15
        obtain rfl := some_inj hM
        refine cw_ret (kw_retc1 (fun w hm => ret_of hm rfl))
      ·
        replace hM := (ite_f hc9).symm.trans hM
        refine cw_skip (hK13 _ _ ?_); clear hK13
        refine cw_region ?_
        refine ow_ev ev_move ?_
        refine ow_ev ev_move ?_
        obtain ⟨hI10, hM⟩ := chk_some hM
        refine ow_ev (ev_add (hr := fun hg => i64b_I64 hI10)) ?_
        refine ow_ev ev_assign ?_
        refine ow_nil (hK11 _ _ ?_); clear hK11
        refine cw_region ?_
        refine ow_ev (ev_add (hr := fun _ => by unfold I64; omega)) ?_
        refine ow_ev ev_move ?_
        refine ow_nil (hL1 (nn1, ((sum_1 + x5), t27_1 + 1), ()) _ _ (eqc hcont1 hM) (Nat.lt_succ_self _) ⟨rfl, rfl, rfl, rfl, rfl, rfl, trivial⟩ (fun w hm => hm.reord))
    ·
      replace hM := (ite_f hc4).symm.trans hM
      refine cw_exit (hK7 _ _ ?_); clear hK7
      dsimp only [flow_Check_k1] at hM
      refine cw_seq fun K16 hK16 => ?_
      refine cw_seq fun K17 hK17 => ?_
      refine cw_region ?_
      refine ow_ev (ev_field_addr 1) ?_
      refine ow_ev (ev_load_own (b := b1)) ?_
      refine ow_have (fun w hm => Kn.len (Kn.imm (α := List Arc) (r := r_g0.2) (x := g0.Arcs) (by repeat (first | exact Has.head | apply Has.tail))) hm) fun hl11 => ?_
      refine ow_ev ev_len ?_
      refine ow_ev ev_move ?_
      refine ow_nil (hK17 _ _ ?_); clear hK17
      refine cw_block ?_
      refine cw_loop (γ := Nat × Nat × Unit) (env := fun (_, t41_2, _) => [(3, .v (.int .i64 (g0.Supply.length : Int))), (4, .v (.int .i64 sum_1)), (39, .v (.slice r_g0.2.a g0.Arcs.length r_g0.2.cap)), (40, .v (.int .i64 (g0.Arcs.length : Int))), (41, .v (.int .i64 (t41_2 : Int)))]) (mem := fun (_, t41_2, _) => [imm (α := (List Arc)) r_g0.2 g0.Arcs]) (R := fun g => iter (flow_Check_b2 g0 sum_1) g.1 g.2.1 = some y) (μ := fun g => g.1) (FUEL, 0, ()) hM ⟨rfl, rfl, rfl, rfl, rfl, trivial⟩ (fun w hm => hm.reord) ?_
      clear hM
      intro g hM KL2 hL2
      obtain ⟨nn2, t41_2, ⟨⟩⟩ := g
      dsimp only at hM ⊢
      obtain ⟨nn2, cont2, rfl, hcont2, hM⟩ := iter_open' hM
      dsimp only [flow_Check_b2] at hM
      refine cw_seq fun K18 hK18 => ?_
      refine cw_region ?_
      refine ow_ev ev_lss ?_
      refine ow_nil (hK18 _ _ ?_); clear hK18
      refine cw_seq fun K19 hK19 => ?_
      refine cw_cond rfl (fun hc12 => ?_) (fun hc12 => ?_)
      ·
        replace hM := (ite_t hc12).symm.trans hM
        have hc12d := of_decide_eq_true hc12
        refine cw_skip (hK19 _ _ ?_); clear hK19
        refine cw_seq fun K20 hK20 => ?_
        refine cw_block ?_
        refine cw_seq fun K21 hK21 => ?_
        refine cw_region ?_
        obtain ⟨x13, hx14, hM⟩ := bind_some hM
        refine ow_ev (ev_idx (xs := g0.Arcs) 4 (Kn.imm (α := List Arc) (r := r_g0.2) (x := g0.Arcs) (by repeat (first | exact Has.head | apply Has.tail))) (fun hg => let h := idx_some hx14; ⟨h.1, h.2.1⟩)) ?_
        refine ow_ev (ev_lds (m := 4) (i := (t41_2 : Int)) (xs := g0.Arcs) (y := x13) (l := [.int .i64 x13.From, .int .i64 x13.To, .int .i64 x13.Cap, .int .i64 x13.Cost]) 0 (Kn.imm (α := List Arc) (r := r_g0.2) (x := g0.Arcs) (by repeat (first | exact Has.head | apply Has.tail))) (fun _ => hx14)) ?_
        refine ow_cons (st_alloc rfl (k := fun b15 => ?_))
        refine ow_cons (st_store_all (b := b15) (vs := [.int .i64 x13.From, .int .i64 x13.To, .int .i64 x13.Cap, .int .i64 x13.Cost]) (k := ?_))
        refine ow_nil (hK21 _ _ ?_); clear hK21
        refine cw_seq fun K22 hK22 => ?_
        refine cw_seq fun K23 hK23 => ?_
        refine cw_region ?_
        refine ow_ev (ev_field_addr 0) ?_
        refine ow_ev (ev_load_own (b := b15)) ?_
        refine ow_ev ev_lss ?_
        refine ow_ev ev_move ?_
        refine ow_evg rfl (ev_field_addr 0) ?_
        refine ow_evg rfl (ev_load_own (b := b15)) ?_
        refine ow_evg rfl ev_move ?_
        refine ow_evg rfl ev_geq ?_
        refine ow_ev ev_or ?_
        refine ow_ev ev_move ?_
        refine ow_evg rfl (ev_field_addr 1) ?_
        refine ow_evg rfl (ev_load_own (b := b15)) ?_
        refine ow_evg rfl ev_lss ?_
        refine ow_ev ev_or ?_
        refine ow_ev ev_move ?_
        refine ow_evg rfl (ev_field_addr 1) ?_
        refine ow_evg rfl (ev_load_own (b := b15)) ?_
        refine ow_evg rfl ev_move ?_
        refine ow_evg rfl ev_geq ?_
        refine ow_ev ev_or ?_
        refine ow_ev ev_move ?_
        refine ow_evg rfl (ev_field_addr 0) ?_
        refine ow_evg rfl (ev_load_own (b := b15)) ?_
        refine ow_evg rfl (ev_field_addr 1) ?_
        refine ow_evg rfl (ev_load_own (b := b15)) ?_
        refine ow_evg rfl ev_eql ?_
        refine ow_ev ev_or ?_
        refine ow_nil (hK23 _ _ ?_); clear hK23
        refine cw_cond rfl (fun hc16 => ?_) (fun hc16 => ?_)
        ·
          replace hM := (ite_t hc16).symm.trans hM
          refine cw_seq fun K24 hK24 => ?_
          refine cw_region ?_
          refine ow_ev ev_assign ?_
          refine ow_nil (hK24 _ _ ?_); clear hK24
          obtain rfl := some_inj hM
          refine cw_ret (kw_retc1 (fun w hm => ret_of hm rfl))
        ·
          replace hM := (ite_f hc16).symm.trans hM
          refine cw_skip (hK22 _ _ ?_); clear hK22
          refine cw_seq fun K25 hK25 => ?_
          refine cw_region ?_
          refine ow_ev (ev_field_addr 2) ?_
          refine ow_ev (ev_load_own (b := b15)) ?_
          refine ow_ev ev_lss ?_
          refine ow_ev ev_move ?_
          refine ow_evg rfl (ev_field_addr 2) ?_
          refine ow_evg rfl (ev_load_own (b := b15)) ?_
          refine ow_evg rfl ev_gtr ?_
          refine ow_ev ev_or ?_
          refine ow_ev ev_move ?_
          refine ow_evg rfl (ev_field_addr 3) ?_
          refine ow_evg rfl (ev_load_own (b := b15)) ?_
          obtain ⟨y17, hy18, hM⟩ := bind_some hM
          refine ow_callg rfl (fun hg w hm => let ⟨S, hs⟩ := hm; flow_within_spec _ w x13.Cost 1048576 y17 (whn_some hy18 hg) (lend_lt hs) ) ?_
          refine ow_evg rfl ev_not ?_
          refine ow_ev ev_or ?_
          refine ow_nil (hK25 _ _ ?_); clear hK25
          refine cw_cond rfl (fun hc19 => ?_) (fun hc19 => ?_)
          ·
            replace hM := (ite_t hc19).symm.trans hM
            refine cw_seq fun K26 hK26 => ?_
            refine cw_region ?_
            refine ow_ev ev_assign ?_
            refine ow_nil (hK26 _ _ ?_); clear hK26
            obtain rfl := some_inj hM
            refine cw_ret (kw_retc1 (fun w hm => ret_of hm rfl))
          ·
            replace hM := (ite_f hc19).symm.trans hM
            refine cw_skip (hK20 _ _ ?_); clear hK20
            refine cw_region ?_
            refine ow_ev (ev_add (hr := fun _ => by unfold I64; omega)) ?_
            refine ow_ev ev_move ?_
            refine ow_nil (hL2 (nn2, (t41_2 + 1), ()) _ _ (eqc hcont2 hM) (Nat.lt_succ_self _) ⟨rfl, rfl, rfl, rfl, rfl, trivial⟩ (fun w hm => hm.reord))
      ·
        replace hM := (ite_f hc12).symm.trans hM
        refine cw_exit (hK16 _ _ ?_); clear hK16
        dsimp only [flow_Check_k2] at hM
        refine cw_seq fun K27 hK27 => ?_
        refine cw_region ?_
        refine ow_ev ev_move ?_
        refine ow_ev ev_eql ?_
        refine ow_ev ev_assign ?_
        refine ow_nil (hK27 _ _ ?_); clear hK27
        obtain rfl := some_inj hM
        refine cw_ret (kw_retc1 (fun w hm => ret_of hm rfl))

def ref24_moderate_m (v0 : Int) : Option Bool :=
  some (decide ((-1099511627776) ≤ v0) && decide (v0 ≤ 1099511627776))
theorem ref24_moderate_spec (S : Soup) (w : World) (v0 : Int) (y : Bool) (hM : ref24_moderate_m v0 = some y) (hS : ∀ k, S k → k < w.heap.size)  :
    Calls Try.prog 61 #[.int .i64 v0] w (Ret w (.bool y)) := by
  refine calls_cw (args := [_]) Try.func61 rfl ((pre_nil hS).start) rfl ?_
  unfold ref24_moderate_m at hM
  refine cw_seq fun K1 hK1 => ?_
  refine cw_region ?_
  refine ow_ev ev_assign ?_
  refine ow_nil (hK1 _ _ ?_); clear hK1
  refine cw_seq fun K2 hK2 => ?_
  refine cw_region ?_
  refine ow_ev ev_move ?_
  refine ow_ev ev_geq ?_
  refine ow_ev ev_move ?_
  refine ow_evg rfl ev_move ?_
  refine ow_evg rfl ev_leq ?_
  refine ow_ev ev_and ?_
  refine ow_ev ev_assign ?_
  refine ow_nil (hK2 _ _ ?_); clear hK2
  obtain rfl := some_inj hM
  refine cw_ret (kw_retc1 (fun w hm => ret_of hm rfl))

def ref24_CheckGraph_k2 (sum_1 : Int) : Unit → Option Bool := fun _ =>
  some (decide (sum_1 = 0))
def ref24_CheckGraph_b2 (g0 : Graph) (sum_1 : Int) (cont2 : Nat → Option Bool) : Nat → Option Bool := fun t44_2 =>
  if decide ((t44_2 : Int) < (g0.Arcs.length : Int)) then
    ((idx g0.Arcs (t44_2 : Int)).bind fun x11 =>
    if ((((((((decide (x11.From < 0) || decide ((g0.Supply.length : Int) ≤ x11.From)) || decide (x11.To < 0)) || decide ((g0.Supply.length : Int) ≤ x11.To)) || decide (x11.From = x11.To)) || decide (x11.Cap < 0)) || decide (1048576 < x11.Cap)) || decide (x11.Cost < (-1048576))) || decide (1048576 < x11.Cost)) then
      (some false)
    else
      (cont2 (t44_2 + 1)))
  else
    (ref24_CheckGraph_k2 sum_1 ())
def ref24_CheckGraph_k1 (g0 : Graph) (sum_1 : Int) : Unit → Option Bool := fun _ =>
  iter (ref24_CheckGraph_b2 g0 sum_1) FUEL 0
def ref24_CheckGraph_b1 (g0 : Graph) (cont1 : (Int × Nat) → Option Bool) : (Int × Nat) → Option Bool := fun (sum_1, t27_1) =>
  if decide ((t27_1 : Int) < (g0.Supply.length : Int)) then
    ((idx g0.Supply (t27_1 : Int)).bind fun x5 =>
    if (decide (x5 < (-1048576)) || decide (1048576 < x5)) then
      (some false)
    else
      (chk (i64b (sum_1 + x5)) <|
      cont1 ((sum_1 + x5), t27_1 + 1)))
  else
    (ref24_CheckGraph_k1 g0 sum_1 ())
def ref24_CheckGraph_m (g0 : Graph) : Option Bool :=
  if ((decide ((g0.Supply.length : Int) < 1) || decide (96 < (g0.Supply.length : Int))) || decide (1024 < (g0.Arcs.length : Int))) then
    (some false)
  else
    (iter (ref24_CheckGraph_b1 g0) FUEL (0, 0))
theorem ref24_CheckGraph_spec (S : Soup) (w : World) (g0 : Graph) (r_g0 : GoRep.R Graph) (y : Bool) (hM : ref24_CheckGraph_m g0 = some y) (hS : ∀ k, S k → k < w.heap.size) (h_g0 : GoRep.ok S w r_g0 g0) :
    Calls Try.prog 28 #[.agg #[.slice r_g0.1.a g0.Supply.length r_g0.1.cap, .slice r_g0.2.a g0.Arcs.length r_g0.2.cap]] w (Ret w (.bool y)) := by
  refine calls_cw (args := [_]) Try.func28 rfl ((pre_nil hS).start |>.immP (α := List Int) (r := r_g0.1) (x := g0.Supply) h_g0.1|>.immP (α := List Arc) (r := r_g0.2) (x := g0.Arcs) h_g0.2) rfl ?_
  unfold ref24_CheckGraph_m at hM
  refine cw_seq fun K1 hK1 => ?_
  refine cw_region ?_
  refine ow_cons (st_box (l := [.slice r_g0.1.a g0.Supply.length r_g0.1.cap, .slice r_g0.2.a g0.Arcs.length r_g0.2.cap]) (k := fun b1 => ?_))
  refine ow_ev ev_assign ?_
  refine ow_nil (hK1 _ _ ?_); clear hK1
  refine cw_seq fun K2 hK2 => ?_
  refine cw_region ?_
  refine ow_ev (ev_field_addr 0) ?_
  refine ow_ev (ev_load_own (b := b1)) ?_
  refine ow_ev ev_len ?_
  refine ow_ev ev_assign ?_
  refine ow_nil (hK2 _ _ ?_); clear hK2
  refine cw_seq fun K3 hK3 => ?_
  refine cw_seq fun K4 hK4 => ?_
  refine cw_region ?_
  refine ow_ev ev_move ?_
  refine ow_ev ev_lss ?_
  refine ow_ev ev_move ?_
  refine ow_evg rfl ev_move ?_
  refine ow_evg rfl ev_gtr ?_
  refine ow_ev ev_or ?_
  refine ow_ev ev_move ?_
  refine ow_evg rfl (ev_field_addr 1) ?_
  refine ow_evg rfl (ev_load_own (b := b1)) ?_
  refine ow_evg rfl ev_len ?_
  refine ow_evg rfl ev_gtr ?_
  refine ow_ev ev_or ?_
  refine ow_nil (hK4 _ _ ?_); clear hK4
  refine cw_cond rfl (fun hc2 => ?_) (fun hc2 => ?_)
  ·
    replace hM := (ite_t hc2).symm.trans hM
    refine cw_seq fun K5 hK5 => ?_
    refine cw_region ?_
    refine ow_ev ev_assign ?_
    refine ow_nil (hK5 _ _ ?_); clear hK5
    obtain rfl := some_inj hM
    refine cw_ret (kw_retc1 (fun w hm => ret_of hm rfl))
  ·
    replace hM := (ite_f hc2).symm.trans hM
    refine cw_skip (hK3 _ _ ?_); clear hK3
    refine cw_seq fun K6 hK6 => ?_
    refine cw_region ?_
    refine ow_ev ev_assign ?_
    refine ow_nil (hK6 _ _ ?_); clear hK6
    refine cw_seq fun K7 hK7 => ?_
    refine cw_seq fun K8 hK8 => ?_
    refine cw_region ?_
    refine ow_ev (ev_field_addr 0) ?_
    refine ow_ev (ev_load_own (b := b1)) ?_
    refine ow_have (fun w hm => Kn.len (Kn.imm (α := List Int) (r := r_g0.1) (x := g0.Supply) (by repeat (first | exact Has.head | apply Has.tail))) hm) fun hl3 => ?_
    refine ow_ev ev_len ?_
    refine ow_ev ev_move ?_
    refine ow_nil (hK8 _ _ ?_); clear hK8
    refine cw_block ?_
    refine cw_loop (γ := Nat × (Int × Nat) × Unit) (env := fun (_, (sum_1, t27_1), _) => [(1, .v (.pointer (some ⟨b1, 0, none⟩))), (3, .v (.int .i64 (g0.Supply.length : Int))), (4, .v (.int .i64 sum_1)), (25, .v (.slice r_g0.1.a g0.Supply.length r_g0.1.cap)), (26, .v (.int .i64 (g0.Supply.length : Int))), (27, .v (.int .i64 (t27_1 : Int)))]) (mem := fun (_, (sum_1, t27_1), _) => [imm (α := (List Int)) r_g0.1 g0.Supply, imm (α := (List Arc)) r_g0.2 g0.Arcs, own b1 25 [.slice r_g0.1.a g0.Supply.length r_g0.1.cap, .slice r_g0.2.a g0.Arcs.length r_g0.2.cap]]) (R := fun g => iter (ref24_CheckGraph_b1 g0) g.1 g.2.1 = some y) (μ := fun g => g.1) (FUEL, (0, 0), ()) hM ⟨rfl, rfl, rfl, rfl, rfl, rfl, trivial⟩ (fun w hm => hm.reord) ?_
    clear hM
    intro g hM KL1 hL1
    obtain ⟨nn1, ⟨sum_1, t27_1⟩, ⟨⟩⟩ := g
    dsimp only at hM ⊢
    obtain ⟨nn1, cont1, rfl, hcont1, hM⟩ := iter_open' hM
    dsimp only [ref24_CheckGraph_b1] at hM
    refine cw_seq fun K9 hK9 => ?_
    refine cw_region ?_
    refine ow_ev ev_lss ?_
    refine ow_nil (hK9 _ _ ?_); clear hK9
    refine cw_seq fun K10 hK10 => ?_
    refine cw_cond rfl (fun hc4 => ?_) (fun hc4 => ?_)
    ·
      replace hM := (ite_t hc4).symm.trans hM
      have hc4d := of_decide_eq_true hc4
      refine cw_skip (hK10 _ _ ?_); clear hK10
      refine cw_seq fun K11 hK11 => ?_
      refine cw_block ?_
      refine cw_seq fun K12 hK12 => ?_
      refine cw_region ?_
      obtain ⟨x5, hx6, hM⟩ := bind_some hM
      refine ow_ev (ev_idx (xs := g0.Supply) 1 (Kn.imm (α := List Int) (r := r_g0.1) (x := g0.Supply) (by repeat (first | exact Has.head | apply Has.tail))) (fun hg => let h := idx_some hx6; ⟨h.1, h.2.1⟩)) ?_
      refine ow_ev (ev_ld (i := (t27_1 : Int)) (xs := g0.Supply) (y := x5) 0 (Kn.imm (α := List Int) (r := r_g0.1) (x := g0.Supply) (by repeat (first | exact Has.head | apply Has.tail))) (fun _ => hx6)) ?_
      refine ow_ev ev_assign ?_
      refine ow_nil (hK12 _ _ ?_); clear hK12
      refine cw_seq fun K13 hK13 => ?_
      refine cw_seq fun K14 hK14 => ?_
      refine cw_region ?_
      refine ow_ev ev_move ?_
      refine ow_ev ev_lss ?_
      refine ow_ev ev_move ?_
      refine ow_evg rfl ev_move ?_
      refine ow_evg rfl ev_gtr ?_
      refine ow_ev ev_or ?_
      refine ow_nil (hK14 _ _ ?_); clear hK14
      refine cw_cond rfl (fun hc7 => ?_) (fun hc7 => ?_)
      ·
        replace hM := (ite_t hc7).symm.trans hM
        refine cw_seq fun K15 hK15 => ?_
        refine cw_region ?_
        refine ow_ev ev_assign ?_
        refine ow_nil (hK15 _ _ ?_); clear hK15
        obtain rfl := some_inj hM
        refine cw_ret (kw_retc1 (fun w hm => ret_of hm rfl))
      ·
        replace hM := (ite_f hc7).symm.trans hM
        refine cw_skip (hK13 _ _ ?_); clear hK13
        refine cw_region ?_
        refine ow_ev ev_move ?_
        refine ow_ev ev_move ?_
        obtain ⟨hI8, hM⟩ := chk_some hM
        refine ow_ev (ev_add (hr := fun hg => i64b_I64 hI8)) ?_
        refine ow_ev ev_assign ?_
        refine ow_nil (hK11 _ _ ?_); clear hK11
        refine cw_region ?_
        refine ow_ev (ev_add (hr := fun _ => by unfold I64; omega)) ?_
        refine ow_ev ev_move ?_
        refine ow_nil (hL1 (nn1, ((sum_1 + x5), t27_1 + 1), ()) _ _ (eqc hcont1 hM) (Nat.lt_succ_self _) ⟨rfl, rfl, rfl, rfl, rfl, rfl, trivial⟩ (fun w hm => hm.reord))
    ·
      replace hM := (ite_f hc4).symm.trans hM
      refine cw_exit (hK7 _ _ ?_); clear hK7
      dsimp only [ref24_CheckGraph_k1] at hM
      refine cw_seq fun K16 hK16 => ?_
      refine cw_seq fun K17 hK17 => ?_
      refine cw_region ?_
      refine ow_ev (ev_field_addr 1) ?_
      refine ow_ev (ev_load_own (b := b1)) ?_
      refine ow_have (fun w hm => Kn.len (Kn.imm (α := List Arc) (r := r_g0.2) (x := g0.Arcs) (by repeat (first | exact Has.head | apply Has.tail))) hm) fun hl9 => ?_
      refine ow_ev ev_len ?_
      refine ow_ev ev_move ?_
      refine ow_nil (hK17 _ _ ?_); clear hK17
      refine cw_block ?_
      refine cw_loop (γ := Nat × Nat × Unit) (env := fun (_, t44_2, _) => [(3, .v (.int .i64 (g0.Supply.length : Int))), (4, .v (.int .i64 sum_1)), (42, .v (.slice r_g0.2.a g0.Arcs.length r_g0.2.cap)), (43, .v (.int .i64 (g0.Arcs.length : Int))), (44, .v (.int .i64 (t44_2 : Int)))]) (mem := fun (_, t44_2, _) => [imm (α := (List Arc)) r_g0.2 g0.Arcs]) (R := fun g => iter (ref24_CheckGraph_b2 g0 sum_1) g.1 g.2.1 = some y) (μ := fun g => g.1) (FUEL, 0, ()) hM ⟨rfl, rfl, rfl, rfl, rfl, trivial⟩ (fun w hm => hm.reord) ?_
      clear hM
      intro g hM KL2 hL2
      obtain ⟨nn2, t44_2, ⟨⟩⟩ := g
      dsimp only at hM ⊢
      obtain ⟨nn2, cont2, rfl, hcont2, hM⟩ := iter_open' hM
      dsimp only [ref24_CheckGraph_b2] at hM
      refine cw_seq fun K18 hK18 => ?_
      refine cw_region ?_
      refine ow_ev ev_lss ?_
      refine ow_nil (hK18 _ _ ?_); clear hK18
      refine cw_seq fun K19 hK19 => ?_
      refine cw_cond rfl (fun hc10 => ?_) (fun hc10 => ?_)
      ·
        replace hM := (ite_t hc10).symm.trans hM
        have hc10d := of_decide_eq_true hc10
        refine cw_skip (hK19 _ _ ?_); clear hK19
        refine cw_seq fun K20 hK20 => ?_
        refine cw_block ?_
        refine cw_seq fun K21 hK21 => ?_
        refine cw_region ?_
        obtain ⟨x11, hx12, hM⟩ := bind_some hM
        refine ow_ev (ev_idx (xs := g0.Arcs) 4 (Kn.imm (α := List Arc) (r := r_g0.2) (x := g0.Arcs) (by repeat (first | exact Has.head | apply Has.tail))) (fun hg => let h := idx_some hx12; ⟨h.1, h.2.1⟩)) ?_
        refine ow_ev (ev_lds (m := 4) (i := (t44_2 : Int)) (xs := g0.Arcs) (y := x11) (l := [.int .i64 x11.From, .int .i64 x11.To, .int .i64 x11.Cap, .int .i64 x11.Cost]) 0 (Kn.imm (α := List Arc) (r := r_g0.2) (x := g0.Arcs) (by repeat (first | exact Has.head | apply Has.tail))) (fun _ => hx12)) ?_
        refine ow_cons (st_alloc rfl (k := fun b13 => ?_))
        refine ow_cons (st_store_all (b := b13) (vs := [.int .i64 x11.From, .int .i64 x11.To, .int .i64 x11.Cap, .int .i64 x11.Cost]) (k := ?_))
        refine ow_nil (hK21 _ _ ?_); clear hK21
        refine cw_seq fun K22 hK22 => ?_
        refine cw_region ?_
        refine ow_ev (ev_field_addr 0) ?_
        refine ow_ev (ev_load_own (b := b13)) ?_
        refine ow_ev ev_lss ?_
        refine ow_ev ev_move ?_
        refine ow_evg rfl (ev_field_addr 0) ?_
        refine ow_evg rfl (ev_load_own (b := b13)) ?_
        refine ow_evg rfl ev_move ?_
        refine ow_evg rfl ev_geq ?_
        refine ow_ev ev_or ?_
        refine ow_ev ev_move ?_
        refine ow_evg rfl (ev_field_addr 1) ?_
        refine ow_evg rfl (ev_load_own (b := b13)) ?_
        refine ow_evg rfl ev_lss ?_
        refine ow_ev ev_or ?_
        refine ow_ev ev_move ?_
        refine ow_evg rfl (ev_field_addr 1) ?_
        refine ow_evg rfl (ev_load_own (b := b13)) ?_
        refine ow_evg rfl ev_move ?_
        refine ow_evg rfl ev_geq ?_
        refine ow_ev ev_or ?_
        refine ow_ev ev_move ?_
        refine ow_evg rfl (ev_field_addr 0) ?_
        refine ow_evg rfl (ev_load_own (b := b13)) ?_
        refine ow_evg rfl (ev_field_addr 1) ?_
        refine ow_evg rfl (ev_load_own (b := b13)) ?_
        refine ow_evg rfl ev_eql ?_
        refine ow_ev ev_or ?_
        refine ow_ev ev_move ?_
        refine ow_evg rfl (ev_field_addr 2) ?_
        refine ow_evg rfl (ev_load_own (b := b13)) ?_
        refine ow_evg rfl ev_lss ?_
        refine ow_ev ev_or ?_
        refine ow_ev ev_move ?_
        refine ow_evg rfl (ev_field_addr 2) ?_
        refine ow_evg rfl (ev_load_own (b := b13)) ?_
        refine ow_evg rfl ev_gtr ?_
        refine ow_ev ev_or ?_
        refine ow_ev ev_move ?_
        refine ow_evg rfl (ev_field_addr 3) ?_
        refine ow_evg rfl (ev_load_own (b := b13)) ?_
        refine ow_evg rfl ev_lss ?_
        refine ow_ev ev_or ?_
        refine ow_ev ev_move ?_
        refine ow_evg rfl (ev_field_addr 3) ?_
        refine ow_evg rfl (ev_load_own (b := b13)) ?_
        refine ow_evg rfl ev_gtr ?_
        refine ow_ev ev_or ?_
        refine ow_nil (hK22 _ _ ?_); clear hK22
        refine cw_cond rfl (fun hc14 => ?_) (fun hc14 => ?_)
        ·
          replace hM := (ite_t hc14).symm.trans hM
          refine cw_seq fun K23 hK23 => ?_
          refine cw_region ?_
          refine ow_ev ev_assign ?_
          refine ow_nil (hK23 _ _ ?_); clear hK23
          obtain rfl := some_inj hM
          refine cw_ret (kw_retc1 (fun w hm => ret_of hm rfl))
        ·
          replace hM := (ite_f hc14).symm.trans hM
          refine cw_skip (hK20 _ _ ?_); clear hK20
          refine cw_region ?_
          refine ow_ev (ev_add (hr := fun _ => by unfold I64; omega)) ?_
          refine ow_ev ev_move ?_
          refine ow_nil (hL2 (nn2, (t44_2 + 1), ()) _ _ (eqc hcont2 hM) (Nat.lt_succ_self _) ⟨rfl, rfl, rfl, rfl, rfl, trivial⟩ (fun w hm => hm.reord))
      ·
        replace hM := (ite_f hc10).symm.trans hM
        refine cw_exit (hK16 _ _ ?_); clear hK16
        dsimp only [ref24_CheckGraph_k2] at hM
        refine cw_seq fun K24 hK24 => ?_
        refine cw_region ?_
        refine ow_ev ev_move ?_
        refine ow_ev ev_eql ?_
        refine ow_ev ev_assign ?_
        refine ow_nil (hK24 _ _ ?_); clear hK24
        obtain rfl := some_inj hM
        refine cw_ret (kw_retc1 (fun w hm => ret_of hm rfl))

def keep_Pick_m (v0 : Int) (n0 : Int) : Option Int :=
  chk (decide ((IntKind.u64.wrap n0) ≠ 0)) <|
  some (IntKind.i64.wrap ((IntKind.u64.wrap v0).tmod (IntKind.u64.wrap n0)))
theorem keep_Pick_spec (S : Soup) (w : World) (v0 : Int) (n0 : Int) (y : Int) (hM : keep_Pick_m v0 n0 = some y) (hS : ∀ k, S k → k < w.heap.size)  :
    Calls Try.prog 25 #[.int .i64 v0, .int .i64 n0] w (Ret w (.int .i64 y)) := by
  refine calls_cw (args := [_, _]) Try.func25 rfl ((pre_nil hS).start) rfl ?_
  unfold keep_Pick_m at hM
  refine cw_seq fun K1 hK1 => ?_
  refine cw_region ?_
  refine ow_ev ev_assign ?_
  refine ow_nil (hK1 _ _ ?_); clear hK1
  refine cw_seq fun K2 hK2 => ?_
  refine cw_region ?_
  refine ow_ev ev_move ?_
  refine ow_ev (ev_convert_int .u64) ?_
  refine ow_ev ev_move ?_
  refine ow_ev (ev_convert_int .u64) ?_
  obtain ⟨hI1, hM⟩ := chk_some hM
  refine ow_ev (ev_rem (hq := fun hg => of_decide_eq_true hI1)) ?_
  refine ow_ev (ev_convert_int .i64) ?_
  refine ow_ev ev_assign ?_
  refine ow_nil (hK2 _ _ ?_); clear hK2
  obtain rfl := some_inj hM
  refine cw_ret (kw_retc1 (fun w hm => ret_of hm rfl))

def keep_From_m (l0 : List Int) : Option Keep_Source :=
  some (Keep_Source.mk l0 0)
theorem keep_From_spec (S : Soup) (w : World) (l0 : List Int) (r_l0 : GoRep.R (List Int)) (y : Keep_Source) (hM : keep_From_m l0 = some y) (hS : ∀ k, S k → k < w.heap.size) (h_l0 : GoRep.ok S w r_l0 l0) :
    Calls Try.prog 39 #[.slice r_l0.a l0.length r_l0.cap] w (Post (β := Nat × (GoRep.R (List Int))) S [] (fun g => .pointer (some ⟨g.1, 0, none⟩)) (fun g => [own g.1 99 [.slice g.2.a y.l.length g.2.cap, .int .i64 y.i], imm (α := (List Int)) g.2 y.l]) w) := by
  refine calls_cw (args := [_]) Try.func39 rfl ((pre_nil hS).start |>.immP (α := List Int) (r := r_l0) (x := l0) h_l0) rfl ?_
  unfold keep_From_m at hM
  refine cw_seq fun K1 hK1 => ?_
  refine cw_region ?_
  refine ow_ev ev_assign ?_
  refine ow_nil (hK1 _ _ ?_); clear hK1
  refine cw_seq fun K2 hK2 => ?_
  refine cw_region ?_
  refine ow_ev ev_move ?_
  refine ow_ev (ev_build [.slice r_l0.a l0.length r_l0.cap, .int .i64 0]) ?_
  refine ow_cons (st_box (l := [.slice r_l0.a l0.length r_l0.cap, .int .i64 0]) (k := fun b1 => ?_))
  refine ow_ev ev_assign ?_
  refine ow_nil (hK2 _ _ ?_); clear hK2
  obtain rfl := some_inj hM
  refine cw_ret (kw_retc1 (fun w hm => post_of (b1, r_l0) hm rfl))

def keep_Source_Next_m (s0 : Keep_Source) (n0 : Int) : Option (Int × Int) :=
  if decide ((s0.l.length : Int) ≤ s0.i) then
    (some (0, s0.i))
  else
    (chk (i64b (s0.i + 1)) <|
    chk (i64b ((s0.i + 1) - 1)) <|
    (idx s0.l ((s0.i + 1) - 1)).bind fun x4 =>
    (keep_Pick_m x4 n0).bind fun y6 =>
    some (y6, (s0.i + 1)))
theorem keep_Source_Next_spec (S : Soup) (w : World) (b_s0 : Nat) (s0 : Keep_Source) (r_s0 : GoRep.R Keep_Source) (n0 : Int) (y : Int × Int) (hM : keep_Source_Next_m s0 n0 = some y) (hP : Pre S [own b_s0 99 [.slice r_s0.a s0.l.length r_s0.cap, .int .i64 s0.i]] w) (h_s0_0 : GoRep.ok (α := List Int) S w r_s0 s0.l) :
    Calls Try.prog 40 #[.pointer (some ⟨b_s0, 0, none⟩), .int .i64 n0] w (Post (β := Unit) S [own b_s0 99 [.slice r_s0.a s0.l.length r_s0.cap, .int .i64 s0.i]] (fun g => .int .i64 y.1) (fun g => [own b_s0 99 [.slice r_s0.a s0.l.length r_s0.cap, .int .i64 y.2]]) w) := by
  refine calls_cw (args := [_, _]) Try.func40 rfl (hP.start |>.immP (α := List Int) (r := r_s0) (x := s0.l) h_s0_0) rfl ?_
  unfold keep_Source_Next_m at hM
  refine cw_seq fun K1 hK1 => ?_
  refine cw_region ?_
  refine ow_ev ev_assign ?_
  refine ow_nil (hK1 _ _ ?_); clear hK1
  refine cw_seq fun K2 hK2 => ?_
  refine cw_seq fun K3 hK3 => ?_
  refine cw_region_any _ (List.Sublist.refl _) ?_
  refine aw_ev 0 rfl ev_move ?_
  refine aw_ev 1 rfl ev_nilcheck ?_
  refine aw_ev 2 rfl (ev_field_addr 1) ?_
  refine aw_ev 3 rfl (ev_load_own (b := b_s0)) ?_
  refine aw_ev 4 rfl ev_move ?_
  refine aw_ev 5 rfl ev_nilcheck ?_
  refine aw_ev 6 rfl (ev_field_addr 0) ?_
  refine aw_ev 7 rfl (ev_load_own (b := b_s0)) ?_
  refine aw_ev 8 rfl ev_len ?_
  refine aw_ev 9 rfl ev_geq ?_
  refine aw_done (hK3 _ _ ?_); clear hK3
  refine cw_cond rfl (fun hc1 => ?_) (fun hc1 => ?_)
  ·
    replace hM := (ite_t hc1).symm.trans hM
    refine cw_seq fun K4 hK4 => ?_
    refine cw_region ?_
    refine ow_ev ev_assign ?_
    refine ow_nil (hK4 _ _ ?_); clear hK4
    obtain rfl := some_inj hM
    refine cw_ret (kw_retc1 (fun w hm => post_of () hm rfl))
  ·
    replace hM := (ite_f hc1).symm.trans hM
    refine cw_skip (hK2 _ _ ?_); clear hK2
    refine cw_seq fun K5 hK5 => ?_
    refine cw_region ?_
    refine ow_ev ev_move ?_
    refine ow_ev ev_nilcheck ?_
    refine ow_ev (ev_field_addr 1) ?_
    refine ow_ev (ev_load_own (b := b_s0)) ?_
    obtain ⟨hI2, hM⟩ := chk_some hM
    refine ow_ev (ev_add (hr := fun hg => i64b_I64 hI2)) ?_
    refine ow_ev ev_nilcheck ?_
    refine ow_ev (ev_field_addr 1) ?_
    refine ow_cons (st_store_own (b := b_s0) (l' := [.slice r_s0.a s0.l.length r_s0.cap, .int .i64 (s0.i + 1)]) (k := ?_))
    refine ow_nil (hK5 _ _ ?_); clear hK5
    refine cw_seq fun K6 hK6 => ?_
    refine cw_region_any _ (List.Sublist.refl _) ?_
    refine aw_ev 0 rfl ev_move ?_
    refine aw_ev 1 rfl ev_nilcheck ?_
    refine aw_ev 2 rfl (ev_field_addr 0) ?_
    refine aw_ev 3 rfl (ev_load_own (b := b_s0)) ?_
    refine aw_ev 4 rfl ev_move ?_
    refine aw_ev 5 rfl ev_nilcheck ?_
    refine aw_ev 6 rfl (ev_field_addr 1) ?_
    refine aw_ev 7 rfl (ev_load_own (b := b_s0)) ?_
    obtain ⟨hI3, hM⟩ := chk_some hM
    refine aw_ev 8 rfl (ev_sub (hr := fun hg => i64b_I64 hI3)) ?_
    obtain ⟨x4, hx5, hM⟩ := bind_some hM
    refine aw_ev 9 rfl (ev_idx (xs := s0.l) 1 (Kn.imm (α := List Int) (r := r_s0) (x := s0.l) (by repeat (first | exact Has.head | apply Has.tail))) (fun hg => let h := idx_some hx5; ⟨h.1, h.2.1⟩)) ?_
    refine aw_ev 10 rfl (ev_ld (i := ((s0.i + 1) - 1)) (xs := s0.l) (y := x4) 0 (Kn.imm (α := List Int) (r := r_s0) (x := s0.l) (by repeat (first | exact Has.head | apply Has.tail))) (fun _ => hx5)) ?_
    refine aw_ev 11 rfl ev_move ?_
    obtain ⟨y6, hy7, hM⟩ := bind_some hM
    refine aw_one 12 rfl (st_callv (fun w hm => let ⟨S, hs⟩ := hm; keep_Pick_spec _ w x4 n0 y6 hy7 (lend_lt hs) ) ⟨fun w hm => hm.sub (by repeat (first | exact List.Sublist.refl _ | apply List.Sublist.cons_cons | apply List.Sublist.cons)), ?_⟩)
    refine aw_ev 13 rfl ev_assign ?_
    refine aw_done (hK6 _ _ ?_); clear hK6
    obtain rfl := some_inj hM
    refine cw_ret (kw_retc1 (fun w hm => post_of () hm rfl))

def keep_Same_int_k1 : Unit → Option Bool := fun _ =>
  some true
def keep_Same_int_b1 (a0 : List Int) (b0 : List Int) (cont1 : Nat → Option Bool) : Nat → Option Bool := fun t13_1 =>
  if decide ((t13_1 : Int) < (a0.length : Int)) then
    ((idx a0 (t13_1 : Int)).bind fun x4 =>
    (idx b0 (t13_1 : Int)).bind fun x6 =>
    if decide (x4 ≠ x6) then
      (some false)
    else
      (cont1 (t13_1 + 1)))
  else
    (keep_Same_int_k1 ())
def keep_Same_int_m (a0 : List Int) (b0 : List Int) : Option Bool :=
  if decide ((a0.length : Int) ≠ (b0.length : Int)) then
    (some false)
  else
    (iter (keep_Same_int_b1 a0 b0) FUEL 0)
theorem keep_Same_int_spec (S : Soup) (w : World) (a0 : List Int) (r_a0 : GoRep.R (List Int)) (b0 : List Int) (r_b0 : GoRep.R (List Int)) (y : Bool) (hM : keep_Same_int_m a0 b0 = some y) (hS : ∀ k, S k → k < w.heap.size) (h_a0 : GoRep.ok S w r_a0 a0) (h_b0 : GoRep.ok S w r_b0 b0) :
    Calls Try.prog 60 #[.slice r_a0.a a0.length r_a0.cap, .slice r_b0.a b0.length r_b0.cap] w (Ret w (.bool y)) := by
  refine calls_cw (args := [_, _]) Try.func60 rfl ((pre_nil hS).start |>.immP (α := List Int) (r := r_a0) (x := a0) h_a0|>.immP (α := List Int) (r := r_b0) (x := b0) h_b0) rfl ?_
  unfold keep_Same_int_m at hM
  refine cw_seq fun K1 hK1 => ?_
  refine cw_region ?_
  refine ow_ev ev_assign ?_
  refine ow_nil (hK1 _ _ ?_); clear hK1
  refine cw_seq fun K2 hK2 => ?_
  refine cw_seq fun K3 hK3 => ?_
  refine cw_region ?_
  refine ow_ev ev_move ?_
  refine ow_ev ev_len ?_
  refine ow_ev ev_move ?_
  refine ow_ev ev_len ?_
  refine ow_ev ev_neq ?_
  refine ow_nil (hK3 _ _ ?_); clear hK3
  refine cw_cond rfl (fun hc1 => ?_) (fun hc1 => ?_)
  ·
    replace hM := (ite_t hc1).symm.trans hM
    refine cw_seq fun K4 hK4 => ?_
    refine cw_region ?_
    refine ow_ev ev_assign ?_
    refine ow_nil (hK4 _ _ ?_); clear hK4
    obtain rfl := some_inj hM
    refine cw_ret (kw_retc1 (fun w hm => ret_of hm rfl))
  ·
    replace hM := (ite_f hc1).symm.trans hM
    refine cw_skip (hK2 _ _ ?_); clear hK2
    refine cw_seq fun K5 hK5 => ?_
    refine cw_seq fun K6 hK6 => ?_
    refine cw_region ?_
    refine ow_ev ev_move ?_
    refine ow_have (fun w hm => Kn.len (Kn.imm (α := List Int) (r := r_a0) (x := a0) (by repeat (first | exact Has.head | apply Has.tail))) hm) fun hl2 => ?_
    refine ow_ev ev_len ?_
    refine ow_ev ev_move ?_
    refine ow_nil (hK6 _ _ ?_); clear hK6
    refine cw_block ?_
    refine cw_loop (γ := Nat × Nat × Unit) (env := fun (_, t13_1, _) => [(0, .v (.slice r_a0.a a0.length r_a0.cap)), (1, .v (.slice r_b0.a b0.length r_b0.cap)), (12, .v (.int .i64 (a0.length : Int))), (13, .v (.int .i64 (t13_1 : Int)))]) (mem := fun (_, t13_1, _) => [imm (α := (List Int)) r_a0 a0, imm (α := (List Int)) r_b0 b0]) (R := fun g => iter (keep_Same_int_b1 a0 b0) g.1 g.2.1 = some y) (μ := fun g => g.1) (FUEL, 0, ()) hM ⟨rfl, rfl, rfl, rfl, trivial⟩ (fun w hm => hm.reord) ?_
    clear hM
    intro g hM KL1 hL1
    obtain ⟨nn1, t13_1, ⟨⟩⟩ := g
    dsimp only at hM ⊢
    obtain ⟨nn1, cont1, rfl, hcont1, hM⟩ := iter_open' hM
    dsimp only [keep_Same_int_b1] at hM
    refine cw_seq fun K7 hK7 => ?_
    refine cw_region ?_
    refine ow_ev ev_lss ?_
    refine ow_nil (hK7 _ _ ?_); clear hK7
    refine cw_seq fun K8 hK8 => ?_
    refine cw_cond rfl (fun hc3 => ?_) (fun hc3 => ?_)
    ·
      replace hM := (ite_t hc3).symm.trans hM
      have hc3d := of_decide_eq_true hc3
      refine cw_skip (hK8 _ _ ?_); clear hK8
      refine cw_seq fun K9 hK9 => ?_
      refine cw_block ?_
      refine cw_seq fun K10 hK10 => ?_
      refine cw_region ?_
      refine ow_ev ev_move ?_
      refine ow_ev ev_assign ?_
      refine ow_nil (hK10 _ _ ?_); clear hK10
      refine cw_seq fun K11 hK11 => ?_
      refine cw_region_any _ (List.Sublist.refl _) ?_
      refine aw_ev 0 rfl ev_move ?_
      refine aw_ev 1 rfl ev_move ?_
      obtain ⟨x4, hx5, hM⟩ := bind_some hM
      refine aw_ev 2 rfl (ev_idx (xs := a0) 1 (Kn.imm (α := List Int) (r := r_a0) (x := a0) (by repeat (first | exact Has.head | apply Has.tail))) (fun hg => let h := idx_some hx5; ⟨h.1, h.2.1⟩)) ?_
      refine aw_ev 3 rfl (ev_ld (i := (t13_1 : Int)) (xs := a0) (y := x4) 0 (Kn.imm (α := List Int) (r := r_a0) (x := a0) (by repeat (first | exact Has.head | apply Has.tail))) (fun _ => hx5)) ?_
      refine aw_ev 4 rfl ev_move ?_
      refine aw_ev 5 rfl ev_move ?_
      obtain ⟨x6, hx7, hM⟩ := bind_some hM
      refine aw_ev 6 rfl (ev_idx (xs := b0) 1 (Kn.imm (α := List Int) (r := r_b0) (x := b0) (by repeat (first | exact Has.head | apply Has.tail))) (fun hg => let h := idx_some hx7; ⟨h.1, h.2.1⟩)) ?_
      refine aw_ev 7 rfl (ev_ld (i := (t13_1 : Int)) (xs := b0) (y := x6) 0 (Kn.imm (α := List Int) (r := r_b0) (x := b0) (by repeat (first | exact Has.head | apply Has.tail))) (fun _ => hx7)) ?_
      refine aw_ev 8 rfl ev_neq ?_
      refine aw_done (hK11 _ _ ?_); clear hK11
      refine cw_cond rfl (fun hc8 => ?_) (fun hc8 => ?_)
      ·
        replace hM := (ite_t hc8).symm.trans hM
        refine cw_seq fun K12 hK12 => ?_
        refine cw_region ?_
        refine ow_ev ev_assign ?_
        refine ow_nil (hK12 _ _ ?_); clear hK12
        obtain rfl := some_inj hM
        refine cw_ret (kw_retc1 (fun w hm => ret_of hm rfl))
      ·
        replace hM := (ite_f hc8).symm.trans hM
        refine cw_skip (hK9 _ _ ?_); clear hK9
        refine cw_region ?_
        refine ow_ev (ev_add (hr := fun _ => by unfold I64; omega)) ?_
        refine ow_ev ev_move ?_
        refine ow_nil (hL1 (nn1, (t13_1 + 1), ()) _ _ (eqc hcont1 hM) (Nat.lt_succ_self _) ⟨rfl, rfl, rfl, rfl, trivial⟩ (fun w hm => hm.reord))
    ·
      replace hM := (ite_f hc3).symm.trans hM
      refine cw_exit (hK5 _ _ ?_); clear hK5
      dsimp only [keep_Same_int_k1] at hM
      refine cw_seq fun K13 hK13 => ?_
      refine cw_region ?_
      refine ow_ev ev_assign ?_
      refine ow_nil (hK13 _ _ ?_); clear hK13
      obtain rfl := some_inj hM
      refine cw_ret (kw_retc1 (fun w hm => ret_of hm rfl))

def keep_SameLists_int_k1 : Unit → Option Bool := fun _ =>
  some true
def keep_SameLists_int_b1 (a0 : List (List Int)) (b0 : List (List Int)) (cont1 : Nat → Option Bool) : Nat → Option Bool := fun t13_1 =>
  if decide ((t13_1 : Int) < (a0.length : Int)) then
    ((idx a0 (t13_1 : Int)).bind fun x4 =>
    (idx b0 (t13_1 : Int)).bind fun x6 =>
    (keep_Same_int_m x4 x6).bind fun y8 =>
    if (!y8) then
      (some false)
    else
      (cont1 (t13_1 + 1)))
  else
    (keep_SameLists_int_k1 ())
def keep_SameLists_int_m (a0 : List (List Int)) (b0 : List (List Int)) : Option Bool :=
  if decide ((a0.length : Int) ≠ (b0.length : Int)) then
    (some false)
  else
    (iter (keep_SameLists_int_b1 a0 b0) FUEL 0)
theorem keep_SameLists_int_spec (S : Soup) (w : World) (a0 : List (List Int)) (r_a0 : GoRep.R (List (List Int))) (b0 : List (List Int)) (r_b0 : GoRep.R (List (List Int))) (y : Bool) (hM : keep_SameLists_int_m a0 b0 = some y) (hS : ∀ k, S k → k < w.heap.size) (h_a0 : GoRep.ok S w r_a0 a0) (h_b0 : GoRep.ok S w r_b0 b0) :
    Calls Try.prog 43 #[.slice r_a0.a a0.length r_a0.cap, .slice r_b0.a b0.length r_b0.cap] w (Ret w (.bool y)) := by
  refine calls_cw (args := [_, _]) Try.func43 rfl ((pre_nil hS).start |>.immP (α := List (List Int)) (r := r_a0) (x := a0) h_a0|>.immP (α := List (List Int)) (r := r_b0) (x := b0) h_b0) rfl ?_
  unfold keep_SameLists_int_m at hM
  refine cw_seq fun K1 hK1 => ?_
  refine cw_region ?_
  refine ow_ev ev_assign ?_
  refine ow_nil (hK1 _ _ ?_); clear hK1
  refine cw_seq fun K2 hK2 => ?_
  refine cw_seq fun K3 hK3 => ?_
  refine cw_region ?_
  refine ow_ev ev_move ?_
  refine ow_ev ev_len ?_
  refine ow_ev ev_move ?_
  refine ow_ev ev_len ?_
  refine ow_ev ev_neq ?_
  refine ow_nil (hK3 _ _ ?_); clear hK3
  refine cw_cond rfl (fun hc1 => ?_) (fun hc1 => ?_)
  ·
    replace hM := (ite_t hc1).symm.trans hM
    refine cw_seq fun K4 hK4 => ?_
    refine cw_region ?_
    refine ow_ev ev_assign ?_
    refine ow_nil (hK4 _ _ ?_); clear hK4
    obtain rfl := some_inj hM
    refine cw_ret (kw_retc1 (fun w hm => ret_of hm rfl))
  ·
    replace hM := (ite_f hc1).symm.trans hM
    refine cw_skip (hK2 _ _ ?_); clear hK2
    refine cw_seq fun K5 hK5 => ?_
    refine cw_seq fun K6 hK6 => ?_
    refine cw_region ?_
    refine ow_ev ev_move ?_
    refine ow_have (fun w hm => Kn.len (Kn.imm (α := List (List Int)) (r := r_a0) (x := a0) (by repeat (first | exact Has.head | apply Has.tail))) hm) fun hl2 => ?_
    refine ow_ev ev_len ?_
    refine ow_ev ev_move ?_
    refine ow_nil (hK6 _ _ ?_); clear hK6
    refine cw_block ?_
    refine cw_loop (γ := Nat × Nat × Unit) (env := fun (_, t13_1, _) => [(0, .v (.slice r_a0.a a0.length r_a0.cap)), (1, .v (.slice r_b0.a b0.length r_b0.cap)), (12, .v (.int .i64 (a0.length : Int))), (13, .v (.int .i64 (t13_1 : Int)))]) (mem := fun (_, t13_1, _) => [imm (α := (List (List Int))) r_a0 a0, imm (α := (List (List Int))) r_b0 b0]) (R := fun g => iter (keep_SameLists_int_b1 a0 b0) g.1 g.2.1 = some y) (μ := fun g => g.1) (FUEL, 0, ()) hM ⟨rfl, rfl, rfl, rfl, trivial⟩ (fun w hm => hm.reord) ?_
    clear hM
    intro g hM KL1 hL1
    obtain ⟨nn1, t13_1, ⟨⟩⟩ := g
    dsimp only at hM ⊢
    obtain ⟨nn1, cont1, rfl, hcont1, hM⟩ := iter_open' hM
    dsimp only [keep_SameLists_int_b1] at hM
    refine cw_seq fun K7 hK7 => ?_
    refine cw_region ?_
    refine ow_ev ev_lss ?_
    refine ow_nil (hK7 _ _ ?_); clear hK7
    refine cw_seq fun K8 hK8 => ?_
    refine cw_cond rfl (fun hc3 => ?_) (fun hc3 => ?_)
    ·
      replace hM := (ite_t hc3).symm.trans hM
      have hc3d := of_decide_eq_true hc3
      refine cw_skip (hK8 _ _ ?_); clear hK8
      refine cw_seq fun K9 hK9 => ?_
      refine cw_block ?_
      refine cw_seq fun K10 hK10 => ?_
      refine cw_region ?_
      refine ow_ev ev_move ?_
      refine ow_ev ev_assign ?_
      refine ow_nil (hK10 _ _ ?_); clear hK10
      refine cw_seq fun K11 hK11 => ?_
      refine cw_region_any _ (List.Sublist.refl _) ?_
      refine aw_ev 0 rfl ev_move ?_
      refine aw_ev 1 rfl ev_move ?_
      obtain ⟨x4, hx5, hM⟩ := bind_some hM
      refine aw_ev 2 rfl (ev_idx (xs := a0) 1 (Kn.imm (α := List (List Int)) (r := r_a0) (x := a0) (by repeat (first | exact Has.head | apply Has.tail))) (fun hg => let h := idx_some hx5; ⟨h.1, h.2.1⟩)) ?_
      refine aw_ev 3 rfl (ev_ld (i := (t13_1 : Int)) (xs := a0) (y := x4) 0 (Kn.imm (α := List (List Int)) (r := r_a0) (x := a0) (by repeat (first | exact Has.head | apply Has.tail))) (fun _ => hx5)) ?_
      refine aw_ev 4 rfl ev_move ?_
      refine aw_ev 5 rfl ev_move ?_
      obtain ⟨x6, hx7, hM⟩ := bind_some hM
      refine aw_ev 6 rfl (ev_idx (xs := b0) 1 (Kn.imm (α := List (List Int)) (r := r_b0) (x := b0) (by repeat (first | exact Has.head | apply Has.tail))) (fun hg => let h := idx_some hx7; ⟨h.1, h.2.1⟩)) ?_
      refine aw_ev 7 rfl (ev_ld (i := (t13_1 : Int)) (xs := b0) (y := x6) 0 (Kn.imm (α := List (List Int)) (r := r_b0) (x := b0) (by repeat (first | exact Has.head | apply Has.tail))) (fun _ => hx7)) ?_
      obtain ⟨y8, hy9, hM⟩ := bind_some hM
      refine aw_one 8 rfl (st_callv (fun w hm => let ⟨S, hs⟩ := hm; keep_Same_int_spec _ w x4 (r_a0.es (t13_1 : Int).toNat) x6 (r_b0.es (t13_1 : Int).toNat) y8 hy9 (lend_lt hs) (Kn.lend ((Sk.elem (Sk.imm (α := List (List Int)) (r := r_a0) (x := a0) (by repeat (first | exact Has.head | apply Has.tail))) hx5)).kn hs) (Kn.lend ((Sk.elem (Sk.imm (α := List (List Int)) (r := r_b0) (x := b0) (by repeat (first | exact Has.head | apply Has.tail))) hx7)).kn hs)) ⟨fun w hm => hm.sub (by repeat (first | exact List.Sublist.refl _ | apply List.Sublist.cons_cons | apply List.Sublist.cons)), ?_⟩)
      refine aw_ev 9 rfl ev_not ?_
      refine aw_done (hK11 _ _ ?_); clear hK11
      refine cw_cond rfl (fun hc10 => ?_) (fun hc10 => ?_)
      ·
        replace hM := (ite_t hc10).symm.trans hM
        refine cw_seq fun K12 hK12 => ?_
        refine cw_region ?_
        refine ow_ev ev_assign ?_
        refine ow_nil (hK12 _ _ ?_); clear hK12
        obtain rfl := some_inj hM
        refine cw_ret (kw_retc1 (fun w hm => ret_of hm rfl))
      ·
        replace hM := (ite_f hc10).symm.trans hM
        refine cw_skip (hK9 _ _ ?_); clear hK9
        refine cw_region ?_
        refine ow_ev (ev_add (hr := fun _ => by unfold I64; omega)) ?_
        refine ow_ev ev_move ?_
        refine ow_nil (hL1 (nn1, (t13_1 + 1), ()) _ _ (eqc hcont1 hM) (Nat.lt_succ_self _) ⟨rfl, rfl, rfl, rfl, trivial⟩ (fun w hm => hm.reord))
    ·
      replace hM := (ite_f hc3).symm.trans hM
      refine cw_exit (hK5 _ _ ?_); clear hK5
      dsimp only [keep_SameLists_int_k1] at hM
      refine cw_seq fun K13 hK13 => ?_
      refine cw_region ?_
      refine ow_ev ev_assign ?_
      refine ow_nil (hK13 _ _ ?_); clear hK13
      obtain rfl := some_inj hM
      refine cw_ret (kw_retc1 (fun w hm => ret_of hm rfl))

end Go.Proofs.Ytedocibniankjaa
