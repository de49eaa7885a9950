/- Models of functions, and that the code computes them. -/
import Derived.Test.YtedocibniankjaaFs
namespace Go.Proofs.Ytedocibniankjaa
open Go.Dc Go.RowKit
set_option maxRecDepth 10000
set_option linter.unusedVariables false
def circulation_place_m (n0 : Int) : Option Bool :=
  some (decide (0 ≤ n0) && decide (n0 ≤ 1048576))
theorem circulation_place_spec (S : Soup) (w : World) (n0 : Int) (y : Bool) (hM : circulation_place_m n0 = some y) (hS : ∀ k, S k → k < w.heap.size)  :
    Calls Try.prog 64 #[.int .i64 n0] w (Ret w (.bool y)) := by
  refine calls_cw (args := [_]) Try.func64 rfl ((pre_nil hS).start) rfl ?_
  unfold circulation_place_m at hM
  refine cw_seq fun K1 hK1 => ?_
  refine cw_region ?_
  refine ow_ev ev_assign ?_
  refine ow_nil (hK1 _ _ ?_); clear hK1
  refine cw_seq fun K2 hK2 => ?_
  refine cw_region ?_
  refine ow_ev ev_move ?_
  refine ow_ev ev_geq ?_
  refine ow_ev ev_move ?_
  refine ow_evg rfl ev_move ?_
  refine ow_evg rfl ev_leq ?_
  refine ow_ev ev_and ?_
  refine ow_ev ev_assign ?_
  refine ow_nil (hK2 _ _ ?_); clear hK2
  obtain rfl := some_inj hM
  refine cw_ret (kw_retc1 (fun w hm => ret_of hm rfl))

def circulation_Check_k3 (r0 : Rules) : Unit → Option Bool := fun _ =>
  some (((((decide (0 ≤ r0.Turn) && decide (r0.Turn ≤ 7200)) && decide (0 ≤ r0.Service)) && decide (r0.Service ≤ 86400)) && decide (1 ≤ r0.Limit)) && decide (r0.Limit ≤ 4194304))
def circulation_Check_b3 (r0 : Rules) (cont3 : (Int × Nat) → Option Bool) : (Int × Nat) → Option Bool := fun (last_3, t105_3) =>
  if decide ((t105_3 : Int) < (r0.Shops.length : Int)) then
    ((idx r0.Shops (t105_3 : Int)).bind fun x27 =>
    (whn (!(decide (x27 ≤ last_3))) default (circulation_place_m x27)).bind fun y29 =>
    if (decide (x27 ≤ last_3) || (!y29)) then
      (some false)
    else
      (cont3 (x27, t105_3 + 1)))
  else
    (circulation_Check_k3 r0 ())
def circulation_Check_k2 (r0 : Rules) : Unit → Option Bool := fun _ =>
  iter (circulation_Check_b3 r0) FUEL ((-1), 0)
def circulation_Check_b2 (r0 : Rules) (cont2 : Nat → Option Bool) : Nat → Option Bool := fun t70_2 =>
  if decide ((t70_2 : Int) < (r0.Empties.length : Int)) then
    ((idx r0.Empties (t70_2 : Int)).bind fun x17 =>
    (circulation_place_m x17.From).bind fun y20 =>
    (whn (!(!y20)) default (circulation_place_m x17.To)).bind fun y22 =>
    if (((((!y20) || (!y22)) || decide (x17.From = x17.To)) || decide (x17.Seconds < 1)) || decide (7200 < x17.Seconds)) then
      (some false)
    else
      (cont2 (t70_2 + 1)))
  else
    (circulation_Check_k2 r0 ())
def circulation_Check_k1 (r0 : Rules) : Unit → Option Bool := fun _ =>
  iter (circulation_Check_b2 r0) FUEL 0
def circulation_Check_b1 (tasks0 : List Task) (r0 : Rules) (cont1 : Nat → Option Bool) : Nat → Option Bool := fun t29_1 =>
  if decide ((t29_1 : Int) < (tasks0.length : Int)) then
    ((idx tasks0 (t29_1 : Int)).bind fun x5 =>
    (circulation_place_m x5.Type_).bind fun y8 =>
    (whn (!(!y8)) default (circulation_place_m x5.From)).bind fun y10 =>
    (whn (!((!y8) || (!y10))) default (circulation_place_m x5.To)).bind fun y12 =>
    if ((((((!y8) || (!y10)) || (!y12)) || decide (x5.Start < 0)) || decide (x5.End ≤ x5.Start)) || decide (4194304 < x5.End)) then
      (some false)
    else
      (cont1 (t29_1 + 1)))
  else
    (circulation_Check_k1 r0 ())
def circulation_Check_m (tasks0 : List Task) (r0 : Rules) : Option Bool :=
  if ((decide (40 < (tasks0.length : Int)) || decide (48 < (r0.Empties.length : Int))) || decide (24 < (r0.Shops.length : Int))) then
    (some false)
  else
    (iter (circulation_Check_b1 tasks0 r0) FUEL 0)
theorem circulation_Check_spec (S : Soup) (w : World) (tasks0 : List Task) (r_tasks0 : GoRep.R (List Task)) (r0 : Rules) (r_r0 : GoRep.R Rules) (y : Bool) (hM : circulation_Check_m tasks0 r0 = some y) (hS : ∀ k, S k → k < w.heap.size) (h_tasks0 : GoRep.ok S w r_tasks0 tasks0) (h_r0 : GoRep.ok S w r_r0 r0) :
    Calls Try.prog 34 #[.slice r_tasks0.a tasks0.length r_tasks0.cap, .agg #[.int .i64 r0.Turn, .slice r_r0.1.a r0.Empties.length r_r0.1.cap, .slice r_r0.2.a r0.Shops.length r_r0.2.cap, .int .i64 r0.Service, .int .i64 r0.Limit]] w (Ret w (.bool y)) := by
  refine calls_cw (args := [_, _]) Try.func34 rfl ((pre_nil hS).start |>.immP (α := List Task) (r := r_tasks0) (x := tasks0) h_tasks0|>.immP (α := List EmptyT) (r := r_r0.1) (x := r0.Empties) h_r0.1|>.immP (α := List Int) (r := r_r0.2) (x := r0.Shops) h_r0.2) rfl ?_
  unfold circulation_Check_m at hM
  refine cw_seq fun K1 hK1 => ?_
  refine cw_region ?_
  refine ow_cons (st_box (l := [.int .i64 r0.Turn, .slice r_r0.1.a r0.Empties.length r_r0.1.cap, .slice r_r0.2.a r0.Shops.length r_r0.2.cap, .int .i64 r0.Service, .int .i64 r0.Limit]) (k := fun b1 => ?_))
  refine ow_ev ev_assign ?_
  refine ow_nil (hK1 _ _ ?_); clear hK1
  refine cw_seq fun K2 hK2 => ?_
  refine cw_seq fun K3 hK3 => ?_
  refine cw_region ?_
  refine ow_ev ev_move ?_
  refine ow_ev ev_len ?_
  refine ow_ev ev_gtr ?_
  refine ow_ev ev_move ?_
  refine ow_evg rfl (ev_field_addr 1) ?_
  refine ow_evg rfl (ev_load_own (b := b1)) ?_
  refine ow_evg rfl ev_len ?_
  refine ow_evg rfl ev_gtr ?_
  refine ow_ev ev_or ?_
  refine ow_ev ev_move ?_
  refine ow_evg rfl (ev_field_addr 2) ?_
  refine ow_evg rfl (ev_load_own (b := b1)) ?_
  refine ow_evg rfl ev_len ?_
  refine ow_evg rfl ev_gtr ?_
  refine ow_ev ev_or ?_
  refine ow_nil (hK3 _ _ ?_); clear hK3
  refine cw_cond rfl (fun hc2 => ?_) (fun hc2 => ?_)
  ·
    replace hM := (ite_t hc2).symm.trans hM
    refine cw_seq fun K4 hK4 => ?_
    refine cw_region ?_
    refine ow_ev ev_assign ?_
    refine ow_nil (hK4 _ _ ?_); clear hK4
    obtain rfl := some_inj hM
    refine cw_ret (kw_retc1 (fun w hm => ret_of hm rfl))
  ·
    replace hM := (ite_f hc2).symm.trans hM
    refine cw_skip (hK2 _ _ ?_); clear hK2
    refine cw_seq fun K5 hK5 => ?_
    refine cw_seq fun K6 hK6 => ?_
    refine cw_region ?_
    refine ow_ev ev_move ?_
    refine ow_have (fun w hm => Kn.len (Kn.imm (α := List Task) (r := r_tasks0) (x := tasks0) (by repeat (first | exact Has.head | apply Has.tail))) hm) fun hl3 => ?_
    refine ow_ev ev_len ?_
    refine ow_ev ev_move ?_
    refine ow_nil (hK6 _ _ ?_); clear hK6
    refine cw_block ?_
    refine cw_loop (γ := Nat × Nat × Unit) (env := fun (_, t29_1, _) => [(3, .v (.pointer (some ⟨b1, 0, none⟩))), (27, .v (.slice r_tasks0.a tasks0.length r_tasks0.cap)), (28, .v (.int .i64 (tasks0.length : Int))), (29, .v (.int .i64 (t29_1 : Int)))]) (mem := fun (_, t29_1, _) => [imm (α := (List EmptyT)) r_r0.1 r0.Empties, imm (α := (List Int)) r_r0.2 r0.Shops, own b1 53 [.int .i64 r0.Turn, .slice r_r0.1.a r0.Empties.length r_r0.1.cap, .slice r_r0.2.a r0.Shops.length r_r0.2.cap, .int .i64 r0.Service, .int .i64 r0.Limit], imm (α := (List Task)) r_tasks0 tasks0]) (R := fun g => iter (circulation_Check_b1 tasks0 r0) g.1 g.2.1 = some y) (μ := fun g => g.1) (FUEL, 0, ()) hM ⟨rfl, rfl, rfl, rfl, trivial⟩ (fun w hm => hm.reord) ?_
    clear hM
    intro g hM KL1 hL1
    obtain ⟨nn1, t29_1, ⟨⟩⟩ := g
    dsimp only at hM ⊢
    obtain ⟨nn1, cont1, rfl, hcont1, hM⟩ := iter_open' hM
    dsimp only [circulation_Check_b1] at hM
    refine cw_seq fun K7 hK7 => ?_
    refine cw_region ?_
    refine ow_ev ev_lss ?_
    refine ow_nil (hK7 _ _ ?_); clear hK7
    refine cw_seq fun K8 hK8 => ?_
    refine cw_cond rfl (fun hc4 => ?_) (fun hc4 => ?_)
    ·
      replace hM := (ite_t hc4).symm.trans hM
      have hc4d := of_decide_eq_true hc4
      refine cw_skip (hK8 _ _ ?_); clear hK8
      refine cw_seq fun K9 hK9 => ?_
      refine cw_block ?_
      refine cw_seq fun K10 hK10 => ?_
      refine cw_region ?_
      obtain ⟨x5, hx6, hM⟩ := bind_some hM
      refine ow_ev (ev_idx (xs := tasks0) 5 (Kn.imm (α := List Task) (r := r_tasks0) (x := tasks0) (by repeat (first | exact Has.head | apply Has.tail))) (fun hg => let h := idx_some hx6; ⟨h.1, h.2.1⟩)) ?_
      refine ow_ev (ev_lds (m := 5) (i := (t29_1 : Int)) (xs := tasks0) (y := x5) (l := [.int .i64 x5.Type_, .int .i64 x5.From, .int .i64 x5.To, .int .i64 x5.Start, .int .i64 x5.End]) 0 (Kn.imm (α := List Task) (r := r_tasks0) (x := tasks0) (by repeat (first | exact Has.head | apply Has.tail))) (fun _ => hx6)) ?_
      refine ow_cons (st_alloc rfl (k := fun b7 => ?_))
      refine ow_cons (st_store_all (b := b7) (vs := [.int .i64 x5.Type_, .int .i64 x5.From, .int .i64 x5.To, .int .i64 x5.Start, .int .i64 x5.End]) (k := ?_))
      refine ow_nil (hK10 _ _ ?_); clear hK10
      refine cw_seq fun K11 hK11 => ?_
      refine cw_region ?_
      refine ow_ev (ev_field_addr 0) ?_
      refine ow_ev (ev_load_own (b := b7)) ?_
      obtain ⟨y8, hy9, hM⟩ := bind_some hM
      refine ow_cons (st_callv (fun w hm => let ⟨S, hs⟩ := hm; circulation_place_spec _ w x5.Type_ y8 hy9 (lend_lt hs) ) ?_)
      refine ow_ev ev_not ?_
      refine ow_ev ev_move ?_
      refine ow_evg rfl (ev_field_addr 1) ?_
      refine ow_evg rfl (ev_load_own (b := b7)) ?_
      obtain ⟨y10, hy11, hM⟩ := bind_some hM
      refine ow_callg rfl (fun hg w hm => let ⟨S, hs⟩ := hm; circulation_place_spec _ w x5.From y10 (whn_some hy11 hg) (lend_lt hs) ) ?_
      refine ow_evg rfl ev_not ?_
      refine ow_ev ev_or ?_
      refine ow_ev ev_move ?_
      refine ow_evg rfl (ev_field_addr 2) ?_
      refine ow_evg rfl (ev_load_own (b := b7)) ?_
      obtain ⟨y12, hy13, hM⟩ := bind_some hM
      refine ow_callg rfl (fun hg w hm => let ⟨S, hs⟩ := hm; circulation_place_spec _ w x5.To y12 (whn_some hy13 hg) (lend_lt hs) ) ?_
      refine ow_evg rfl ev_not ?_
      refine ow_ev ev_or ?_
      refine ow_ev ev_move ?_
      refine ow_evg rfl (ev_field_addr 3) ?_
      refine ow_evg rfl (ev_load_own (b := b7)) ?_
      refine ow_evg rfl ev_lss ?_
      refine ow_ev ev_or ?_
      refine ow_ev ev_move ?_
      refine ow_evg rfl (ev_field_addr 3) ?_
      refine ow_evg rfl (ev_load_own (b := b7)) ?_
      refine ow_evg rfl (ev_field_addr 4) ?_
      refine ow_evg rfl (ev_load_own (b := b7)) ?_
      refine ow_evg rfl ev_geq ?_
      refine ow_ev ev_or ?_
      refine ow_ev ev_move ?_
      refine ow_evg rfl (ev_field_addr 4) ?_
      refine ow_evg rfl (ev_load_own (b := b7)) ?_
      refine ow_evg rfl ev_gtr ?_
      refine ow_ev ev_or ?_
      refine ow_nil (hK11 _ _ ?_); clear hK11
      refine cw_cond rfl (fun hc14 => ?_) (fun hc14 => ?_)
      ·
        replace hM := (ite_t hc14).symm.trans hM
        refine cw_seq fun K12 hK12 => ?_
        refine cw_region ?_
        refine ow_ev ev_assign ?_
        refine ow_nil (hK12 _ _ ?_); clear hK12
        obtain rfl := some_inj hM
        refine cw_ret (kw_retc1 (fun w hm => ret_of hm rfl))
      ·
        replace hM := (ite_f hc14).symm.trans hM
        refine cw_skip (hK9 _ _ ?_); clear hK9
        refine cw_region ?_
        refine ow_ev (ev_add (hr := fun _ => by unfold I64; omega)) ?_
        refine ow_ev ev_move ?_
        refine ow_nil (hL1 (nn1, (t29_1 + 1), ()) _ _ (eqc hcont1 hM) (Nat.lt_succ_self _) ⟨rfl, rfl, rfl, rfl, trivial⟩ (fun w hm => hm.reord))
    ·
      replace hM := (ite_f hc4).symm.trans hM
      refine cw_exit (hK5 _ _ ?_); clear hK5
      dsimp only [circulation_Check_k1] at hM
      refine cw_seq fun K13 hK13 => ?_
      refine cw_seq fun K14 hK14 => ?_
      refine cw_region ?_
      refine ow_ev (ev_field_addr 1) ?_
      refine ow_ev (ev_load_own (b := b1)) ?_
      refine ow_have (fun w hm => Kn.len (Kn.imm (α := List EmptyT) (r := r_r0.1) (x := r0.Empties) (by repeat (first | exact Has.head | apply Has.tail))) hm) fun hl15 => ?_
      refine ow_ev ev_len ?_
      refine ow_ev ev_move ?_
      refine ow_nil (hK14 _ _ ?_); clear hK14
      refine cw_block ?_
      refine cw_loop (γ := Nat × Nat × Unit) (env := fun (_, t70_2, _) => [(3, .v (.pointer (some ⟨b1, 0, none⟩))), (68, .v (.slice r_r0.1.a r0.Empties.length r_r0.1.cap)), (69, .v (.int .i64 (r0.Empties.length : Int))), (70, .v (.int .i64 (t70_2 : Int)))]) (mem := fun (_, t70_2, _) => [imm (α := (List EmptyT)) r_r0.1 r0.Empties, imm (α := (List Int)) r_r0.2 r0.Shops, own b1 53 [.int .i64 r0.Turn, .slice r_r0.1.a r0.Empties.length r_r0.1.cap, .slice r_r0.2.a r0.Shops.length r_r0.2.cap, .int .i64 r0.Service, .int .i64 r0.Limit]]) (R := fun g => iter (circulation_Check_b2 r0) g.1 g.2.1 = some y) (μ := fun g => g.1) (FUEL, 0, ()) hM ⟨rfl, rfl, rfl, rfl, trivial⟩ (fun w hm => hm.reord) ?_
      clear hM
      intro g hM KL2 hL2
      obtain ⟨nn2, t70_2, ⟨⟩⟩ := g
      dsimp only at hM ⊢
      obtain ⟨nn2, cont2, rfl, hcont2, hM⟩ := iter_open' hM
      dsimp only [circulation_Check_b2] at hM
      refine cw_seq fun K15 hK15 => ?_
      refine cw_region ?_
      refine ow_ev ev_lss ?_
      refine ow_nil (hK15 _ _ ?_); clear hK15
      refine cw_seq fun K16 hK16 => ?_
      refine cw_cond rfl (fun hc16 => ?_) (fun hc16 => ?_)
      ·
        replace hM := (ite_t hc16).symm.trans hM
        have hc16d := of_decide_eq_true hc16
        refine cw_skip (hK16 _ _ ?_); clear hK16
        refine cw_seq fun K17 hK17 => ?_
        refine cw_block ?_
        refine cw_seq fun K18 hK18 => ?_
        refine cw_region ?_
        obtain ⟨x17, hx18, hM⟩ := bind_some hM
        refine ow_ev (ev_idx (xs := r0.Empties) 3 (Kn.imm (α := List EmptyT) (r := r_r0.1) (x := r0.Empties) (by repeat (first | exact Has.head | apply Has.tail))) (fun hg => let h := idx_some hx18; ⟨h.1, h.2.1⟩)) ?_
        refine ow_ev (ev_lds (m := 3) (i := (t70_2 : Int)) (xs := r0.Empties) (y := x17) (l := [.int .i64 x17.From, .int .i64 x17.To, .int .i64 x17.Seconds]) 0 (Kn.imm (α := List EmptyT) (r := r_r0.1) (x := r0.Empties) (by repeat (first | exact Has.head | apply Has.tail))) (fun _ => hx18)) ?_
        refine ow_cons (st_alloc rfl (k := fun b19 => ?_))
        refine ow_cons (st_store_all (b := b19) (vs := [.int .i64 x17.From, .int .i64 x17.To, .int .i64 x17.Seconds]) (k := ?_))
        refine ow_nil (hK18 _ _ ?_); clear hK18
        refine cw_seq fun K19 hK19 => ?_
        refine cw_region ?_
        refine ow_ev (ev_field_addr 0) ?_
        refine ow_ev (ev_load_own (b := b19)) ?_
        obtain ⟨y20, hy21, hM⟩ := bind_some hM
        refine ow_cons (st_callv (fun w hm => let ⟨S, hs⟩ := hm; circulation_place_spec _ w x17.From y20 hy21 (lend_lt hs) ) ?_)
        refine ow_ev ev_not ?_
        refine ow_ev ev_move ?_
        refine ow_evg rfl (ev_field_addr 1) ?_
        refine ow_evg rfl (ev_load_own (b := b19)) ?_
        obtain ⟨y22, hy23, hM⟩ := bind_some hM
        refine ow_callg rfl (fun hg w hm => let ⟨S, hs⟩ := hm; circulation_place_spec _ w x17.To y22 (whn_some hy23 hg) (lend_lt hs) ) ?_
        refine ow_evg rfl ev_not ?_
        refine ow_ev ev_or ?_
        refine ow_ev ev_move ?_
        refine ow_evg rfl (ev_field_addr 0) ?_
        refine ow_evg rfl (ev_load_own (b := b19)) ?_
        refine ow_evg rfl (ev_field_addr 1) ?_
        refine ow_evg rfl (ev_load_own (b := b19)) ?_
        refine ow_evg rfl ev_eql ?_
        refine ow_ev ev_or ?_
        refine ow_ev ev_move ?_
        refine ow_evg rfl (ev_field_addr 2) ?_
        refine ow_evg rfl (ev_load_own (b := b19)) ?_
        refine ow_evg rfl ev_lss ?_
        refine ow_ev ev_or ?_
        refine ow_ev ev_move ?_
        refine ow_evg rfl (ev_field_addr 2) ?_
        refine ow_evg rfl (ev_load_own (b := b19)) ?_
        refine ow_evg rfl ev_gtr ?_
        refine ow_ev ev_or ?_
        refine ow_nil (hK19 _ _ ?_); clear hK19
        refine cw_cond rfl (fun hc24 => ?_) (fun hc24 => ?_)
        ·
          replace hM := (ite_t hc24).symm.trans hM
          refine cw_seq fun K20 hK20 => ?_
          refine cw_region ?_
          refine ow_ev ev_assign ?_
          refine ow_nil (hK20 _ _ ?_); clear hK20
          obtain rfl := some_inj hM
          refine cw_ret (kw_retc1 (fun w hm => ret_of hm rfl))
        ·
          replace hM := (ite_f hc24).symm.trans hM
          refine cw_skip (hK17 _ _ ?_); clear hK17
          refine cw_region ?_
          refine ow_ev (ev_add (hr := fun _ => by unfold I64; omega)) ?_
          refine ow_ev ev_move ?_
          refine ow_nil (hL2 (nn2, (t70_2 + 1), ()) _ _ (eqc hcont2 hM) (Nat.lt_succ_self _) ⟨rfl, rfl, rfl, rfl, trivial⟩ (fun w hm => hm.reord))
      ·
        replace hM := (ite_f hc16).symm.trans hM
        refine cw_exit (hK13 _ _ ?_); clear hK13
        dsimp only [circulation_Check_k2] at hM
        refine cw_seq fun K21 hK21 => ?_
        refine cw_region ?_
        refine ow_ev ev_assign ?_
        refine ow_nil (hK21 _ _ ?_); clear hK21
        refine cw_seq fun K22 hK22 => ?_
        refine cw_seq fun K23 hK23 => ?_
        refine cw_region ?_
        refine ow_ev (ev_field_addr 2) ?_
        refine ow_ev (ev_load_own (b := b1)) ?_
        refine ow_have (fun w hm => Kn.len (Kn.imm (α := List Int) (r := r_r0.2) (x := r0.Shops) (by repeat (first | exact Has.head | apply Has.tail))) hm) fun hl25 => ?_
        refine ow_ev ev_len ?_
        refine ow_ev ev_move ?_
        refine ow_nil (hK23 _ _ ?_); clear hK23
        refine cw_block ?_
        refine cw_loop (γ := Nat × (Int × Nat) × Unit) (env := fun (_, (last_3, t105_3), _) => [(3, .v (.pointer (some ⟨b1, 0, none⟩))), (9, .v (.int .i64 last_3)), (103, .v (.slice r_r0.2.a r0.Shops.length r_r0.2.cap)), (104, .v (.int .i64 (r0.Shops.length : Int))), (105, .v (.int .i64 (t105_3 : Int)))]) (mem := fun (_, (last_3, t105_3), _) => [imm (α := (List EmptyT)) r_r0.1 r0.Empties, imm (α := (List Int)) r_r0.2 r0.Shops, own b1 53 [.int .i64 r0.Turn, .slice r_r0.1.a r0.Empties.length r_r0.1.cap, .slice r_r0.2.a r0.Shops.length r_r0.2.cap, .int .i64 r0.Service, .int .i64 r0.Limit]]) (R := fun g => iter (circulation_Check_b3 r0) g.1 g.2.1 = some y) (μ := fun g => g.1) (FUEL, ((-1), 0), ()) hM ⟨rfl, rfl, rfl, rfl, rfl, trivial⟩ (fun w hm => hm.reord) ?_
        clear hM
        intro g hM KL3 hL3
        obtain ⟨nn3, ⟨last_3, t105_3⟩, ⟨⟩⟩ := g
        dsimp only at hM ⊢
        obtain ⟨nn3, cont3, rfl, hcont3, hM⟩ := iter_open' hM
        dsimp only [circulation_Check_b3] at hM
        refine cw_seq fun K24 hK24 => ?_
        refine cw_region ?_
        refine ow_ev ev_lss ?_
        refine ow_nil (hK24 _ _ ?_); clear hK24
        refine cw_seq fun K25 hK25 => ?_
        refine cw_cond rfl (fun hc26 => ?_) (fun hc26 => ?_)
        ·
          replace hM := (ite_t hc26).symm.trans hM
          have hc26d := of_decide_eq_true hc26
          refine cw_skip (hK25 _ _ ?_); clear hK25
          refine cw_seq fun K26 hK26 => ?_
          refine cw_block ?_
          refine cw_seq fun K27 hK27 => ?_
          refine cw_region ?_
          obtain ⟨x27, hx28, hM⟩ := bind_some hM
          refine ow_ev (ev_idx (xs := r0.Shops) 1 (Kn.imm (α := List Int) (r := r_r0.2) (x := r0.Shops) (by repeat (first | exact Has.head | apply Has.tail))) (fun hg => let h := idx_some hx28; ⟨h.1, h.2.1⟩)) ?_
          refine ow_ev (ev_ld (i := (t105_3 : Int)) (xs := r0.Shops) (y := x27) 0 (Kn.imm (α := List Int) (r := r_r0.2) (x := r0.Shops) (by repeat (first | exact Has.head | apply Has.tail))) (fun _ => hx28)) ?_
          refine ow_ev ev_assign ?_
          refine ow_nil (hK27 _ _ ?_); clear hK27
          refine cw_seq fun K28 hK28 => ?_
          refine cw_seq fun K29 hK29 => ?_
          refine cw_region ?_
          refine ow_ev ev_move ?_
          refine ow_ev ev_move ?_
          refine ow_ev ev_leq ?_
          refine ow_ev ev_move ?_
          refine ow_evg rfl ev_move ?_
          obtain ⟨y29, hy30, hM⟩ := bind_some hM
          refine ow_callg rfl (fun hg w hm => let ⟨S, hs⟩ := hm; circulation_place_spec _ w x27 y29 (whn_some hy30 hg) (lend_lt hs) ) ?_
          refine ow_evg rfl ev_not ?_
          refine ow_ev ev_or ?_
          refine ow_nil (hK29 _ _ ?_); clear hK29
          refine cw_cond rfl (fun hc31 => ?_) (fun hc31 => ?_)
          ·
            replace hM := (ite_t hc31).symm.trans hM
            refine cw_seq fun K30 hK30 => ?_
            refine cw_region ?_
            refine ow_ev ev_assign ?_
            refine ow_nil (hK30 _ _ ?_); clear hK30
            obtain rfl := some_inj hM
            refine cw_ret (kw_retc1 (fun w hm => ret_of hm rfl))
          ·
            replace hM := (ite_f hc31).symm.trans hM
            refine cw_skip (hK28 _ _ ?_); clear hK28
            refine cw_region ?_
            refine ow_ev ev_move ?_
            refine ow_ev ev_assign ?_
            refine ow_nil (hK26 _ _ ?_); clear hK26
            refine cw_region ?_
            refine ow_ev (ev_add (hr := fun _ => by unfold I64; omega)) ?_
            refine ow_ev ev_move ?_
            refine ow_nil (hL3 (nn3, (x27, t105_3 + 1), ()) _ _ (eqc hcont3 hM) (Nat.lt_succ_self _) ⟨rfl, rfl, rfl, rfl, rfl, trivial⟩ (fun w hm => hm.reord))
        ·
          replace hM := (ite_f hc26).symm.trans hM
          refine cw_exit (hK22 _ _ ?_); clear hK22
          dsimp only [circulation_Check_k3] at hM
          refine cw_seq fun K31 hK31 => ?_
          refine cw_region ?_
          refine ow_ev (ev_field_addr 0) ?_
          refine ow_ev (ev_load_own (b := b1)) ?_
          refine ow_ev ev_geq ?_
          refine ow_ev ev_move ?_
          refine ow_evg rfl (ev_field_addr 0) ?_
          refine ow_evg rfl (ev_load_own (b := b1)) ?_
          refine ow_evg rfl ev_leq ?_
          refine ow_ev ev_and ?_
          refine ow_ev ev_move ?_
          refine ow_evg rfl (ev_field_addr 3) ?_
          refine ow_evg rfl (ev_load_own (b := b1)) ?_
          refine ow_evg rfl ev_geq ?_
          refine ow_ev ev_and ?_
          refine ow_ev ev_move ?_
          refine ow_evg rfl (ev_field_addr 3) ?_
          refine ow_evg rfl (ev_load_own (b := b1)) ?_
          refine ow_evg rfl ev_leq ?_
          refine ow_ev ev_and ?_
          refine ow_ev ev_move ?_
          refine ow_evg rfl (ev_field_addr 4) ?_
          refine ow_evg rfl (ev_load_own (b := b1)) ?_
          refine ow_evg rfl ev_geq ?_
          refine ow_ev ev_and ?_
          refine ow_ev ev_move ?_
          refine ow_evg rfl (ev_field_addr 4) ?_
          refine ow_evg rfl (ev_load_own (b := b1)) ?_
          refine ow_evg rfl ev_leq ?_
          refine ow_ev ev_and ?_
          refine ow_ev ev_assign ?_
          refine ow_nil (hK31 _ _ ?_); clear hK31
          obtain rfl := some_inj hM
          refine cw_ret (kw_retc1 (fun w hm => ret_of hm rfl))

def ref24_CheckTasks_k3 : Unit → Option Bool := fun _ =>
  some true
def ref24_CheckTasks_b3 (r0 : Rules) (cont3 : Nat → Option Bool) : Nat → Option Bool := fun t154_3 =>
  if decide ((t154_3 : Int) < (r0.Shops.length : Int)) then
    ((idx r0.Shops (t154_3 : Int)).bind fun x17 =>
    chk (!((!(decide (x17 < 0) || decide (1048576 < x17))) && decide (0 < (t154_3 : Int))) || i64b ((t154_3 : Int) - 1)) <|
    (whn ((!(decide (x17 < 0) || decide (1048576 < x17))) && decide (0 < (t154_3 : Int))) default (idx r0.Shops ((t154_3 : Int) - 1))).bind fun x20 =>
    if ((decide (x17 < 0) || decide (1048576 < x17)) || (decide (0 < (t154_3 : Int)) && decide (x17 ≤ x20))) then
      (some false)
    else
      (cont3 (t154_3 + 1)))
  else
    (ref24_CheckTasks_k3 ())
def ref24_CheckTasks_k2 (r0 : Rules) : Unit → Option Bool := fun _ =>
  iter (ref24_CheckTasks_b3 r0) FUEL 0
def ref24_CheckTasks_b2 (r0 : Rules) (cont2 : Nat → Option Bool) : Nat → Option Bool := fun t111_2 =>
  if decide ((t111_2 : Int) < (r0.Empties.length : Int)) then
    ((idx r0.Empties (t111_2 : Int)).bind fun x11 =>
    if ((((((decide (x11.From < 0) || decide (1048576 < x11.From)) || decide (x11.To < 0)) || decide (1048576 < x11.To)) || decide (x11.From = x11.To)) || decide (x11.Seconds < 1)) || decide (7200 < x11.Seconds)) then
      (some false)
    else
      (cont2 (t111_2 + 1)))
  else
    (ref24_CheckTasks_k2 r0 ())
def ref24_CheckTasks_k1 (r0 : Rules) : Unit → Option Bool := fun _ =>
  iter (ref24_CheckTasks_b2 r0) FUEL 0
def ref24_CheckTasks_b1 (tasks0 : List Task) (r0 : Rules) (cont1 : Nat → Option Bool) : Nat → Option Bool := fun t58_1 =>
  if decide ((t58_1 : Int) < (tasks0.length : Int)) then
    ((idx tasks0 (t58_1 : Int)).bind fun x5 =>
    if ((((((((decide (x5.Type_ < 0) || decide (1048576 < x5.Type_)) || decide (x5.From < 0)) || decide (1048576 < x5.From)) || decide (x5.To < 0)) || decide (1048576 < x5.To)) || decide (x5.Start < 0)) || decide (x5.End ≤ x5.Start)) || decide (4194304 < x5.End)) then
      (some false)
    else
      (cont1 (t58_1 + 1)))
  else
    (ref24_CheckTasks_k1 r0 ())
def ref24_CheckTasks_m (tasks0 : List Task) (r0 : Rules) : Option Bool :=
  if ((((((((decide (40 < (tasks0.length : Int)) || decide (r0.Turn < 0)) || decide (7200 < r0.Turn)) || decide (48 < (r0.Empties.length : Int))) || decide (24 < (r0.Shops.length : Int))) || decide (r0.Service < 0)) || decide (86400 < r0.Service)) || decide (r0.Limit < 1)) || decide (4194304 < r0.Limit)) then
    (some false)
  else
    (iter (ref24_CheckTasks_b1 tasks0 r0) FUEL 0)
theorem ref24_CheckTasks_spec (S : Soup) (w : World) (tasks0 : List Task) (r_tasks0 : GoRep.R (List Task)) (r0 : Rules) (r_r0 : GoRep.R Rules) (y : Bool) (hM : ref24_CheckTasks_m tasks0 r0 = some y) (hS : ∀ k, S k → k < w.heap.size) (h_tasks0 : GoRep.ok S w r_tasks0 tasks0) (h_r0 : GoRep.ok S w r_r0 r0) :
    Calls Try.prog 36 #[.slice r_tasks0.a tasks0.length r_tasks0.cap, .agg #[.int .i64 r0.Turn, .slice r_r0.1.a r0.Empties.length r_r0.1.cap, .slice r_r0.2.a r0.Shops.length r_r0.2.cap, .int .i64 r0.Service, .int .i64 r0.Limit]] w (Ret w (.bool y)) := by
  refine calls_cw (args := [_, _]) Try.func36 rfl ((pre_nil hS).start |>.immP (α := List Task) (r := r_tasks0) (x := tasks0) h_tasks0|>.immP (α := List EmptyT) (r := r_r0.1) (x := r0.Empties) h_r0.1|>.immP (α := List Int) (r := r_r0.2) (x := r0.Shops) h_r0.2) rfl ?_
  unfold ref24_CheckTasks_m at hM
  refine cw_seq fun K1 hK1 => ?_
  refine cw_region ?_
  refine ow_cons (st_box (l := [.int .i64 r0.Turn, .slice r_r0.1.a r0.Empties.length r_r0.1.cap, .slice r_r0.2.a r0.Shops.length r_r0.2.cap, .int .i64 r0.Service, .int .i64 r0.Limit]) (k := fun b1 => ?_))
  refine ow_ev ev_assign ?_
  refine ow_nil (hK1 _ _ ?_); clear hK1
  refine cw_seq fun K2 hK2 => ?_
  refine cw_seq fun K3 hK3 => ?_
  refine cw_region ?_
  refine ow_ev ev_move ?_
  refine ow_ev ev_len ?_
  refine ow_ev ev_gtr ?_
  refine ow_ev ev_move ?_
  refine ow_evg rfl (ev_field_addr 0) ?_
  refine ow_evg rfl (ev_load_own (b := b1)) ?_
  refine ow_evg rfl ev_lss ?_
  refine ow_ev ev_or ?_
  refine ow_ev ev_move ?_
  refine ow_evg rfl (ev_field_addr 0) ?_
  refine ow_evg rfl (ev_load_own (b := b1)) ?_
  refine ow_evg rfl ev_gtr ?_
  refine ow_ev ev_or ?_
  refine ow_ev ev_move ?_
  refine ow_evg rfl (ev_field_addr 1) ?_
  refine ow_evg rfl (ev_load_own (b := b1)) ?_
  refine ow_evg rfl ev_len ?_
  refine ow_evg rfl ev_gtr ?_
  refine ow_ev ev_or ?_
  refine ow_ev ev_move ?_
  refine ow_evg rfl (ev_field_addr 2) ?_
  refine ow_evg rfl (ev_load_own (b := b1)) ?_
  refine ow_evg rfl ev_len ?_
  refine ow_evg rfl ev_gtr ?_
  refine ow_ev ev_or ?_
  refine ow_ev ev_move ?_
  refine ow_evg rfl (ev_field_addr 3) ?_
  refine ow_evg rfl (ev_load_own (b := b1)) ?_
  refine ow_evg rfl ev_lss ?_
  refine ow_ev ev_or ?_
  refine ow_ev ev_move ?_
  refine ow_evg rfl (ev_field_addr 3) ?_
  refine ow_evg rfl (ev_load_own (b := b1)) ?_
  refine ow_evg rfl ev_gtr ?_
  refine ow_ev ev_or ?_
  refine ow_ev ev_move ?_
  refine ow_evg rfl (ev_field_addr 4) ?_
  refine ow_evg rfl (ev_load_own (b := b1)) ?_
  refine ow_evg rfl ev_lss ?_
  refine ow_ev ev_or ?_
  refine ow_ev ev_move ?_
  refine ow_evg rfl (ev_field_addr 4) ?_
  refine ow_evg rfl (ev_load_own (b := b1)) ?_
  refine ow_evg rfl ev_gtr ?_
  refine ow_ev ev_or ?_
  refine ow_nil (hK3 _ _ ?_); clear hK3
  refine cw_cond rfl (fun hc2 => ?_) (fun hc2 => ?_)
  ·
    replace hM := (ite_t hc2).symm.trans hM
    refine cw_seq fun K4 hK4 => ?_
    refine cw_region ?_
    refine ow_ev ev_assign ?_
    refine ow_nil (hK4 _ _ ?_); clear hK4
    obtain rfl := some_inj hM
    refine cw_ret (kw_retc1 (fun w hm => ret_of hm rfl))
  ·
    replace hM := (ite_f hc2).symm.trans hM
    refine cw_skip (hK2 _ _ ?_); clear hK2
    refine cw_seq fun K5 hK5 => ?_
    refine cw_seq fun K6 hK6 => ?_
    refine cw_region ?_
    refine ow_ev ev_move ?_
    refine ow_have (fun w hm => Kn.len (Kn.imm (α := List Task) (r := r_tasks0) (x := tasks0) (by repeat (first | exact Has.head | apply Has.tail))) hm) fun hl3 => ?_
    refine ow_ev ev_len ?_
    refine ow_ev ev_move ?_
    refine ow_nil (hK6 _ _ ?_); clear hK6
    refine cw_block ?_
    refine cw_loop (γ := Nat × Nat × Unit) (env := fun (_, t58_1, _) => [(3, .v (.pointer (some ⟨b1, 0, none⟩))), (56, .v (.slice r_tasks0.a tasks0.length r_tasks0.cap)), (57, .v (.int .i64 (tasks0.length : Int))), (58, .v (.int .i64 (t58_1 : Int)))]) (mem := fun (_, t58_1, _) => [imm (α := (List EmptyT)) r_r0.1 r0.Empties, imm (α := (List Int)) r_r0.2 r0.Shops, own b1 53 [.int .i64 r0.Turn, .slice r_r0.1.a r0.Empties.length r_r0.1.cap, .slice r_r0.2.a r0.Shops.length r_r0.2.cap, .int .i64 r0.Service, .int .i64 r0.Limit], imm (α := (List Task)) r_tasks0 tasks0]) (R := fun g => iter (ref24_CheckTasks_b1 tasks0 r0) g.1 g.2.1 = some y) (μ := fun g => g.1) (FUEL, 0, ()) hM ⟨rfl, rfl, rfl, rfl, trivial⟩ (fun w hm => hm.reord) ?_
    clear hM
    intro g hM KL1 hL1
    obtain ⟨nn1, t58_1, ⟨⟩⟩ := g
    dsimp only at hM ⊢
    obtain ⟨nn1, cont1, rfl, hcont1, hM⟩ := iter_open' hM
    dsimp only [ref24_CheckTasks_b1] at hM
    refine cw_seq fun K7 hK7 => ?_
    refine cw_region ?_
    refine ow_ev ev_lss ?_
    refine ow_nil (hK7 _ _ ?_); clear hK7
    refine cw_seq fun K8 hK8 => ?_
    refine cw_cond rfl (fun hc4 => ?_) (fun hc4 => ?_)
    ·
      replace hM := (ite_t hc4).symm.trans hM
      have hc4d := of_decide_eq_true hc4
      refine cw_skip (hK8 _ _ ?_); clear hK8
      refine cw_seq fun K9 hK9 => ?_
      refine cw_block ?_
      refine cw_seq fun K10 hK10 => ?_
      refine cw_region ?_
      obtain ⟨x5, hx6, hM⟩ := bind_some hM
      refine ow_ev (ev_idx (xs := tasks0) 5 (Kn.imm (α := List Task) (r := r_tasks0) (x := tasks0) (by repeat (first | exact Has.head | apply Has.tail))) (fun hg => let h := idx_some hx6; ⟨h.1, h.2.1⟩)) ?_
      refine ow_ev (ev_lds (m := 5) (i := (t58_1 : Int)) (xs := tasks0) (y := x5) (l := [.int .i64 x5.Type_, .int .i64 x5.From, .int .i64 x5.To, .int .i64 x5.Start, .int .i64 x5.End]) 0 (Kn.imm (α := List Task) (r := r_tasks0) (x := tasks0) (by repeat (first | exact Has.head | apply Has.tail))) (fun _ => hx6)) ?_
      refine ow_cons (st_alloc rfl (k := fun b7 => ?_))
      refine ow_cons (st_store_all (b := b7) (vs := [.int .i64 x5.Type_, .int .i64 x5.From, .int .i64 x5.To, .int .i64 x5.Start, .int .i64 x5.End]) (k := ?_))
      refine ow_nil (hK10 _ _ ?_); clear hK10
      refine cw_seq fun K11 hK11 => ?_
      refine cw_region ?_
      refine ow_ev (ev_field_addr 0) ?_
      refine ow_ev (ev_load_own (b := b7)) ?_
      refine ow_ev ev_lss ?_
      refine ow_ev ev_move ?_
      refine ow_evg rfl (ev_field_addr 0) ?_
      refine ow_evg rfl (ev_load_own (b := b7)) ?_
      refine ow_evg rfl ev_gtr ?_
      refine ow_ev ev_or ?_
      refine ow_ev ev_move ?_
      refine ow_evg rfl (ev_field_addr 1) ?_
      refine ow_evg rfl (ev_load_own (b := b7)) ?_
      refine ow_evg rfl ev_lss ?_
      refine ow_ev ev_or ?_
      refine ow_ev ev_move ?_
      refine ow_evg rfl (ev_field_addr 1) ?_
      refine ow_evg rfl (ev_load_own (b := b7)) ?_
      refine ow_evg rfl ev_gtr ?_
      refine ow_ev ev_or ?_
      refine ow_ev ev_move ?_
      refine ow_evg rfl (ev_field_addr 2) ?_
      refine ow_evg rfl (ev_load_own (b := b7)) ?_
      refine ow_evg rfl ev_lss ?_
      refine ow_ev ev_or ?_
      refine ow_ev ev_move ?_
      refine ow_evg rfl (ev_field_addr 2) ?_
      refine ow_evg rfl (ev_load_own (b := b7)) ?_
      refine ow_evg rfl ev_gtr ?_
      refine ow_ev ev_or ?_
      refine ow_ev ev_move ?_
      refine ow_evg rfl (ev_field_addr 3) ?_
      refine ow_evg rfl (ev_load_own (b := b7)) ?_
      refine ow_evg rfl ev_lss ?_
      refine ow_ev ev_or ?_
      refine ow_ev ev_move ?_
      refine ow_evg rfl (ev_field_addr 4) ?_
      refine ow_evg rfl (ev_load_own (b := b7)) ?_
      refine ow_evg rfl (ev_field_addr 3) ?_
      refine ow_evg rfl (ev_load_own (b := b7)) ?_
      refine ow_evg rfl ev_leq ?_
      refine ow_ev ev_or ?_
      refine ow_ev ev_move ?_
      refine ow_evg rfl (ev_field_addr 4) ?_
      refine ow_evg rfl (ev_load_own (b := b7)) ?_
      refine ow_evg rfl ev_gtr ?_
      refine ow_ev ev_or ?_
      refine ow_nil (hK11 _ _ ?_); clear hK11
      refine cw_cond rfl (fun hc8 => ?_) (fun hc8 => ?_)
      ·
        replace hM := (ite_t hc8).symm.trans hM
        refine cw_seq fun K12 hK12 => ?_
        refine cw_region ?_
        refine ow_ev ev_assign ?_
        refine ow_nil (hK12 _ _ ?_); clear hK12
        obtain rfl := some_inj hM
        refine cw_ret (kw_retc1 (fun w hm => ret_of hm rfl))
      ·
        replace hM := (ite_f hc8).symm.trans hM
        refine cw_skip (hK9 _ _ ?_); clear hK9
        refine cw_region ?_
        refine ow_ev (ev_add (hr := fun _ => by unfold I64; omega)) ?_
        refine ow_ev ev_move ?_
        refine ow_nil (hL1 (nn1, (t58_1 + 1), ()) _ _ (eqc hcont1 hM) (Nat.lt_succ_self _) ⟨rfl, rfl, rfl, rfl, trivial⟩ (fun w hm => hm.reord))
    ·
      replace hM := (ite_f hc4).symm.trans hM
      refine cw_exit (hK5 _ _ ?_); clear hK5
      dsimp only [ref24_CheckTasks_k1] at hM
      refine cw_seq fun K13 hK13 => ?_
      refine cw_seq fun K14 hK14 => ?_
      refine cw_region ?_
      refine ow_ev (ev_field_addr 1) ?_
      refine ow_ev (ev_load_own (b := b1)) ?_
      refine ow_have (fun w hm => Kn.len (Kn.imm (α := List EmptyT) (r := r_r0.1) (x := r0.Empties) (by repeat (first | exact Has.head | apply Has.tail))) hm) fun hl9 => ?_
      refine ow_ev ev_len ?_
      refine ow_ev ev_move ?_
      refine ow_nil (hK14 _ _ ?_); clear hK14
      refine cw_block ?_
      refine cw_loop (γ := Nat × Nat × Unit) (env := fun (_, t111_2, _) => [(3, .v (.pointer (some ⟨b1, 0, none⟩))), (109, .v (.slice r_r0.1.a r0.Empties.length r_r0.1.cap)), (110, .v (.int .i64 (r0.Empties.length : Int))), (111, .v (.int .i64 (t111_2 : Int)))]) (mem := fun (_, t111_2, _) => [imm (α := (List EmptyT)) r_r0.1 r0.Empties, imm (α := (List Int)) r_r0.2 r0.Shops, own b1 53 [.int .i64 r0.Turn, .slice r_r0.1.a r0.Empties.length r_r0.1.cap, .slice r_r0.2.a r0.Shops.length r_r0.2.cap, .int .i64 r0.Service, .int .i64 r0.Limit]]) (R := fun g => iter (ref24_CheckTasks_b2 r0) g.1 g.2.1 = some y) (μ := fun g => g.1) (FUEL, 0, ()) hM ⟨rfl, rfl, rfl, rfl, trivial⟩ (fun w hm => hm.reord) ?_
      clear hM
      intro g hM KL2 hL2
      obtain ⟨nn2, t111_2, ⟨⟩⟩ := g
      dsimp only at hM ⊢
      obtain ⟨nn2, cont2, rfl, hcont2, hM⟩ := iter_open' hM
      dsimp only [ref24_CheckTasks_b2] at hM
      refine cw_seq fun K15 hK15 => ?_
      refine cw_region ?_
      refine ow_ev ev_lss ?_
      refine ow_nil (hK15 _ _ ?_); clear hK15
      refine cw_seq fun K16 hK16 => ?_
      refine cw_cond rfl (fun hc10 => ?_) (fun hc10 => ?_)
      ·
        replace hM := (ite_t hc10).symm.trans hM
        have hc10d := of_decide_eq_true hc10
        refine cw_skip (hK16 _ _ ?_); clear hK16
        refine cw_seq fun K17 hK17 => ?_
        refine cw_block ?_
        refine cw_seq fun K18 hK18 => ?_
        refine cw_region ?_
        obtain ⟨x11, hx12, hM⟩ := bind_some hM
        refine ow_ev (ev_idx (xs := r0.Empties) 3 (Kn.imm (α := List EmptyT) (r := r_r0.1) (x := r0.Empties) (by repeat (first | exact Has.head | apply Has.tail))) (fun hg => let h := idx_some hx12; ⟨h.1, h.2.1⟩)) ?_
        refine ow_ev (ev_lds (m := 3) (i := (t111_2 : Int)) (xs := r0.Empties) (y := x11) (l := [.int .i64 x11.From, .int .i64 x11.To, .int .i64 x11.Seconds]) 0 (Kn.imm (α := List EmptyT) (r := r_r0.1) (x := r0.Empties) (by repeat (first | exact Has.head | apply Has.tail))) (fun _ => hx12)) ?_
        refine ow_cons (st_alloc rfl (k := fun b13 => ?_))
        refine ow_cons (st_store_all (b := b13) (vs := [.int .i64 x11.From, .int .i64 x11.To, .int .i64 x11.Seconds]) (k := ?_))
        refine ow_nil (hK18 _ _ ?_); clear hK18
        refine cw_seq fun K19 hK19 => ?_
        refine cw_region ?_
        refine ow_ev (ev_field_addr 0) ?_
        refine ow_ev (ev_load_own (b := b13)) ?_
        refine ow_ev ev_lss ?_
        refine ow_ev ev_move ?_
        refine ow_evg rfl (ev_field_addr 0) ?_
        refine ow_evg rfl (ev_load_own (b := b13)) ?_
        refine ow_evg rfl ev_gtr ?_
        refine ow_ev ev_or ?_
        refine ow_ev ev_move ?_
        refine ow_evg rfl (ev_field_addr 1) ?_
        refine ow_evg rfl (ev_load_own (b := b13)) ?_
        refine ow_evg rfl ev_lss ?_
        refine ow_ev ev_or ?_
        refine ow_ev ev_move ?_
        refine ow_evg rfl (ev_field_addr 1) ?_
        refine ow_evg rfl (ev_load_own (b := b13)) ?_
        refine ow_evg rfl ev_gtr ?_
        refine ow_ev ev_or ?_
        refine ow_ev ev_move ?_
        refine ow_evg rfl (ev_field_addr 0) ?_
        refine ow_evg rfl (ev_load_own (b := b13)) ?_
        refine ow_evg rfl (ev_field_addr 1) ?_
        refine ow_evg rfl (ev_load_own (b := b13)) ?_
        refine ow_evg rfl ev_eql ?_
        refine ow_ev ev_or ?_
        refine ow_ev ev_move ?_
        refine ow_evg rfl (ev_field_addr 2) ?_
        refine ow_evg rfl (ev_load_own (b := b13)) ?_
        refine ow_evg rfl ev_lss ?_
        refine ow_ev ev_or ?_
        refine ow_ev ev_move ?_
        refine ow_evg rfl (ev_field_addr 2) ?_
        refine ow_evg rfl (ev_load_own (b := b13)) ?_
        refine ow_evg rfl ev_gtr ?_
        refine ow_ev ev_or ?_
        refine ow_nil (hK19 _ _ ?_); clear hK19
        refine cw_cond rfl (fun hc14 => ?_) (fun hc14 => ?_)
        ·
          replace hM := (ite_t hc14).symm.trans hM
          refine cw_seq fun K20 hK20 => ?_
          refine cw_region ?_
          refine ow_ev ev_assign ?_
          refine ow_nil (hK20 _ _ ?_); clear hK20
          obtain rfl := some_inj hM
          refine cw_ret (kw_retc1 (fun w hm => ret_of hm rfl))
        ·
          replace hM := (ite_f hc14).symm.trans hM
          refine cw_skip (hK17 _ _ ?_); clear hK17
          refine cw_region ?_
          refine ow_ev (ev_add (hr := fun _ => by unfold I64; omega)) ?_
          refine ow_ev ev_move ?_
          refine ow_nil (hL2 (nn2, (t111_2 + 1), ()) _ _ (eqc hcont2 hM) (Nat.lt_succ_self _) ⟨rfl, rfl, rfl, rfl, trivial⟩ (fun w hm => hm.reord))
      ·
        replace hM := (ite_f hc10).symm.trans hM
        refine cw_exit (hK13 _ _ ?_); clear hK13
        dsimp only [ref24_CheckTasks_k2] at hM
        refine cw_seq fun K21 hK21 => ?_
        refine cw_seq fun K22 hK22 => ?_
        refine cw_region ?_
        refine ow_ev (ev_field_addr 2) ?_
        refine ow_ev (ev_load_own (b := b1)) ?_
        refine ow_have (fun w hm => Kn.len (Kn.imm (α := List Int) (r := r_r0.2) (x := r0.Shops) (by repeat (first | exact Has.head | apply Has.tail))) hm) fun hl15 => ?_
        refine ow_ev ev_len ?_
        refine ow_ev ev_move ?_
        refine ow_nil (hK22 _ _ ?_); clear hK22
        refine cw_block ?_
        refine cw_loop (γ := Nat × Nat × Unit) (env := fun (_, t154_3, _) => [(3, .v (.pointer (some ⟨b1, 0, none⟩))), (152, .v (.slice r_r0.2.a r0.Shops.length r_r0.2.cap)), (153, .v (.int .i64 (r0.Shops.length : Int))), (154, .v (.int .i64 (t154_3 : Int)))]) (mem := fun (_, t154_3, _) => [imm (α := (List EmptyT)) r_r0.1 r0.Empties, imm (α := (List Int)) r_r0.2 r0.Shops, own b1 53 [.int .i64 r0.Turn, .slice r_r0.1.a r0.Empties.length r_r0.1.cap, .slice r_r0.2.a r0.Shops.length r_r0.2.cap, .int .i64 r0.Service, .int .i64 r0.Limit]]) (R := fun g => iter (ref24_CheckTasks_b3 r0) g.1 g.2.1 = some y) (μ := fun g => g.1) (FUEL, 0, ()) hM ⟨rfl, rfl, rfl, rfl, trivial⟩ (fun w hm => hm.reord) ?_
        clear hM
        intro g hM KL3 hL3
        obtain ⟨nn3, t154_3, ⟨⟩⟩ := g
        dsimp only at hM ⊢
        obtain ⟨nn3, cont3, rfl, hcont3, hM⟩ := iter_open' hM
        dsimp only [ref24_CheckTasks_b3] at hM
        refine cw_seq fun K23 hK23 => ?_
        refine cw_region ?_
        refine ow_ev ev_lss ?_
        refine ow_nil (hK23 _ _ ?_); clear hK23
        refine cw_seq fun K24 hK24 => ?_
        refine cw_cond rfl (fun hc16 => ?_) (fun hc16 => ?_)
        ·
          replace hM := (ite_t hc16).symm.trans hM
          have hc16d := of_decide_eq_true hc16
          refine cw_skip (hK24 _ _ ?_); clear hK24
          refine cw_seq fun K25 hK25 => ?_
          refine cw_block ?_
          refine cw_seq fun K26 hK26 => ?_
          refine cw_region ?_
          refine ow_ev ev_move ?_
          obtain ⟨x17, hx18, hM⟩ := bind_some hM
          refine ow_ev (ev_idx (xs := r0.Shops) 1 (Kn.imm (α := List Int) (r := r_r0.2) (x := r0.Shops) (by repeat (first | exact Has.head | apply Has.tail))) (fun hg => let h := idx_some hx18; ⟨h.1, h.2.1⟩)) ?_
          refine ow_ev (ev_ld (i := (t154_3 : Int)) (xs := r0.Shops) (y := x17) 0 (Kn.imm (α := List Int) (r := r_r0.2) (x := r0.Shops) (by repeat (first | exact Has.head | apply Has.tail))) (fun _ => hx18)) ?_
          refine ow_ev ev_assign ?_
          refine ow_ev ev_assign ?_
          refine ow_nil (hK26 _ _ ?_); clear hK26
          refine cw_seq fun K27 hK27 => ?_
          refine cw_region ?_
          refine ow_ev ev_move ?_
          refine ow_ev ev_lss ?_
          refine ow_ev ev_move ?_
          refine ow_evg rfl ev_move ?_
          refine ow_evg rfl ev_gtr ?_
          refine ow_ev ev_or ?_
          refine ow_ev ev_move ?_
          refine ow_evg rfl ev_move ?_
          refine ow_evg rfl ev_gtr ?_
          refine ow_evg rfl ev_move ?_
          refine ow_evg rfl ev_move ?_
          refine ow_evg rfl (ev_field_addr 2) ?_
          refine ow_evg rfl (ev_load_own (b := b1)) ?_
          refine ow_evg rfl ev_move ?_
          obtain ⟨hI19, hM⟩ := chk_some hM
          refine ow_evg rfl (ev_sub (hr := fun hg => i64b_I64 (gor hI19 hg))) ?_
          obtain ⟨x20, hx21, hM⟩ := bind_some hM
          refine ow_evg rfl (ev_idx (xs := r0.Shops) 1 (Kn.imm (α := List Int) (r := r_r0.2) (x := r0.Shops) (by repeat (first | exact Has.head | apply Has.tail))) (fun hg => let h := idx_some (whn_some hx21 hg); ⟨h.1, h.2.1⟩)) ?_
          refine ow_evg rfl (ev_ld (i := ((t154_3 : Int) - 1)) (xs := r0.Shops) (y := x20) 0 (Kn.imm (α := List Int) (r := r_r0.2) (x := r0.Shops) (by repeat (first | exact Has.head | apply Has.tail))) (fun hg => whn_some hx21 hg)) ?_
          refine ow_evg rfl ev_leq ?_
          refine ow_evg rfl ev_and ?_
          refine ow_ev ev_or ?_
          refine ow_nil (hK27 _ _ ?_); clear hK27
          refine cw_cond rfl (fun hc22 => ?_) (fun hc22 => ?_)
          ·
            replace hM := (ite_t hc22).symm.trans hM
            refine cw_seq fun K28 hK28 => ?_
            refine cw_region ?_
            refine ow_ev ev_assign ?_
            refine ow_nil (hK28 _ _ ?_); clear hK28
            obtain rfl := some_inj hM
            refine cw_ret (kw_retc1 (fun w hm => ret_of hm rfl))
          ·
            replace hM := (ite_f hc22).symm.trans hM
            refine cw_skip (hK25 _ _ ?_); clear hK25
            refine cw_region ?_
            refine ow_ev (ev_add (hr := fun _ => by unfold I64; omega)) ?_
            refine ow_ev ev_move ?_
            refine ow_nil (hL3 (nn3, (t154_3 + 1), ()) _ _ (eqc hcont3 hM) (Nat.lt_succ_self _) ⟨rfl, rfl, rfl, rfl, trivial⟩ (fun w hm => hm.reord))
        ·
          replace hM := (ite_f hc16).symm.trans hM
          refine cw_exit (hK21 _ _ ?_); clear hK21
          dsimp only [ref24_CheckTasks_k3] at hM
          refine cw_seq fun K29 hK29 => ?_
          refine cw_region ?_
          refine ow_ev ev_assign ?_
          refine ow_nil (hK29 _ _ ?_); clear hK29
          obtain rfl := some_inj hM
          refine cw_ret (kw_retc1 (fun w hm => ret_of hm rfl))

def circulation_Follows_k2 (cont1 : (Int × Bool × Nat) → Option (Int × Bool)) (t35_1 : Nat) : (Int × Bool) → Option (Int × Bool) := fun (least_j2, ok_j2) =>
  cont1 (least_j2, ok_j2, t35_1 + 1)
def circulation_Follows_k1 (least_1 : Int) (ok_1 : Bool) : Unit → Option (Int × Bool) := fun _ =>
  some (least_1, ok_1)
def circulation_Follows_b1 (r0 : Rules) (a0 : Task) (b0 : Task) (cont1 : (Int × Bool × Nat) → Option (Int × Bool)) : (Int × Bool × Nat) → Option (Int × Bool) := fun (least_1, ok_1, t35_1) =>
  if decide ((t35_1 : Int) < (r0.Empties.length : Int)) then
    ((idx r0.Empties (t35_1 : Int)).bind fun x9 =>
    chk (!(!(decide (x9.From ≠ a0.To) || decide (x9.To ≠ b0.From))) || i64b (a0.End + r0.Turn)) <|
    chk (!(!(decide (x9.From ≠ a0.To) || decide (x9.To ≠ b0.From))) || i64b ((a0.End + r0.Turn) + x9.Seconds)) <|
    if ((decide (x9.From ≠ a0.To) || decide (x9.To ≠ b0.From)) || decide (b0.Start < ((a0.End + r0.Turn) + x9.Seconds))) then
      (circulation_Follows_k2 cont1 t35_1 (least_1, ok_1))
    else
      (if ((!ok_1) || decide (x9.Seconds < least_1)) then
        (circulation_Follows_k2 cont1 t35_1 (x9.Seconds, true))
      else
        (circulation_Follows_k2 cont1 t35_1 (least_1, ok_1))))
  else
    (circulation_Follows_k1 least_1 ok_1 ())
def circulation_Follows_m (r0 : Rules) (a0 : Task) (b0 : Task) : Option (Int × Bool) :=
  if decide (a0.Type_ ≠ b0.Type_) then
    (some (0, false))
  else
    (chk (!(decide (a0.To = b0.From)) || i64b (a0.End + r0.Turn)) <|
    if (decide (a0.To = b0.From) && decide ((a0.End + r0.Turn) ≤ b0.Start)) then
      (some (0, true))
    else
      (iter (circulation_Follows_b1 r0 a0 b0) FUEL (0, false, 0)))
theorem circulation_Follows_spec (S : Soup) (w : World) (r0 : Rules) (r_r0 : GoRep.R Rules) (a0 : Task) (b0 : Task) (y : Int × Bool) (hM : circulation_Follows_m r0 a0 b0 = some y) (hS : ∀ k, S k → k < w.heap.size) (h_r0 : GoRep.ok S w r_r0 r0) :
    Calls Try.prog 37 #[.agg #[.int .i64 r0.Turn, .slice r_r0.1.a r0.Empties.length r_r0.1.cap, .slice r_r0.2.a r0.Shops.length r_r0.2.cap, .int .i64 r0.Service, .int .i64 r0.Limit], .agg #[.int .i64 a0.Type_, .int .i64 a0.From, .int .i64 a0.To, .int .i64 a0.Start, .int .i64 a0.End], .agg #[.int .i64 b0.Type_, .int .i64 b0.From, .int .i64 b0.To, .int .i64 b0.Start, .int .i64 b0.End]] w (Ret w (.tuple #[.int .i64 y.1, .bool y.2])) := by
  refine calls_cw (args := [_, _, _]) Try.func37 rfl ((pre_nil hS).start |>.immP (α := List EmptyT) (r := r_r0.1) (x := r0.Empties) h_r0.1|>.immP (α := List Int) (r := r_r0.2) (x := r0.Shops) h_r0.2) rfl ?_
  unfold circulation_Follows_m at hM
  refine cw_seq fun K1 hK1 => ?_
  refine cw_region ?_
  refine ow_cons (st_box (l := [.int .i64 r0.Turn, .slice r_r0.1.a r0.Empties.length r_r0.1.cap, .slice r_r0.2.a r0.Shops.length r_r0.2.cap, .int .i64 r0.Service, .int .i64 r0.Limit]) (k := fun b1 => ?_))
  refine ow_cons (st_box (l := [.int .i64 a0.Type_, .int .i64 a0.From, .int .i64 a0.To, .int .i64 a0.Start, .int .i64 a0.End]) (k := fun b2 => ?_))
  refine ow_cons (st_box (l := [.int .i64 b0.Type_, .int .i64 b0.From, .int .i64 b0.To, .int .i64 b0.Start, .int .i64 b0.End]) (k := fun b3 => ?_))
  refine ow_ev ev_assign ?_
  refine ow_ev ev_assign ?_
  refine ow_nil (hK1 _ _ ?_); clear hK1
  refine cw_seq fun K2 hK2 => ?_
  refine cw_seq fun K3 hK3 => ?_
  refine cw_region ?_
  refine ow_ev (ev_field_addr 0) ?_
  refine ow_ev (ev_load_own (b := b2)) ?_
  refine ow_ev (ev_field_addr 0) ?_
  refine ow_ev (ev_load_own (b := b3)) ?_
  refine ow_ev ev_neq ?_
  refine ow_nil (hK3 _ _ ?_); clear hK3
  refine cw_cond rfl (fun hc4 => ?_) (fun hc4 => ?_)
  ·
    replace hM := (ite_t hc4).symm.trans hM
    refine cw_seq fun K4 hK4 => ?_
    refine cw_region ?_
    refine ow_ev ev_assign ?_
    refine ow_ev ev_assign ?_
    refine ow_nil (hK4 _ _ ?_); clear hK4
    obtain rfl := some_inj hM
    refine cw_ret (kw_retc2 (fun w hm => ret_of hm rfl))
  ·
    replace hM := (ite_f hc4).symm.trans hM
    refine cw_skip (hK2 _ _ ?_); clear hK2
    refine cw_seq fun K5 hK5 => ?_
    refine cw_seq fun K6 hK6 => ?_
    refine cw_region ?_
    refine ow_ev (ev_field_addr 2) ?_
    refine ow_ev (ev_load_own (b := b2)) ?_
    refine ow_ev (ev_field_addr 1) ?_
    refine ow_ev (ev_load_own (b := b3)) ?_
    refine ow_ev ev_eql ?_
    refine ow_ev ev_move ?_
    refine ow_evg rfl (ev_field_addr 4) ?_
    refine ow_evg rfl (ev_load_own (b := b2)) ?_
    refine ow_evg rfl (ev_field_addr 0) ?_
    refine ow_evg rfl (ev_load_own (b := b1)) ?_
    obtain ⟨hI5, hM⟩ := chk_some hM
    refine ow_evg rfl (ev_add (hr := fun hg => i64b_I64 (gor hI5 hg))) ?_
    refine ow_evg rfl (ev_field_addr 3) ?_
    refine ow_evg rfl (ev_load_own (b := b3)) ?_
    refine ow_evg rfl ev_leq ?_
    refine ow_ev ev_and ?_
    refine ow_nil (hK6 _ _ ?_); clear hK6
    refine cw_cond rfl (fun hc6 => ?_) (fun hc6 => ?_)
    ·
      replace hM := (ite_t hc6).symm.trans hM
      refine cw_seq fun K7 hK7 => ?_
      refine cw_region ?_
      refine ow_ev ev_assign ?_
      refine ow_ev ev_assign ?_
      refine ow_nil (hK7 _ _ ?_); clear hK7
      obtain rfl := some_inj hM
      refine cw_ret (kw_retc2 (fun w hm => ret_of hm rfl))
    ·
      replace hM := (ite_f hc6).symm.trans hM
      refine cw_skip (hK5 _ _ ?_); clear hK5
      refine cw_seq fun K8 hK8 => ?_
      refine cw_region ?_
      refine ow_ev ev_assign ?_
      refine ow_ev ev_assign ?_
      refine ow_nil (hK8 _ _ ?_); clear hK8
      refine cw_seq fun K9 hK9 => ?_
      refine cw_seq fun K10 hK10 => ?_
      refine cw_region ?_
      refine ow_ev (ev_field_addr 1) ?_
      refine ow_ev (ev_load_own (b := b1)) ?_
      refine ow_have (fun w hm => Kn.len (Kn.imm (α := List EmptyT) (r := r_r0.1) (x := r0.Empties) (by repeat (first | exact Has.head | apply Has.tail))) hm) fun hl7 => ?_
      refine ow_ev ev_len ?_
      refine ow_ev ev_move ?_
      refine ow_nil (hK10 _ _ ?_); clear hK10
      refine cw_block ?_
      refine cw_loop (γ := Nat × (Int × Bool × Nat) × Unit) (env := fun (_, (least_1, ok_1, t35_1), _) => [(3, .v (.pointer (some ⟨b1, 0, none⟩))), (4, .v (.pointer (some ⟨b2, 0, none⟩))), (5, .v (.pointer (some ⟨b3, 0, none⟩))), (8, .v (.int .i64 least_1)), (9, .v (.bool ok_1)), (33, .v (.slice r_r0.1.a r0.Empties.length r_r0.1.cap)), (34, .v (.int .i64 (r0.Empties.length : Int))), (35, .v (.int .i64 (t35_1 : Int)))]) (mem := fun (_, (least_1, ok_1, t35_1), _) => [imm (α := (List EmptyT)) r_r0.1 r0.Empties, imm (α := (List Int)) r_r0.2 r0.Shops, own b1 53 [.int .i64 r0.Turn, .slice r_r0.1.a r0.Empties.length r_r0.1.cap, .slice r_r0.2.a r0.Shops.length r_r0.2.cap, .int .i64 r0.Service, .int .i64 r0.Limit], own b2 60 [.int .i64 a0.Type_, .int .i64 a0.From, .int .i64 a0.To, .int .i64 a0.Start, .int .i64 a0.End], own b3 60 [.int .i64 b0.Type_, .int .i64 b0.From, .int .i64 b0.To, .int .i64 b0.Start, .int .i64 b0.End]]) (R := fun g => iter (circulation_Follows_b1 r0 a0 b0) g.1 g.2.1 = some y) (μ := fun g => g.1) (FUEL, (0, false, 0), ()) hM ⟨rfl, rfl, rfl, rfl, rfl, rfl, rfl, rfl, trivial⟩ (fun w hm => hm.reord) ?_
      clear hM
      intro g hM KL1 hL1
      obtain ⟨nn1, ⟨least_1, ok_1, t35_1⟩, ⟨⟩⟩ := g
      dsimp only at hM ⊢
      obtain ⟨nn1, cont1, rfl, hcont1, hM⟩ := iter_open' hM
      dsimp only [circulation_Follows_b1] at hM
      refine cw_seq fun K11 hK11 => ?_
      refine cw_region ?_
      refine ow_ev ev_lss ?_
      refine ow_nil (hK11 _ _ ?_); clear hK11
      refine cw_seq fun K12 hK12 => ?_
      refine cw_cond rfl (fun hc8 => ?_) (fun hc8 => ?_)
      ·
        replace hM := (ite_t hc8).symm.trans hM
        have hc8d := of_decide_eq_true hc8
        refine cw_skip (hK12 _ _ ?_); clear hK12
        refine cw_cut (γ := (Int × Bool) × Unit) (env := fun ((least_j2, ok_j2), _) => [(3, .v (.pointer (some ⟨b1, 0, none⟩))), (4, .v (.pointer (some ⟨b2, 0, none⟩))), (5, .v (.pointer (some ⟨b3, 0, none⟩))), (8, .v (.int .i64 least_j2)), (9, .v (.bool ok_j2)), (33, .v (.slice r_r0.1.a r0.Empties.length r_r0.1.cap)), (34, .v (.int .i64 (r0.Empties.length : Int))), (35, .v (.int .i64 (t35_1 : Int)))]) (mem := fun ((least_j2, ok_j2), _) => [imm (α := (List EmptyT)) r_r0.1 r0.Empties, imm (α := (List Int)) r_r0.2 r0.Shops, own b1 53 [.int .i64 r0.Turn, .slice r_r0.1.a r0.Empties.length r_r0.1.cap, .slice r_r0.2.a r0.Shops.length r_r0.2.cap, .int .i64 r0.Service, .int .i64 r0.Limit], own b2 60 [.int .i64 a0.Type_, .int .i64 a0.From, .int .i64 a0.To, .int .i64 a0.Start, .int .i64 a0.End], own b3 60 [.int .i64 b0.Type_, .int .i64 b0.From, .int .i64 b0.To, .int .i64 b0.Start, .int .i64 b0.End]]) (R := fun g => circulation_Follows_k2 cont1 t35_1 g.1 = some y) ?_ ?_
        · intro KJ2 hJ2
          refine cw_block ?_
          refine cw_seq fun K13 hK13 => ?_
          refine cw_region ?_
          obtain ⟨x9, hx10, hM⟩ := bind_some hM
          refine ow_ev (ev_idx (xs := r0.Empties) 3 (Kn.imm (α := List EmptyT) (r := r_r0.1) (x := r0.Empties) (by repeat (first | exact Has.head | apply Has.tail))) (fun hg => let h := idx_some hx10; ⟨h.1, h.2.1⟩)) ?_
          refine ow_ev (ev_lds (m := 3) (i := (t35_1 : Int)) (xs := r0.Empties) (y := x9) (l := [.int .i64 x9.From, .int .i64 x9.To, .int .i64 x9.Seconds]) 0 (Kn.imm (α := List EmptyT) (r := r_r0.1) (x := r0.Empties) (by repeat (first | exact Has.head | apply Has.tail))) (fun _ => hx10)) ?_
          refine ow_cons (st_alloc rfl (k := fun b11 => ?_))
          refine ow_cons (st_store_all (b := b11) (vs := [.int .i64 x9.From, .int .i64 x9.To, .int .i64 x9.Seconds]) (k := ?_))
          refine ow_nil (hK13 _ _ ?_); clear hK13
          refine cw_seq fun K14 hK14 => ?_
          refine cw_seq fun K15 hK15 => ?_
          refine cw_region ?_
          refine ow_ev (ev_field_addr 0) ?_
          refine ow_ev (ev_load_own (b := b11)) ?_
          refine ow_ev (ev_field_addr 2) ?_
          refine ow_ev (ev_load_own (b := b2)) ?_
          refine ow_ev ev_neq ?_
          refine ow_ev ev_move ?_
          refine ow_evg rfl (ev_field_addr 1) ?_
          refine ow_evg rfl (ev_load_own (b := b11)) ?_
          refine ow_evg rfl (ev_field_addr 1) ?_
          refine ow_evg rfl (ev_load_own (b := b3)) ?_
          refine ow_evg rfl ev_neq ?_
          refine ow_ev ev_or ?_
          refine ow_ev ev_move ?_
          refine ow_evg rfl (ev_field_addr 4) ?_
          refine ow_evg rfl (ev_load_own (b := b2)) ?_
          refine ow_evg rfl (ev_field_addr 0) ?_
          refine ow_evg rfl (ev_load_own (b := b1)) ?_
          obtain ⟨hI12, hM⟩ := chk_some hM
          refine ow_evg rfl (ev_add (hr := fun hg => i64b_I64 (gor hI12 hg))) ?_
          refine ow_evg rfl (ev_field_addr 2) ?_
          refine ow_evg rfl (ev_load_own (b := b11)) ?_
          obtain ⟨hI13, hM⟩ := chk_some hM
          refine ow_evg rfl (ev_add (hr := fun hg => i64b_I64 (gor hI13 hg))) ?_
          refine ow_evg rfl (ev_field_addr 3) ?_
          refine ow_evg rfl (ev_load_own (b := b3)) ?_
          refine ow_evg rfl ev_gtr ?_
          refine ow_ev ev_or ?_
          refine ow_nil (hK15 _ _ ?_); clear hK15
          refine cw_cond rfl (fun hc14 => ?_) (fun hc14 => ?_)
          ·
            replace hM := (ite_t hc14).symm.trans hM
            refine cw_exit (hJ2 ((least_1, ok_1), ()) _ _ hM ⟨rfl, rfl, rfl, rfl, rfl, rfl, rfl, rfl, trivial⟩ (fun w hm => hm.reord))
          ·
            replace hM := (ite_f hc14).symm.trans hM
            refine cw_skip (hK14 _ _ ?_); clear hK14
            refine cw_seq fun K16 hK16 => ?_
            refine cw_region ?_
            refine ow_ev ev_move ?_
            refine ow_ev ev_not ?_
            refine ow_ev ev_move ?_
            refine ow_evg rfl (ev_field_addr 2) ?_
            refine ow_evg rfl (ev_load_own (b := b11)) ?_
            refine ow_evg rfl ev_move ?_
            refine ow_evg rfl ev_lss ?_
            refine ow_ev ev_or ?_
            refine ow_nil (hK16 _ _ ?_); clear hK16
            refine cw_cond rfl (fun hc15 => ?_) (fun hc15 => ?_)
            ·
              replace hM := (ite_t hc15).symm.trans hM
              refine cw_region ?_
              refine ow_ev (ev_field_addr 2) ?_
              refine ow_ev (ev_load_own (b := b11)) ?_
              refine ow_ev ev_assign ?_
              refine ow_ev ev_assign ?_
              refine ow_nil (hJ2 ((x9.Seconds, true), ()) _ _ hM ⟨rfl, rfl, rfl, rfl, rfl, rfl, rfl, rfl, trivial⟩ (fun w hm => hm.reord))
            ·
              replace hM := (ite_f hc15).symm.trans hM
              refine cw_skip (hJ2 ((least_1, ok_1), ()) _ _ hM ⟨rfl, rfl, rfl, rfl, rfl, rfl, rfl, rfl, trivial⟩ (fun w hm => hm.reord))
        ·
          clear hM
          intro g hM
          obtain ⟨⟨least_j2, ok_j2⟩, ⟨⟩⟩ := g
          dsimp only at hM ⊢
          dsimp only [circulation_Follows_k2] at hM
          refine cw_region ?_
          refine ow_ev (ev_add (hr := fun _ => by unfold I64; omega)) ?_
          refine ow_ev ev_move ?_
          refine ow_nil (hL1 (nn1, (least_j2, ok_j2, t35_1 + 1), ()) _ _ (eqc hcont1 hM) (Nat.lt_succ_self _) ⟨rfl, rfl, rfl, rfl, rfl, rfl, rfl, rfl, trivial⟩ (fun w hm => hm.reord))
      ·
        replace hM := (ite_f hc8).symm.trans hM
        refine cw_exit (hK9 _ _ ?_); clear hK9
        dsimp only [circulation_Follows_k1] at hM
        refine cw_seq fun K17 hK17 => ?_
        refine cw_region ?_
        refine ow_ev ev_move ?_
        refine ow_ev ev_move ?_
        refine ow_ev ev_assign ?_
        refine ow_ev ev_assign ?_
        refine ow_nil (hK17 _ _ ?_); clear hK17
        obtain rfl := some_inj hM
        refine cw_ret (kw_retc2 (fun w hm => ret_of hm rfl))

def ref24_Follows_k2 (cont1 : (Int × Bool × Nat) → Option (Int × Bool)) (t35_1 : Nat) : (Int × Bool) → Option (Int × Bool) := fun (best_j2, ok_j2) =>
  cont1 (best_j2, ok_j2, t35_1 + 1)
def ref24_Follows_k1 (best_1 : Int) (ok_1 : Bool) : Unit → Option (Int × Bool) := fun _ =>
  some (best_1, ok_1)
def ref24_Follows_b1 (r0 : Rules) (a0 : Task) (b0 : Task) (cont1 : (Int × Bool × Nat) → Option (Int × Bool)) : (Int × Bool × Nat) → Option (Int × Bool) := fun (best_1, ok_1, t35_1) =>
  if decide ((t35_1 : Int) < (r0.Empties.length : Int)) then
    ((idx r0.Empties (t35_1 : Int)).bind fun x9 =>
    chk (!(decide (x9.From = a0.To) && decide (x9.To = b0.From)) || i64b (a0.End + r0.Turn)) <|
    chk (!(decide (x9.From = a0.To) && decide (x9.To = b0.From)) || i64b ((a0.End + r0.Turn) + x9.Seconds)) <|
    if (((decide (x9.From = a0.To) && decide (x9.To = b0.From)) && decide (((a0.End + r0.Turn) + x9.Seconds) ≤ b0.Start)) && ((!ok_1) || decide (x9.Seconds < best_1))) then
      (ref24_Follows_k2 cont1 t35_1 (x9.Seconds, true))
    else
      (ref24_Follows_k2 cont1 t35_1 (best_1, ok_1)))
  else
    (ref24_Follows_k1 best_1 ok_1 ())
def ref24_Follows_m (r0 : Rules) (a0 : Task) (b0 : Task) : Option (Int × Bool) :=
  if decide (a0.Type_ ≠ b0.Type_) then
    (some (0, false))
  else
    (chk (!(decide (a0.To = b0.From)) || i64b (a0.End + r0.Turn)) <|
    if (decide (a0.To = b0.From) && decide ((a0.End + r0.Turn) ≤ b0.Start)) then
      (some (0, true))
    else
      (iter (ref24_Follows_b1 r0 a0 b0) FUEL (0, false, 0)))
theorem ref24_Follows_spec (S : Soup) (w : World) (r0 : Rules) (r_r0 : GoRep.R Rules) (a0 : Task) (b0 : Task) (y : Int × Bool) (hM : ref24_Follows_m r0 a0 b0 = some y) (hS : ∀ k, S k → k < w.heap.size) (h_r0 : GoRep.ok S w r_r0 r0) :
    Calls Try.prog 38 #[.agg #[.int .i64 r0.Turn, .slice r_r0.1.a r0.Empties.length r_r0.1.cap, .slice r_r0.2.a r0.Shops.length r_r0.2.cap, .int .i64 r0.Service, .int .i64 r0.Limit], .agg #[.int .i64 a0.Type_, .int .i64 a0.From, .int .i64 a0.To, .int .i64 a0.Start, .int .i64 a0.End], .agg #[.int .i64 b0.Type_, .int .i64 b0.From, .int .i64 b0.To, .int .i64 b0.Start, .int .i64 b0.End]] w (Ret w (.tuple #[.int .i64 y.1, .bool y.2])) := by
  refine calls_cw (args := [_, _, _]) Try.func38 rfl ((pre_nil hS).start |>.immP (α := List EmptyT) (r := r_r0.1) (x := r0.Empties) h_r0.1|>.immP (α := List Int) (r := r_r0.2) (x := r0.Shops) h_r0.2) rfl ?_
  unfold ref24_Follows_m at hM
  refine cw_seq fun K1 hK1 => ?_
  refine cw_region ?_
  refine ow_cons (st_box (l := [.int .i64 r0.Turn, .slice r_r0.1.a r0.Empties.length r_r0.1.cap, .slice r_r0.2.a r0.Shops.length r_r0.2.cap, .int .i64 r0.Service, .int .i64 r0.Limit]) (k := fun b1 => ?_))
  refine ow_cons (st_box (l := [.int .i64 a0.Type_, .int .i64 a0.From, .int .i64 a0.To, .int .i64 a0.Start, .int .i64 a0.End]) (k := fun b2 => ?_))
  refine ow_cons (st_box (l := [.int .i64 b0.Type_, .int .i64 b0.From, .int .i64 b0.To, .int .i64 b0.Start, .int .i64 b0.End]) (k := fun b3 => ?_))
  refine ow_ev ev_assign ?_
  refine ow_ev ev_assign ?_
  refine ow_nil (hK1 _ _ ?_); clear hK1
  refine cw_seq fun K2 hK2 => ?_
  refine cw_seq fun K3 hK3 => ?_
  refine cw_region ?_
  refine ow_ev (ev_field_addr 0) ?_
  refine ow_ev (ev_load_own (b := b2)) ?_
  refine ow_ev (ev_field_addr 0) ?_
  refine ow_ev (ev_load_own (b := b3)) ?_
  refine ow_ev ev_neq ?_
  refine ow_nil (hK3 _ _ ?_); clear hK3
  refine cw_cond rfl (fun hc4 => ?_) (fun hc4 => ?_)
  ·
    replace hM := (ite_t hc4).symm.trans hM
    refine cw_seq fun K4 hK4 => ?_
    refine cw_region ?_
    refine ow_ev ev_assign ?_
    refine ow_ev ev_assign ?_
    refine ow_nil (hK4 _ _ ?_); clear hK4
    obtain rfl := some_inj hM
    refine cw_ret (kw_retc2 (fun w hm => ret_of hm rfl))
  ·
    replace hM := (ite_f hc4).symm.trans hM
    refine cw_skip (hK2 _ _ ?_); clear hK2
    refine cw_seq fun K5 hK5 => ?_
    refine cw_seq fun K6 hK6 => ?_
    refine cw_region ?_
    refine ow_ev (ev_field_addr 2) ?_
    refine ow_ev (ev_load_own (b := b2)) ?_
    refine ow_ev (ev_field_addr 1) ?_
    refine ow_ev (ev_load_own (b := b3)) ?_
    refine ow_ev ev_eql ?_
    refine ow_ev ev_move ?_
    refine ow_evg rfl (ev_field_addr 4) ?_
    refine ow_evg rfl (ev_load_own (b := b2)) ?_
    refine ow_evg rfl (ev_field_addr 0) ?_
    refine ow_evg rfl (ev_load_own (b := b1)) ?_
    obtain ⟨hI5, hM⟩ := chk_some hM
    refine ow_evg rfl (ev_add (hr := fun hg => i64b_I64 (gor hI5 hg))) ?_
    refine ow_evg rfl (ev_field_addr 3) ?_
    refine ow_evg rfl (ev_load_own (b := b3)) ?_
    refine ow_evg rfl ev_leq ?_
    refine ow_ev ev_and ?_
    refine ow_nil (hK6 _ _ ?_); clear hK6
    refine cw_cond rfl (fun hc6 => ?_) (fun hc6 => ?_)
    ·
      replace hM := (ite_t hc6).symm.trans hM
      refine cw_seq fun K7 hK7 => ?_
      refine cw_region ?_
      refine ow_ev ev_assign ?_
      refine ow_ev ev_assign ?_
      refine ow_nil (hK7 _ _ ?_); clear hK7
      obtain rfl := some_inj hM
      refine cw_ret (kw_retc2 (fun w hm => ret_of hm rfl))
    ·
      replace hM := (ite_f hc6).symm.trans hM
      refine cw_skip (hK5 _ _ ?_); clear hK5
      refine cw_seq fun K8 hK8 => ?_
      refine cw_region ?_
      refine ow_ev ev_assign ?_
      refine ow_ev ev_assign ?_
      refine ow_nil (hK8 _ _ ?_); clear hK8
      refine cw_seq fun K9 hK9 => ?_
      refine cw_seq fun K10 hK10 => ?_
      refine cw_region ?_
      refine ow_ev (ev_field_addr 1) ?_
      refine ow_ev (ev_load_own (b := b1)) ?_
      refine ow_have (fun w hm => Kn.len (Kn.imm (α := List EmptyT) (r := r_r0.1) (x := r0.Empties) (by repeat (first | exact Has.head | apply Has.tail))) hm) fun hl7 => ?_
      refine ow_ev ev_len ?_
      refine ow_ev ev_move ?_
      refine ow_nil (hK10 _ _ ?_); clear hK10
      refine cw_block ?_
      refine cw_loop (γ := Nat × (Int × Bool × Nat) × Unit) (env := fun (_, (best_1, ok_1, t35_1), _) => [(3, .v (.pointer (some ⟨b1, 0, none⟩))), (4, .v (.pointer (some ⟨b2, 0, none⟩))), (5, .v (.pointer (some ⟨b3, 0, none⟩))), (8, .v (.int .i64 best_1)), (9, .v (.bool ok_1)), (33, .v (.slice r_r0.1.a r0.Empties.length r_r0.1.cap)), (34, .v (.int .i64 (r0.Empties.length : Int))), (35, .v (.int .i64 (t35_1 : Int)))]) (mem := fun (_, (best_1, ok_1, t35_1), _) => [imm (α := (List EmptyT)) r_r0.1 r0.Empties, imm (α := (List Int)) r_r0.2 r0.Shops, own b1 53 [.int .i64 r0.Turn, .slice r_r0.1.a r0.Empties.length r_r0.1.cap, .slice r_r0.2.a r0.Shops.length r_r0.2.cap, .int .i64 r0.Service, .int .i64 r0.Limit], own b2 60 [.int .i64 a0.Type_, .int .i64 a0.From, .int .i64 a0.To, .int .i64 a0.Start, .int .i64 a0.End], own b3 60 [.int .i64 b0.Type_, .int .i64 b0.From, .int .i64 b0.To, .int .i64 b0.Start, .int .i64 b0.End]]) (R := fun g => iter (ref24_Follows_b1 r0 a0 b0) g.1 g.2.1 = some y) (μ := fun g => g.1) (FUEL, (0, false, 0), ()) hM ⟨rfl, rfl, rfl, rfl, rfl, rfl, rfl, rfl, trivial⟩ (fun w hm => hm.reord) ?_
      clear hM
      intro g hM KL1 hL1
      obtain ⟨nn1, ⟨best_1, ok_1, t35_1⟩, ⟨⟩⟩ := g
      dsimp only at hM ⊢
      obtain ⟨nn1, cont1, rfl, hcont1, hM⟩ := iter_open' hM
      dsimp only [ref24_Follows_b1] at hM
      refine cw_seq fun K11 hK11 => ?_
      refine cw_region ?_
      refine ow_ev ev_lss ?_
      refine ow_nil (hK11 _ _ ?_); clear hK11
      refine cw_seq fun K12 hK12 => ?_
      refine cw_cond rfl (fun hc8 => ?_) (fun hc8 => ?_)
      ·
        replace hM := (ite_t hc8).symm.trans hM
        have hc8d := of_decide_eq_true hc8
        refine cw_skip (hK12 _ _ ?_); clear hK12
        refine cw_cut (γ := (Int × Bool) × Unit) (env := fun ((best_j2, ok_j2), _) => [(3, .v (.pointer (some ⟨b1, 0, none⟩))), (4, .v (.pointer (some ⟨b2, 0, none⟩))), (5, .v (.pointer (some ⟨b3, 0, none⟩))), (8, .v (.int .i64 best_j2)), (9, .v (.bool ok_j2)), (33, .v (.slice r_r0.1.a r0.Empties.length r_r0.1.cap)), (34, .v (.int .i64 (r0.Empties.length : Int))), (35, .v (.int .i64 (t35_1 : Int)))]) (mem := fun ((best_j2, ok_j2), _) => [imm (α := (List EmptyT)) r_r0.1 r0.Empties, imm (α := (List Int)) r_r0.2 r0.Shops, own b1 53 [.int .i64 r0.Turn, .slice r_r0.1.a r0.Empties.length r_r0.1.cap, .slice r_r0.2.a r0.Shops.length r_r0.2.cap, .int .i64 r0.Service, .int .i64 r0.Limit], own b2 60 [.int .i64 a0.Type_, .int .i64 a0.From, .int .i64 a0.To, .int .i64 a0.Start, .int .i64 a0.End], own b3 60 [.int .i64 b0.Type_, .int .i64 b0.From, .int .i64 b0.To, .int .i64 b0.Start, .int .i64 b0.End]]) (R := fun g => ref24_Follows_k2 cont1 t35_1 g.1 = some y) ?_ ?_
        · intro KJ2 hJ2
          refine cw_block ?_
          refine cw_seq fun K13 hK13 => ?_
          refine cw_region ?_
          obtain ⟨x9, hx10, hM⟩ := bind_some hM
          refine ow_ev (ev_idx (xs := r0.Empties) 3 (Kn.imm (α := List EmptyT) (r := r_r0.1) (x := r0.Empties) (by repeat (first | exact Has.head | apply Has.tail))) (fun hg => let h := idx_some hx10; ⟨h.1, h.2.1⟩)) ?_
          refine ow_ev (ev_lds (m := 3) (i := (t35_1 : Int)) (xs := r0.Empties) (y := x9) (l := [.int .i64 x9.From, .int .i64 x9.To, .int .i64 x9.Seconds]) 0 (Kn.imm (α := List EmptyT) (r := r_r0.1) (x := r0.Empties) (by repeat (first | exact Has.head | apply Has.tail))) (fun _ => hx10)) ?_
          refine ow_cons (st_alloc rfl (k := fun b11 => ?_))
          refine ow_cons (st_store_all (b := b11) (vs := [.int .i64 x9.From, .int .i64 x9.To, .int .i64 x9.Seconds]) (k := ?_))
          refine ow_nil (hK13 _ _ ?_); clear hK13
          refine cw_seq fun K14 hK14 => ?_
          refine cw_region ?_
          refine ow_ev (ev_field_addr 0) ?_
          refine ow_ev (ev_load_own (b := b11)) ?_
          refine ow_ev (ev_field_addr 2) ?_
          refine ow_ev (ev_load_own (b := b2)) ?_
          refine ow_ev ev_eql ?_
          refine ow_ev ev_move ?_
          refine ow_evg rfl (ev_field_addr 1) ?_
          refine ow_evg rfl (ev_load_own (b := b11)) ?_
          refine ow_evg rfl (ev_field_addr 1) ?_
          refine ow_evg rfl (ev_load_own (b := b3)) ?_
          refine ow_evg rfl ev_eql ?_
          refine ow_ev ev_and ?_
          refine ow_ev ev_move ?_
          refine ow_evg rfl (ev_field_addr 4) ?_
          refine ow_evg rfl (ev_load_own (b := b2)) ?_
          refine ow_evg rfl (ev_field_addr 0) ?_
          refine ow_evg rfl (ev_load_own (b := b1)) ?_
          obtain ⟨hI12, hM⟩ := chk_some hM
          refine ow_evg rfl (ev_add (hr := fun hg => i64b_I64 (gor hI12 hg))) ?_
          refine ow_evg rfl (ev_field_addr 2) ?_
          refine ow_evg rfl (ev_load_own (b := b11)) ?_
          obtain ⟨hI13, hM⟩ := chk_some hM
          refine ow_evg rfl (ev_add (hr := fun hg => i64b_I64 (gor hI13 hg))) ?_
          refine ow_evg rfl (ev_field_addr 3) ?_
          refine ow_evg rfl (ev_load_own (b := b3)) ?_
          refine ow_evg rfl ev_leq ?_
          refine ow_ev ev_and ?_
          refine ow_ev ev_move ?_
          refine ow_evg rfl ev_move ?_
          refine ow_evg rfl ev_not ?_
          refine ow_evg rfl ev_move ?_
          refine ow_evg rfl (ev_field_addr 2) ?_
          refine ow_evg rfl (ev_load_own (b := b11)) ?_
          refine ow_evg rfl ev_move ?_
          refine ow_evg rfl ev_lss ?_
          refine ow_evg rfl ev_or ?_
          refine ow_ev ev_and ?_
          refine ow_nil (hK14 _ _ ?_); clear hK14
          refine cw_cond rfl (fun hc14 => ?_) (fun hc14 => ?_)
          ·
            replace hM := (ite_t hc14).symm.trans hM
            refine cw_region ?_
            refine ow_ev (ev_field_addr 2) ?_
            refine ow_ev (ev_load_own (b := b11)) ?_
            refine ow_ev ev_assign ?_
            refine ow_ev ev_assign ?_
            refine ow_nil (hJ2 ((x9.Seconds, true), ()) _ _ hM ⟨rfl, rfl, rfl, rfl, rfl, rfl, rfl, rfl, trivial⟩ (fun w hm => hm.reord))
          ·
            replace hM := (ite_f hc14).symm.trans hM
            refine cw_skip (hJ2 ((best_1, ok_1), ()) _ _ hM ⟨rfl, rfl, rfl, rfl, rfl, rfl, rfl, rfl, trivial⟩ (fun w hm => hm.reord))
        ·
          clear hM
          intro g hM
          obtain ⟨⟨best_j2, ok_j2⟩, ⟨⟩⟩ := g
          dsimp only at hM ⊢
          dsimp only [ref24_Follows_k2] at hM
          refine cw_region ?_
          refine ow_ev (ev_add (hr := fun _ => by unfold I64; omega)) ?_
          refine ow_ev ev_move ?_
          refine ow_nil (hL1 (nn1, (best_j2, ok_j2, t35_1 + 1), ()) _ _ (eqc hcont1 hM) (Nat.lt_succ_self _) ⟨rfl, rfl, rfl, rfl, rfl, rfl, rfl, rfl, trivial⟩ (fun w hm => hm.reord))
      ·
        replace hM := (ite_f hc8).symm.trans hM
        refine cw_exit (hK9 _ _ ?_); clear hK9
        dsimp only [ref24_Follows_k1] at hM
        refine cw_seq fun K15 hK15 => ?_
        refine cw_region ?_
        refine ow_ev ev_move ?_
        refine ow_ev ev_move ?_
        refine ow_ev ev_assign ?_
        refine ow_ev ev_assign ?_
        refine ow_nil (hK15 _ _ ?_); clear hK15
        obtain rfl := some_inj hM
        refine cw_ret (kw_retc2 (fun w hm => ret_of hm rfl))

def keep2_Tasks_k3 (cont2 : (Int × (List Int) × Nat) → Option ((List Task) × Rules)) (k_2 : Nat) : (Int × (List Int)) → Option ((List Task) × Rules) := fun (s_j3_1, lr_j3_2) =>
  cont2 (s_j3_1, lr_j3_2, k_2 + 1)
def keep2_Tasks_k4 (lout_3 : List Task) (y5 : Int × Int) (lr_1_1 : List EmptyT) (lr_2_2 : List Int) (y8 : Int × Int) (y11 : Int × Int) : Unit → Option ((List Task) × Rules) := fun _ =>
  some (lout_3, (Rules.mk y5.1 lr_1_1 lr_2_2 y8.1 (10 + y11.1)))
def keep2_Tasks_b3 (y2 : Keep_Source) (y5 : Int × Int) (lr_1_1 : List EmptyT) (lr_2_2 : List Int) (y8 : Int × Int) (y11 : Int × Int) (cont3 : (Int × (List Task) × Int) → Option ((List Task) × Rules)) : (Int × (List Task) × Int) → Option ((List Task) × Rules) := fun (s_3_1, lout_3, k_3) =>
  if decide (0 < k_3) then
    ((keep_Source_Next_m (Keep_Source.mk y2.l s_3_1) 120).bind fun y53 =>
    (keep_Source_Next_m (Keep_Source.mk y2.l y53.2) 4).bind fun y56 =>
    chk (decide (3 ≠ 0) && i64b (y56.1.tdiv 3)) <|
    (keep_Source_Next_m (Keep_Source.mk y2.l y56.2) 3).bind fun y60 =>
    (keep_Source_Next_m (Keep_Source.mk y2.l y60.2) 3).bind fun y63 =>
    chk (i64b (y53.1 + 1)) <|
    (keep_Source_Next_m (Keep_Source.mk y2.l y63.2) 30).bind fun y67 =>
    chk (i64b ((y53.1 + 1) + y67.1)) <|
    chk (decide ((lout_3.length + ([(Task.mk (y56.1.tdiv 3) y60.1 y63.1 y53.1 ((y53.1 + 1) + y67.1))] : List Task).length) * 40 ≤ 140737488355328)) <|
    chk (i64b (k_3 - 1)) <|
    cont3 (y67.2, (lout_3 ++ ([(Task.mk (y56.1.tdiv 3) y60.1 y63.1 y53.1 ((y53.1 + 1) + y67.1))] : List Task)), (k_3 - 1)))
  else
    (keep2_Tasks_k4 lout_3 y5 lr_1_1 lr_2_2 y8 y11 ())
def keep2_Tasks_k2 (y2 : Keep_Source) (s_2_1 : Int) (y5 : Int × Int) (lr_1_1 : List EmptyT) (lr_2_2 : List Int) (y8 : Int × Int) (y11 : Int × Int) : Unit → Option ((List Task) × Rules) := fun _ =>
  (keep_Source_Next_m (Keep_Source.mk y2.l s_2_1) 6).bind fun y48 =>
  iter (keep2_Tasks_b3 y2 y5 lr_1_1 lr_2_2 y8 y11) FUEL (y48.2, ([] : List Task), y48.1)
def keep2_Tasks_b2 (y2 : Keep_Source) (y5 : Int × Int) (lr_1_1 : List EmptyT) (y8 : Int × Int) (y11 : Int × Int) (cont2 : (Int × (List Int) × Nat) → Option ((List Task) × Rules)) : (Int × (List Int) × Nat) → Option ((List Task) × Rules) := fun (s_2_1, lr_2_2, k_2) =>
  if decide ((k_2 : Int) < 3) then
    ((keep_Source_Next_m (Keep_Source.mk y2.l s_2_1) 2).bind fun y41 =>
    if decide (y41.1 = 0) then
      (chk (decide ((lr_2_2.length + ([(k_2 : Int)] : List Int).length) * 8 ≤ 140737488355328)) <|
      keep2_Tasks_k3 cont2 k_2 (y41.2, (lr_2_2 ++ ([(k_2 : Int)] : List Int))))
    else
      (keep2_Tasks_k3 cont2 k_2 (y41.2, lr_2_2)))
  else
    (keep2_Tasks_k2 y2 s_2_1 y5 lr_1_1 lr_2_2 y8 y11 ())
def keep2_Tasks_k1 (y2 : Keep_Source) (y5 : Int × Int) (lr_1_1 : List EmptyT) (y8 : Int × Int) (y11 : Int × Int) (s_1_1 : Int) : Unit → Option ((List Task) × Rules) := fun _ =>
  iter (keep2_Tasks_b2 y2 y5 lr_1_1 y8 y11) FUEL (s_1_1, ([] : List Int), 0)
def keep2_Tasks_b1 (y2 : Keep_Source) (y5 : Int × Int) (y8 : Int × Int) (y11 : Int × Int) (cont1 : (Int × (List EmptyT) × Int) → Option ((List Task) × Rules)) : (Int × (List EmptyT) × Int) → Option ((List Task) × Rules) := fun (s_1_1, lr_1_1, k_1) =>
  if decide (0 < k_1) then
    ((keep_Source_Next_m (Keep_Source.mk y2.l s_1_1) 3).bind fun y24 =>
    chk (i64b (y24.1 + 1)) <|
    (keep_Source_Next_m (Keep_Source.mk y2.l y24.2) 2).bind fun y28 =>
    chk (i64b ((y24.1 + 1) + y28.1)) <|
    (keep_Source_Next_m (Keep_Source.mk y2.l y28.2) 20).bind fun y32 =>
    chk (i64b (1 + y32.1)) <|
    chk (decide ((lr_1_1.length + ([(EmptyT.mk y24.1 (((y24.1 + 1) + y28.1).tmod 3) (1 + y32.1))] : List EmptyT).length) * 24 ≤ 140737488355328)) <|
    chk (i64b (k_1 - 1)) <|
    cont1 (y32.2, (lr_1_1 ++ ([(EmptyT.mk y24.1 (((y24.1 + 1) + y28.1).tmod 3) (1 + y32.1))] : List EmptyT)), (k_1 - 1)))
  else
    (keep2_Tasks_k1 y2 y5 lr_1_1 y8 y11 s_1_1 ())
def keep2_Tasks_m (l0 : List Int) : Option ((List Task) × Rules) :=
  (keep_From_m l0).bind fun y2 =>
  (keep_Source_Next_m y2 8).bind fun y5 =>
  (keep_Source_Next_m (Keep_Source.mk y2.l y5.2) 30).bind fun y8 =>
  (keep_Source_Next_m (Keep_Source.mk y2.l y8.2) 60).bind fun y11 =>
  chk (i64b (10 + y11.1)) <|
  (keep_Source_Next_m (Keep_Source.mk y2.l y11.2) 4).bind fun y16 =>
  iter (keep2_Tasks_b1 y2 y5 y8 y11) FUEL (y16.2, ([] : List EmptyT), y16.1)
theorem keep2_Tasks_spec (S : Soup) (w : World) (l0 : List Int) (r_l0 : GoRep.R (List Int)) (y : (List Task) × Rules) (hM : keep2_Tasks_m l0 = some y) (hS : ∀ k, S k → k < w.heap.size) (h_l0 : GoRep.ok S w r_l0 l0) :
    Calls Try.prog 33 #[.slice r_l0.a l0.length r_l0.cap] w (Post (β := (GoRep.R (List Task)) × (GoRep.R Rules)) S [] (fun g => .tuple #[.slice g.1.a y.1.length g.1.cap, .agg #[.int .i64 y.2.Turn, .slice g.2.1.a y.2.Empties.length g.2.1.cap, .slice g.2.2.a y.2.Shops.length g.2.2.cap, .int .i64 y.2.Service, .int .i64 y.2.Limit]]) (fun g => [trow 60 g.1 y.1, trow 58 g.2.1 y.2.Empties, trow 3 g.2.2 y.2.Shops]) w) := by
  refine calls_cw (args := [_]) Try.func33 rfl ((pre_nil hS).start |>.immP (α := List Int) (r := r_l0) (x := l0) h_l0) rfl ?_
  unfold keep2_Tasks_m at hM
  refine cw_seq fun K1 hK1 => ?_
  refine cw_region ?_
  refine ow_ev ev_assign ?_
  refine ow_cons (st_alloc rfl (k := fun b1 => ?_))
  refine ow_nil (hK1 _ _ ?_); clear hK1
  refine cw_seq fun K2 hK2 => ?_
  refine cw_region ?_
  refine ow_ev ev_move ?_
  obtain ⟨y2, hy3, hM⟩ := bind_some hM
  refine ow_cons (st_callS SelL.nil (fun S w hs hP => keep_From_spec _ w l0 r_l0 y2 hy3 hs.lt ((Sk.imm (α := List Int) (r := r_l0) (x := l0) (by repeat (first | exact Has.head | apply Has.tail))) S w hs))  (fun r4 => ?_))
  dsimp only [List.cons_append, List.nil_append]
  refine ow_ev ev_assign ?_
  refine ow_nil (hK2 _ _ ?_); clear hK2
  refine cw_seq fun K3 hK3 => ?_
  refine cw_region ?_
  refine ow_ev ev_move ?_
  obtain ⟨y5, hy6, hM⟩ := bind_some hM
  refine ow_cons (st_callF (by repeat (first | exact SelL.nil | (apply SelL.cons; · (repeat (first | exact Sel.head | apply Sel.tail))))) (fun S w hs hP => keep_Source_Next_spec _ w r4.1 y2 r4.2 8 y5 hy6 hP (Kn.lend (Kn.imm (α := List Int) (r := r4.2) (x := y2.l) (by repeat (first | exact Has.head | apply Has.tail))) hs)) (by intro r c hc; simp only [List.mem_cons, List.not_mem_nil, or_false] at hc; rcases hc with rfl <;> first | exact flatC_own | exact flatC_trow (fun _ _ _ _ => trivial)) (fun r7 => ?_))
  dsimp only [List.cons_append, List.nil_append]
  refine ow_ev ev_move ?_
  obtain ⟨y8, hy9, hM⟩ := bind_some hM
  refine ow_cons (st_callF (by repeat (first | exact SelL.nil | (apply SelL.cons; · (repeat (first | exact Sel.head | apply Sel.tail))))) (fun S w hs hP => keep_Source_Next_spec _ w r4.1 (Keep_Source.mk y2.l y5.2) r4.2 30 y8 hy9 hP (Kn.lend (Kn.imm (α := List Int) (r := r4.2) (x := y2.l) (by repeat (first | exact Has.head | apply Has.tail))) hs)) (by intro r c hc; simp only [List.mem_cons, List.not_mem_nil, or_false] at hc; rcases hc with rfl <;> first | exact flatC_own | exact flatC_trow (fun _ _ _ _ => trivial)) (fun r10 => ?_))
  dsimp only [List.cons_append, List.nil_append]
  refine ow_ev ev_move ?_
  obtain ⟨y11, hy12, hM⟩ := bind_some hM
  refine ow_cons (st_callF (by repeat (first | exact SelL.nil | (apply SelL.cons; · (repeat (first | exact Sel.head | apply Sel.tail))))) (fun S w hs hP => keep_Source_Next_spec _ w r4.1 (Keep_Source.mk y2.l y8.2) r4.2 60 y11 hy12 hP (Kn.lend (Kn.imm (α := List Int) (r := r4.2) (x := y2.l) (by repeat (first | exact Has.head | apply Has.tail))) hs)) (by intro r c hc; simp only [List.mem_cons, List.not_mem_nil, or_false] at hc; rcases hc with rfl <;> first | exact flatC_own | exact flatC_trow (fun _ _ _ _ => trivial)) (fun r13 => ?_))
  dsimp only [List.cons_append, List.nil_append]
  obtain ⟨hI14, hM⟩ := chk_some hM
  refine ow_ev (ev_add (hr := fun hg => i64b_I64 hI14)) ?_
  refine ow_ev (ev_build [.int .i64 y5.1, .slice none 0 0, .slice none 0 0, .int .i64 y8.1, .int .i64 (10 + y11.1)]) ?_
  refine ow_cons (st_alloc rfl (k := fun b15 => ?_))
  refine ow_cons (st_store_all (b := b15) (vs := [.int .i64 y5.1, .slice none 0 0, .slice none 0 0, .int .i64 y8.1, .int .i64 (10 + y11.1)]) (k := ?_))
  refine ow_nil (hK3 _ _ ?_); clear hK3
  refine cw_seq fun K4 hK4 => ?_
  refine cw_seq fun K5 hK5 => ?_
  refine cw_region ?_
  refine ow_ev ev_move ?_
  obtain ⟨y16, hy17, hM⟩ := bind_some hM
  refine ow_cons (st_callF (by repeat (first | exact SelL.nil | (apply SelL.cons; · (repeat (first | exact Sel.head | apply Sel.tail))))) (fun S w hs hP => keep_Source_Next_spec _ w r4.1 (Keep_Source.mk y2.l y11.2) r4.2 4 y16 hy17 hP (Kn.lend (Kn.imm (α := List Int) (r := r4.2) (x := y2.l) (by repeat (first | exact Has.head | apply Has.tail))) hs)) (by intro r c hc; simp only [List.mem_cons, List.not_mem_nil, or_false] at hc; rcases hc with rfl <;> first | exact flatC_own | exact flatC_trow (fun _ _ _ _ => trivial)) (fun r18 => ?_))
  dsimp only [List.cons_append, List.nil_append]
  refine ow_ev ev_assign ?_
  refine ow_nil (hK5 _ _ ?_); clear hK5
  refine cw_block ?_
  refine cw_imp (fun w hm => hm.row_nil (α := EmptyT) 58 (fun _ => ())) ?_
  refine cw_imp (fun w hm => hm.row_nil (α := Int) 3 (fun _ => ())) ?_
  refine cw_imp (fun w hm => hm.row_nil (α := EmptyT) 58 (fun _ => ())) ?_
  refine cw_imp (fun w hm => hm.row_nil (α := Int) 3 (fun _ => ())) ?_
  refine cw_loop (γ := Nat × (Int × (List EmptyT) × Int) × (SR (GoRep.R EmptyT))) (env := fun (_, (s_1_1, lr_1_1, k_1), rr_1_1) => [(3, .v (.pointer (some ⟨b1, 0, none⟩))), (4, .v (.pointer (some ⟨r4.1, 0, none⟩))), (5, .v (.pointer (some ⟨b15, 0, none⟩))), (6, .v (.int .i64 k_1))]) (mem := fun (_, (s_1_1, lr_1_1, k_1), rr_1_1) => [trow 58 (⟨none, 0, (fun _ => ())⟩ : SR (GoRep.R EmptyT)   ) ([] : List EmptyT), trow 3 (⟨none, 0, (fun _ => ())⟩ : SR (GoRep.R Int)    ) ([] : List Int), own b1 53 [.int .i64 0, .slice (⟨none, 0, (fun _ => ())⟩ : SR (GoRep.R EmptyT)   ).a (([] : List EmptyT).length) (⟨none, 0, (fun _ => ())⟩ : SR (GoRep.R EmptyT)   ).cap, .slice (⟨none, 0, (fun _ => ())⟩ : SR (GoRep.R Int)    ).a (([] : List Int).length) (⟨none, 0, (fun _ => ())⟩ : SR (GoRep.R Int)    ).cap, .int .i64 0, .int .i64 0], imm (α := (List Int)) r4.2 y2.l, own r4.1 99 [.slice r4.2.a y2.l.length r4.2.cap, .int .i64 s_1_1], trow 58 rr_1_1 lr_1_1, trow 3 (⟨none, 0, (fun _ => ())⟩ : SR (GoRep.R Int)  ) ([] : List Int), own b15 53 [.int .i64 y5.1, .slice rr_1_1.a lr_1_1.length rr_1_1.cap, .slice (⟨none, 0, (fun _ => ())⟩ : SR (GoRep.R Int)  ).a (([] : List Int).length) (⟨none, 0, (fun _ => ())⟩ : SR (GoRep.R Int)  ).cap, .int .i64 y8.1, .int .i64 (10 + y11.1)]]) (R := fun g => iter (keep2_Tasks_b1 y2 y5 y8 y11) g.1 g.2.1 = some y) (μ := fun g => g.1) (FUEL, (y16.2, ([] : List EmptyT), y16.1), (⟨none, 0, (fun _ => ())⟩ : SR (GoRep.R EmptyT) )) hM ⟨rfl, rfl, rfl, rfl, trivial⟩ (fun w hm => hm.reord) ?_
  clear hM
  intro g hM KL1 hL1
  obtain ⟨nn1, ⟨s_1_1, lr_1_1, k_1⟩, rr_1_1⟩ := g
  dsimp only at hM ⊢
  obtain ⟨nn1, cont1, rfl, hcont1, hM⟩ := iter_open' hM
  dsimp only [keep2_Tasks_b1] at hM
  refine cw_seq fun K6 hK6 => ?_
  refine cw_seq fun K7 hK7 => ?_
  refine cw_region ?_
  refine ow_ev ev_move ?_
  refine ow_ev ev_gtr ?_
  refine ow_nil (hK7 _ _ ?_); clear hK7
  refine cw_cond rfl (fun hc23 => ?_) (fun hc23 => ?_)
  ·
    replace hM := (ite_t hc23).symm.trans hM
    refine cw_skip (hK6 _ _ ?_); clear hK6
    refine cw_seq fun K8 hK8 => ?_
    refine cw_block ?_
    refine cw_seq fun K9 hK9 => ?_
    refine cw_region ?_
    refine ow_ev ev_move ?_
    obtain ⟨y24, hy25, hM⟩ := bind_some hM
    refine ow_cons (st_callF (by repeat (first | exact SelL.nil | (apply SelL.cons; · (repeat (first | exact Sel.head | apply Sel.tail))))) (fun S w hs hP => keep_Source_Next_spec _ w r4.1 (Keep_Source.mk y2.l s_1_1) r4.2 3 y24 hy25 hP (Kn.lend (Kn.imm (α := List Int) (r := r4.2) (x := y2.l) (by repeat (first | exact Has.head | apply Has.tail))) hs)) (by intro r c hc; simp only [List.mem_cons, List.not_mem_nil, or_false] at hc; rcases hc with rfl <;> first | exact flatC_own | exact flatC_trow (fun _ _ _ _ => trivial)) (fun r26 => ?_))
    dsimp only [List.cons_append, List.nil_append]
    refine ow_ev ev_assign ?_
    refine ow_nil (hK9 _ _ ?_); clear hK9
    refine cw_region_z [trow 58 (⟨none, 0, (fun _ => ())⟩ : SR (GoRep.R EmptyT)   ) ([] : List EmptyT), trow 3 (⟨none, 0, (fun _ => ())⟩ : SR (GoRep.R Int)    ) ([] : List Int), own b1 53 [.int .i64 0, .slice (⟨none, 0, (fun _ => ())⟩ : SR (GoRep.R EmptyT)   ).a (([] : List EmptyT).length) (⟨none, 0, (fun _ => ())⟩ : SR (GoRep.R EmptyT)   ).cap, .slice (⟨none, 0, (fun _ => ())⟩ : SR (GoRep.R Int)    ).a (([] : List Int).length) (⟨none, 0, (fun _ => ())⟩ : SR (GoRep.R Int)    ).cap, .int .i64 0, .int .i64 0], imm (α := (List Int)) r4.2 y2.l, trow 3 (⟨none, 0, (fun _ => ())⟩ : SR (GoRep.R Int)  ) ([] : List Int), own b15 53 [.int .i64 y5.1, .slice rr_1_1.a lr_1_1.length rr_1_1.cap, .slice (⟨none, 0, (fun _ => ())⟩ : SR (GoRep.R Int)  ).a (([] : List Int).length) (⟨none, 0, (fun _ => ())⟩ : SR (GoRep.R Int)  ).cap, .int .i64 y8.1, .int .i64 (10 + y11.1)]] 16 ?_
    refine az_ev 0 rfl (ev_field_addr 1) ?_
    refine az_ev 1 rfl (ev_load_own (b := b15)) ?_
    refine az_ev 2 rfl ev_move ?_
    refine az_ev 3 rfl ev_move ?_
    obtain ⟨hI27, hM⟩ := chk_some hM
    refine az_ev 4 rfl (ev_add (hr := fun hg => i64b_I64 hI27)) ?_
    refine az_ev 5 rfl ev_move ?_
    refine az_ev 9 rfl ev_move ?_
    obtain ⟨y28, hy29, hM⟩ := bind_some hM
    refine az_one 6 rfl (st_callF (by repeat (first | exact SelL.nil | (apply SelL.cons; · (repeat (first | exact Sel.head | apply Sel.tail))))) (fun S w hs hP => keep_Source_Next_spec _ w r4.1 (Keep_Source.mk y2.l y24.2) r4.2 2 y28 hy29 hP (Kn.lend (Kn.imm (α := List Int) (r := r4.2) (x := y2.l) (by repeat (first | exact Has.head | apply Has.tail))) hs)) (by intro r c hc; simp only [List.mem_cons, List.not_mem_nil, or_false] at hc; rcases hc with rfl <;> first | exact flatC_own | exact flatC_trow (fun _ _ _ _ => trivial)) (fun r30 => ⟨fun w hm => hm.sub (by repeat (first | exact List.Sublist.refl _ | apply List.Sublist.cons_cons | apply List.Sublist.cons)), ?_⟩))
    dsimp only [List.cons_append, List.nil_append]
    obtain ⟨hI31, hM⟩ := chk_some hM
    refine az_ev 7 rfl (ev_add (hr := fun hg => i64b_I64 hI31)) ?_
    refine az_ev 8 rfl ev_rem ?_
    obtain ⟨y32, hy33, hM⟩ := bind_some hM
    refine az_one 10 rfl (st_callF (by repeat (first | exact SelL.nil | (apply SelL.cons; · (repeat (first | exact Sel.head | apply Sel.tail))))) (fun S w hs hP => keep_Source_Next_spec _ w r4.1 (Keep_Source.mk y2.l y28.2) r4.2 20 y32 hy33 hP (Kn.lend (Kn.imm (α := List Int) (r := r4.2) (x := y2.l) (by repeat (first | exact Has.head | apply Has.tail))) hs)) (by intro r c hc; simp only [List.mem_cons, List.not_mem_nil, or_false] at hc; rcases hc with rfl <;> first | exact flatC_own | exact flatC_trow (fun _ _ _ _ => trivial)) (fun r34 => ⟨fun w hm => hm.sub (by repeat (first | exact List.Sublist.refl _ | apply List.Sublist.cons_cons | apply List.Sublist.cons)), ?_⟩))
    dsimp only [List.cons_append, List.nil_append]
    obtain ⟨hI35, hM⟩ := chk_some hM
    refine az_ev 11 rfl (ev_add (hr := fun hg => i64b_I64 hI35)) ?_
    refine az_ev 12 rfl (ev_build [.int .i64 y24.1, .int .i64 (((y24.1 + 1) + y28.1).tmod 3), .int .i64 (1 + y32.1)]) ?_
    refine az_one 13 rfl (st_bslice (α := EmptyT) 58 (fun _ => ()) ([(EmptyT.mk y24.1 (((y24.1 + 1) + y28.1).tmod 3) (1 + y32.1))] : List EmptyT) (OkL.flat (fun _ _ _ _ => trivial)) (fun r36 => ⟨fun w hm => hm.sub (by repeat (first | exact List.Sublist.refl _ | apply List.Sublist.cons_cons | apply List.Sublist.cons)), ?_⟩))
    obtain ⟨hb37, hM⟩ := chk_some hM
    refine az_one 14 rfl (st_append (r := rr_1_1) (r2 := r36) (by intro r'; repeat (first | exact Upd.head | apply Upd.tail)) (Kn.trow (e := 58) (r := r36) (by repeat (first | exact Has.head | apply Has.tail))) (OkL.flat (fun _ _ _ _ => trivial)) (of_decide_eq_true hb37) (fun r38 => ⟨fun w hm => hm.sub (by repeat (first | exact List.Sublist.refl _ | apply List.Sublist.cons_cons | apply List.Sublist.cons)), ?_⟩))
    refine az_ev 15 rfl (ev_field_addr 1) ?_
    refine az_last rfl (st_store_own (b := b15) (l' := [.int .i64 y5.1, .slice r38.a ((lr_1_1 ++ ([(EmptyT.mk y24.1 (((y24.1 + 1) + y28.1).tmod 3) (1 + y32.1))] : List EmptyT)).length) r38.cap, .slice (⟨none, 0, (fun _ => ())⟩ : SR (GoRep.R Int)  ).a (([] : List Int).length) (⟨none, 0, (fun _ => ())⟩ : SR (GoRep.R Int)  ).cap, .int .i64 y8.1, .int .i64 (10 + y11.1)]) (k := ?_))
    refine az_done (hK8 _ _ ?_); clear hK8
    refine cw_region ?_
    refine ow_ev ev_move ?_
    obtain ⟨hI39, hM⟩ := chk_some hM
    refine ow_ev (ev_sub (hr := fun hg => i64b_I64 hI39)) ?_
    refine ow_ev ev_assign ?_
    refine ow_nil (hL1 (nn1, (y32.2, (lr_1_1 ++ ([(EmptyT.mk y24.1 (((y24.1 + 1) + y28.1).tmod 3) (1 + y32.1))] : List EmptyT)), (k_1 - 1)), r38) _ _ (eqc hcont1 hM) (Nat.lt_succ_self _) ⟨rfl, rfl, rfl, rfl, trivial⟩ (fun w hm => hm.reord))
  ·
    replace hM := (ite_f hc23).symm.trans hM
    refine cw_exit (hK4 _ _ ?_); clear hK4
    dsimp only [keep2_Tasks_k1] at hM
    refine cw_seq fun K10 hK10 => ?_
    refine cw_seq fun K11 hK11 => ?_
    refine cw_region ?_
    refine ow_ev ev_assign ?_
    refine ow_nil (hK11 _ _ ?_); clear hK11
    refine cw_block ?_
    refine cw_loop (γ := Nat × (Int × (List Int) × Nat) × (SR (GoRep.R Int))) (env := fun (_, (s_2_1, lr_2_2, k_2), rr_2_2) => [(3, .v (.pointer (some ⟨b1, 0, none⟩))), (4, .v (.pointer (some ⟨r4.1, 0, none⟩))), (5, .v (.pointer (some ⟨b15, 0, none⟩))), (8, .v (.int .i64 (k_2 : Int)))]) (mem := fun (_, (s_2_1, lr_2_2, k_2), rr_2_2) => [trow 58 (⟨none, 0, (fun _ => ())⟩ : SR (GoRep.R EmptyT)   ) ([] : List EmptyT), trow 3 (⟨none, 0, (fun _ => ())⟩ : SR (GoRep.R Int)    ) ([] : List Int), own b1 53 [.int .i64 0, .slice (⟨none, 0, (fun _ => ())⟩ : SR (GoRep.R EmptyT)   ).a (([] : List EmptyT).length) (⟨none, 0, (fun _ => ())⟩ : SR (GoRep.R EmptyT)   ).cap, .slice (⟨none, 0, (fun _ => ())⟩ : SR (GoRep.R Int)    ).a (([] : List Int).length) (⟨none, 0, (fun _ => ())⟩ : SR (GoRep.R Int)    ).cap, .int .i64 0, .int .i64 0], imm (α := (List Int)) r4.2 y2.l, own r4.1 99 [.slice r4.2.a y2.l.length r4.2.cap, .int .i64 s_2_1], trow 58 rr_1_1 lr_1_1, trow 3 rr_2_2 lr_2_2, own b15 53 [.int .i64 y5.1, .slice rr_1_1.a lr_1_1.length rr_1_1.cap, .slice rr_2_2.a lr_2_2.length rr_2_2.cap, .int .i64 y8.1, .int .i64 (10 + y11.1)]]) (R := fun g => iter (keep2_Tasks_b2 y2 y5 lr_1_1 y8 y11) g.1 g.2.1 = some y) (μ := fun g => g.1) (FUEL, (s_1_1, ([] : List Int), 0), (⟨none, 0, (fun _ => ())⟩ : SR (GoRep.R Int)  )) hM ⟨rfl, rfl, rfl, rfl, trivial⟩ (fun w hm => hm.reord) ?_
    clear hM
    intro g hM KL2 hL2
    obtain ⟨nn2, ⟨s_2_1, lr_2_2, k_2⟩, rr_2_2⟩ := g
    dsimp only at hM ⊢
    obtain ⟨nn2, cont2, rfl, hcont2, hM⟩ := iter_open' hM
    dsimp only [keep2_Tasks_b2] at hM
    refine cw_seq fun K12 hK12 => ?_
    refine cw_seq fun K13 hK13 => ?_
    refine cw_region ?_
    refine ow_ev ev_move ?_
    refine ow_ev ev_lss ?_
    refine ow_nil (hK13 _ _ ?_); clear hK13
    refine cw_cond rfl (fun hc40 => ?_) (fun hc40 => ?_)
    ·
      replace hM := (ite_t hc40).symm.trans hM
      have hc40d := of_decide_eq_true hc40
      refine cw_skip (hK12 _ _ ?_); clear hK12
      refine cw_cut (γ := (Int × (List Int)) × (SR (GoRep.R Int))) (env := fun ((s_j3_1, lr_j3_2), rr_j3_2) => [(3, .v (.pointer (some ⟨b1, 0, none⟩))), (4, .v (.pointer (some ⟨r4.1, 0, none⟩))), (5, .v (.pointer (some ⟨b15, 0, none⟩))), (8, .v (.int .i64 (k_2 : Int)))]) (mem := fun ((s_j3_1, lr_j3_2), rr_j3_2) => [trow 58 (⟨none, 0, (fun _ => ())⟩ : SR (GoRep.R EmptyT)   ) ([] : List EmptyT), trow 3 (⟨none, 0, (fun _ => ())⟩ : SR (GoRep.R Int)    ) ([] : List Int), own b1 53 [.int .i64 0, .slice (⟨none, 0, (fun _ => ())⟩ : SR (GoRep.R EmptyT)   ).a (([] : List EmptyT).length) (⟨none, 0, (fun _ => ())⟩ : SR (GoRep.R EmptyT)   ).cap, .slice (⟨none, 0, (fun _ => ())⟩ : SR (GoRep.R Int)    ).a (([] : List Int).length) (⟨none, 0, (fun _ => ())⟩ : SR (GoRep.R Int)    ).cap, .int .i64 0, .int .i64 0], imm (α := (List Int)) r4.2 y2.l, own r4.1 99 [.slice r4.2.a y2.l.length r4.2.cap, .int .i64 s_j3_1], trow 58 rr_1_1 lr_1_1, trow 3 rr_j3_2 lr_j3_2, own b15 53 [.int .i64 y5.1, .slice rr_1_1.a lr_1_1.length rr_1_1.cap, .slice rr_j3_2.a lr_j3_2.length rr_j3_2.cap, .int .i64 y8.1, .int .i64 (10 + y11.1)]]) (R := fun g => keep2_Tasks_k3 cont2 k_2 g.1 = some y) ?_ ?_
      · intro KJ3 hJ3
        refine cw_block ?_
        refine cw_seq fun K14 hK14 => ?_
        refine cw_region ?_
        refine ow_ev ev_move ?_
        obtain ⟨y41, hy42, hM⟩ := bind_some hM
        refine ow_cons (st_callF (by repeat (first | exact SelL.nil | (apply SelL.cons; · (repeat (first | exact Sel.head | apply Sel.tail))))) (fun S w hs hP => keep_Source_Next_spec _ w r4.1 (Keep_Source.mk y2.l s_2_1) r4.2 2 y41 hy42 hP (Kn.lend (Kn.imm (α := List Int) (r := r4.2) (x := y2.l) (by repeat (first | exact Has.head | apply Has.tail))) hs)) (by intro r c hc; simp only [List.mem_cons, List.not_mem_nil, or_false] at hc; rcases hc with rfl <;> first | exact flatC_own | exact flatC_trow (fun _ _ _ _ => trivial)) (fun r43 => ?_))
        dsimp only [List.cons_append, List.nil_append]
        refine ow_ev ev_eql ?_
        refine ow_nil (hK14 _ _ ?_); clear hK14
        refine cw_cond rfl (fun hc44 => ?_) (fun hc44 => ?_)
        ·
          replace hM := (ite_t hc44).symm.trans hM
          refine cw_region ?_
          refine ow_ev (ev_field_addr 2) ?_
          refine ow_ev (ev_load_own (b := b15)) ?_
          refine ow_ev ev_move ?_
          refine ow_cons (st_bslice (α := Int) 3 (fun _ => ()) ([(k_2 : Int)] : List Int) (OkL.flat (fun _ _ _ _ => trivial)) (fun r45 => ?_))
          obtain ⟨hb46, hM⟩ := chk_some hM
          refine ow_cons (st_append (r := rr_2_2) (r2 := r45) (by intro r'; repeat (first | exact Upd.head | apply Upd.tail)) (Kn.trow (e := 3) (r := r45) (by repeat (first | exact Has.head | apply Has.tail))) (OkL.flat (fun _ _ _ _ => trivial)) (of_decide_eq_true hb46) (fun r47 => ?_))
          refine ow_ev (ev_field_addr 2) ?_
          refine ow_cons (st_store_own (b := b15) (l' := [.int .i64 y5.1, .slice rr_1_1.a lr_1_1.length rr_1_1.cap, .slice r47.a ((lr_2_2 ++ ([(k_2 : Int)] : List Int)).length) r47.cap, .int .i64 y8.1, .int .i64 (10 + y11.1)]) (k := ?_))
          refine ow_nil (hJ3 ((y41.2, (lr_2_2 ++ ([(k_2 : Int)] : List Int))), r47) _ _ hM ⟨rfl, rfl, rfl, rfl, trivial⟩ (fun w hm => hm.reord))
        ·
          replace hM := (ite_f hc44).symm.trans hM
          refine cw_skip (hJ3 ((y41.2, lr_2_2), rr_2_2) _ _ hM ⟨rfl, rfl, rfl, rfl, trivial⟩ (fun w hm => hm.reord))
      ·
        clear hM
        intro g hM
        obtain ⟨⟨s_j3_1, lr_j3_2⟩, rr_j3_2⟩ := g
        dsimp only at hM ⊢
        dsimp only [keep2_Tasks_k3] at hM
        refine cw_region ?_
        refine ow_ev ev_move ?_
        refine ow_ev (ev_add (hr := fun _ => by unfold I64; omega)) ?_
        refine ow_ev ev_assign ?_
        refine ow_nil (hL2 (nn2, (s_j3_1, lr_j3_2, k_2 + 1), rr_j3_2) _ _ (eqc hcont2 hM) (Nat.lt_succ_self _) ⟨rfl, rfl, rfl, rfl, trivial⟩ (fun w hm => hm.reord))
    ·
      replace hM := (ite_f hc40).symm.trans hM
      refine cw_exit (hK10 _ _ ?_); clear hK10
      dsimp only [keep2_Tasks_k2] at hM
      refine cw_seq fun K15 hK15 => ?_
      refine cw_region ?_
      refine ow_ev ev_assign ?_
      refine ow_nil (hK15 _ _ ?_); clear hK15
      refine cw_seq fun K16 hK16 => ?_
      refine cw_seq fun K17 hK17 => ?_
      refine cw_region ?_
      refine ow_ev ev_move ?_
      obtain ⟨y48, hy49, hM⟩ := bind_some hM
      refine ow_cons (st_callF (by repeat (first | exact SelL.nil | (apply SelL.cons; · (repeat (first | exact Sel.head | apply Sel.tail))))) (fun S w hs hP => keep_Source_Next_spec _ w r4.1 (Keep_Source.mk y2.l s_2_1) r4.2 6 y48 hy49 hP (Kn.lend (Kn.imm (α := List Int) (r := r4.2) (x := y2.l) (by repeat (first | exact Has.head | apply Has.tail))) hs)) (by intro r c hc; simp only [List.mem_cons, List.not_mem_nil, or_false] at hc; rcases hc with rfl <;> first | exact flatC_own | exact flatC_trow (fun _ _ _ _ => trivial)) (fun r50 => ?_))
      dsimp only [List.cons_append, List.nil_append]
      refine ow_ev ev_assign ?_
      refine ow_nil (hK17 _ _ ?_); clear hK17
      refine cw_block ?_
      refine cw_imp (fun w hm => hm.row_nil (α := Task) 60 (fun _ => ())) ?_
      refine cw_loop (γ := Nat × (Int × (List Task) × Int) × (SR (GoRep.R Task))) (env := fun (_, (s_3_1, lout_3, k_3), rout_3) => [(3, .v (.pointer (some ⟨b1, 0, none⟩))), (4, .v (.pointer (some ⟨r4.1, 0, none⟩))), (5, .v (.pointer (some ⟨b15, 0, none⟩))), (9, .v (.slice rout_3.a lout_3.length rout_3.cap)), (10, .v (.int .i64 k_3))]) (mem := fun (_, (s_3_1, lout_3, k_3), rout_3) => [trow 58 (⟨none, 0, (fun _ => ())⟩ : SR (GoRep.R EmptyT)   ) ([] : List EmptyT), trow 3 (⟨none, 0, (fun _ => ())⟩ : SR (GoRep.R Int)    ) ([] : List Int), own b1 53 [.int .i64 0, .slice (⟨none, 0, (fun _ => ())⟩ : SR (GoRep.R EmptyT)   ).a (([] : List EmptyT).length) (⟨none, 0, (fun _ => ())⟩ : SR (GoRep.R EmptyT)   ).cap, .slice (⟨none, 0, (fun _ => ())⟩ : SR (GoRep.R Int)    ).a (([] : List Int).length) (⟨none, 0, (fun _ => ())⟩ : SR (GoRep.R Int)    ).cap, .int .i64 0, .int .i64 0], imm (α := (List Int)) r4.2 y2.l, own r4.1 99 [.slice r4.2.a y2.l.length r4.2.cap, .int .i64 s_3_1], trow 58 rr_1_1 lr_1_1, trow 3 rr_2_2 lr_2_2, own b15 53 [.int .i64 y5.1, .slice rr_1_1.a lr_1_1.length rr_1_1.cap, .slice rr_2_2.a lr_2_2.length rr_2_2.cap, .int .i64 y8.1, .int .i64 (10 + y11.1)], trow 60 rout_3 lout_3]) (R := fun g => iter (keep2_Tasks_b3 y2 y5 lr_1_1 lr_2_2 y8 y11) g.1 g.2.1 = some y) (μ := fun g => g.1) (FUEL, (y48.2, ([] : List Task), y48.1), (⟨none, 0, (fun _ => ())⟩ : SR (GoRep.R Task)                   )) hM ⟨rfl, rfl, rfl, rfl, rfl, trivial⟩ (fun w hm => hm.reord) ?_
      clear hM
      intro g hM KL3 hL3
      obtain ⟨nn3, ⟨s_3_1, lout_3, k_3⟩, rout_3⟩ := g
      dsimp only at hM ⊢
      obtain ⟨nn3, cont3, rfl, hcont3, hM⟩ := iter_open' hM
      dsimp only [keep2_Tasks_b3] at hM
      refine cw_seq fun K18 hK18 => ?_
      refine cw_seq fun K19 hK19 => ?_
      refine cw_region ?_
      refine ow_ev ev_move ?_
      refine ow_ev ev_gtr ?_
      refine ow_nil (hK19 _ _ ?_); clear hK19
      refine cw_cond rfl (fun hc52 => ?_) (fun hc52 => ?_)
      ·
        replace hM := (ite_t hc52).symm.trans hM
        refine cw_skip (hK18 _ _ ?_); clear hK18
        refine cw_seq fun K20 hK20 => ?_
        refine cw_block ?_
        refine cw_seq fun K21 hK21 => ?_
        refine cw_region ?_
        refine ow_ev ev_move ?_
        obtain ⟨y53, hy54, hM⟩ := bind_some hM
        refine ow_cons (st_callF (by repeat (first | exact SelL.nil | (apply SelL.cons; · (repeat (first | exact Sel.head | apply Sel.tail))))) (fun S w hs hP => keep_Source_Next_spec _ w r4.1 (Keep_Source.mk y2.l s_3_1) r4.2 120 y53 hy54 hP (Kn.lend (Kn.imm (α := List Int) (r := r4.2) (x := y2.l) (by repeat (first | exact Has.head | apply Has.tail))) hs)) (by intro r c hc; simp only [List.mem_cons, List.not_mem_nil, or_false] at hc; rcases hc with rfl <;> first | exact flatC_own | exact flatC_trow (fun _ _ _ _ => trivial)) (fun r55 => ?_))
        dsimp only [List.cons_append, List.nil_append]
        refine ow_ev ev_assign ?_
        refine ow_nil (hK21 _ _ ?_); clear hK21
        refine cw_region ?_
        refine ow_ev ev_move ?_
        refine ow_ev ev_move ?_
        obtain ⟨y56, hy57, hM⟩ := bind_some hM
        refine ow_cons (st_callF (by repeat (first | exact SelL.nil | (apply SelL.cons; · (repeat (first | exact Sel.head | apply Sel.tail))))) (fun S w hs hP => keep_Source_Next_spec _ w r4.1 (Keep_Source.mk y2.l y53.2) r4.2 4 y56 hy57 hP (Kn.lend (Kn.imm (α := List Int) (r := r4.2) (x := y2.l) (by repeat (first | exact Has.head | apply Has.tail))) hs)) (by intro r c hc; simp only [List.mem_cons, List.not_mem_nil, or_false] at hc; rcases hc with rfl <;> first | exact flatC_own | exact flatC_trow (fun _ _ _ _ => trivial)) (fun r58 => ?_))
        dsimp only [List.cons_append, List.nil_append]
        obtain ⟨hI59, hM⟩ := chk_some hM
        refine ow_ev (ev_quo' (hr := fun hg => quo_ok hI59)) ?_
        refine ow_ev ev_move ?_
        obtain ⟨y60, hy61, hM⟩ := bind_some hM
        refine ow_cons (st_callF (by repeat (first | exact SelL.nil | (apply SelL.cons; · (repeat (first | exact Sel.head | apply Sel.tail))))) (fun S w hs hP => keep_Source_Next_spec _ w r4.1 (Keep_Source.mk y2.l y56.2) r4.2 3 y60 hy61 hP (Kn.lend (Kn.imm (α := List Int) (r := r4.2) (x := y2.l) (by repeat (first | exact Has.head | apply Has.tail))) hs)) (by intro r c hc; simp only [List.mem_cons, List.not_mem_nil, or_false] at hc; rcases hc with rfl <;> first | exact flatC_own | exact flatC_trow (fun _ _ _ _ => trivial)) (fun r62 => ?_))
        dsimp only [List.cons_append, List.nil_append]
        refine ow_ev ev_move ?_
        obtain ⟨y63, hy64, hM⟩ := bind_some hM
        refine ow_cons (st_callF (by repeat (first | exact SelL.nil | (apply SelL.cons; · (repeat (first | exact Sel.head | apply Sel.tail))))) (fun S w hs hP => keep_Source_Next_spec _ w r4.1 (Keep_Source.mk y2.l y60.2) r4.2 3 y63 hy64 hP (Kn.lend (Kn.imm (α := List Int) (r := r4.2) (x := y2.l) (by repeat (first | exact Has.head | apply Has.tail))) hs)) (by intro r c hc; simp only [List.mem_cons, List.not_mem_nil, or_false] at hc; rcases hc with rfl <;> first | exact flatC_own | exact flatC_trow (fun _ _ _ _ => trivial)) (fun r65 => ?_))
        dsimp only [List.cons_append, List.nil_append]
        refine ow_ev ev_move ?_
        refine ow_ev ev_move ?_
        obtain ⟨hI66, hM⟩ := chk_some hM
        refine ow_ev (ev_add (hr := fun hg => i64b_I64 hI66)) ?_
        refine ow_ev ev_move ?_
        obtain ⟨y67, hy68, hM⟩ := bind_some hM
        refine ow_cons (st_callF (by repeat (first | exact SelL.nil | (apply SelL.cons; · (repeat (first | exact Sel.head | apply Sel.tail))))) (fun S w hs hP => keep_Source_Next_spec _ w r4.1 (Keep_Source.mk y2.l y63.2) r4.2 30 y67 hy68 hP (Kn.lend (Kn.imm (α := List Int) (r := r4.2) (x := y2.l) (by repeat (first | exact Has.head | apply Has.tail))) hs)) (by intro r c hc; simp only [List.mem_cons, List.not_mem_nil, or_false] at hc; rcases hc with rfl <;> first | exact flatC_own | exact flatC_trow (fun _ _ _ _ => trivial)) (fun r69 => ?_))
        dsimp only [List.cons_append, List.nil_append]
        obtain ⟨hI70, hM⟩ := chk_some hM
        refine ow_ev (ev_add (hr := fun hg => i64b_I64 hI70)) ?_
        refine ow_ev (ev_build [.int .i64 (y56.1.tdiv 3), .int .i64 y60.1, .int .i64 y63.1, .int .i64 y53.1, .int .i64 ((y53.1 + 1) + y67.1)]) ?_
        refine ow_cons (st_bslice (α := Task) 60 (fun _ => ()) ([(Task.mk (y56.1.tdiv 3) y60.1 y63.1 y53.1 ((y53.1 + 1) + y67.1))] : List Task) (OkL.flat (fun _ _ _ _ => trivial)) (fun r71 => ?_))
        obtain ⟨hb72, hM⟩ := chk_some hM
        refine ow_cons (st_append (r := rout_3) (r2 := r71) (by intro r'; repeat (first | exact Upd.head | apply Upd.tail)) (Kn.trow (e := 60) (r := r71) (by repeat (first | exact Has.head | apply Has.tail))) (OkL.flat (fun _ _ _ _ => trivial)) (of_decide_eq_true hb72) (fun r73 => ?_))
        refine ow_ev ev_assign ?_
        refine ow_nil (hK20 _ _ ?_); clear hK20
        refine cw_region ?_
        refine ow_ev ev_move ?_
        obtain ⟨hI74, hM⟩ := chk_some hM
        refine ow_ev (ev_sub (hr := fun hg => i64b_I64 hI74)) ?_
        refine ow_ev ev_assign ?_
        refine ow_nil (hL3 (nn3, (y67.2, (lout_3 ++ ([(Task.mk (y56.1.tdiv 3) y60.1 y63.1 y53.1 ((y53.1 + 1) + y67.1))] : List Task)), (k_3 - 1)), r73) _ _ (eqc hcont3 hM) (Nat.lt_succ_self _) ⟨rfl, rfl, rfl, rfl, rfl, trivial⟩ (fun w hm => hm.reord))
      ·
        replace hM := (ite_f hc52).symm.trans hM
        refine cw_exit (hK16 _ _ ?_); clear hK16
        dsimp only [keep2_Tasks_k4] at hM
        refine cw_seq fun K22 hK22 => ?_
        refine cw_region_z [trow 58 (⟨none, 0, (fun _ => ())⟩ : SR (GoRep.R EmptyT)   ) ([] : List EmptyT), trow 3 (⟨none, 0, (fun _ => ())⟩ : SR (GoRep.R Int)    ) ([] : List Int), own b1 53 [.int .i64 0, .slice (⟨none, 0, (fun _ => ())⟩ : SR (GoRep.R EmptyT)   ).a (([] : List EmptyT).length) (⟨none, 0, (fun _ => ())⟩ : SR (GoRep.R EmptyT)   ).cap, .slice (⟨none, 0, (fun _ => ())⟩ : SR (GoRep.R Int)    ).a (([] : List Int).length) (⟨none, 0, (fun _ => ())⟩ : SR (GoRep.R Int)    ).cap, .int .i64 0, .int .i64 0], imm (α := (List Int)) r4.2 y2.l, own r4.1 99 [.slice r4.2.a y2.l.length r4.2.cap, .int .i64 s_3_1], trow 58 rr_1_1 lr_1_1, trow 3 rr_2_2 lr_2_2, own b15 53 [.int .i64 y5.1, .slice rr_1_1.a lr_1_1.length rr_1_1.cap, .slice rr_2_2.a lr_2_2.length rr_2_2.cap, .int .i64 y8.1, .int .i64 (10 + y11.1)], trow 60 rout_3 lout_3] 3 ?_
        refine az_ev 0 rfl ev_move ?_
        refine az_ev 1 rfl (ev_load_all (b := b15)) ?_
        refine az_ev 2 rfl ev_assign ?_
        refine az_last rfl (st_store_all (b := b1) (vs := [.int .i64 y5.1, .slice rr_1_1.a lr_1_1.length rr_1_1.cap, .slice rr_2_2.a lr_2_2.length rr_2_2.cap, .int .i64 y8.1, .int .i64 (10 + y11.1)]) (k := ?_))
        refine az_done (hK22 _ _ ?_); clear hK22
        obtain rfl := some_inj hM
        refine cw_ret (kw_retc2 (fun w hm => post_of (rout_3, (rr_1_1, rr_2_2)) hm rfl))

end Go.Proofs.Ytedocibniankjaa
