/- Models of functions, and that the code computes them. -/
import Derived.Test.YtnihhidbiepnhaaRn
namespace Go.Proofs.Ytnihhidbiepnhaa
open Go.Dc Go.RowKit
set_option maxRecDepth 10000
set_option linter.unusedVariables false
def slices_Index_int_int_k1 : Unit → Option Int := fun _ =>
  some (-1)
def slices_Index_int_int_b1 (s0 : List Int) (v0 : Int) (cont1 : Nat → Option Int) : Nat → Option Int := fun t8_1 =>
  if decide ((t8_1 : Int) < (s0.length : Int)) then
    ((idx s0 (t8_1 : Int)).bind fun x3 =>
    if decide (v0 = x3) then
      (some (t8_1 : Int))
    else
      (cont1 (t8_1 + 1)))
  else
    (slices_Index_int_int_k1 ())
def slices_Index_int_int_m (s0 : List Int) (v0 : Int) : Option Int :=
  iter (slices_Index_int_int_b1 s0 v0) FUEL 0
theorem slices_Index_int_int_spec (S : Soup) (w : World) (s0 : List Int) (r_s0 : GoRep.R (List Int)) (v0 : Int) (y : Int) (hM : slices_Index_int_int_m s0 v0 = some y) (hS : ∀ k, S k → k < w.heap.size) (h_s0 : GoRep.ok S w r_s0 s0) :
    Calls Try.prog 88 #[.slice r_s0.a s0.length r_s0.cap, .int .i64 v0] w (Ret w (.int .i64 y)) := by
  refine calls_cw (args := [_, _]) Try.func88 rfl ((pre_nil hS).start |>.immP (α := List Int) (r := r_s0) (x := s0) h_s0) rfl ?_
  unfold slices_Index_int_int_m at hM
  refine cw_seq fun K1 hK1 => ?_
  refine cw_region ?_
  refine ow_ev ev_assign ?_
  refine ow_nil (hK1 _ _ ?_); clear hK1
  refine cw_seq fun K2 hK2 => ?_
  refine cw_seq fun K3 hK3 => ?_
  refine cw_region ?_
  refine ow_ev ev_move ?_
  refine ow_have (fun w hm => Kn.len (Kn.imm (α := List Int) (r := r_s0) (x := s0) (by repeat (first | exact Has.head | apply Has.tail))) hm) fun hl1 => ?_
  refine ow_ev ev_len ?_
  refine ow_ev ev_move ?_
  refine ow_nil (hK3 _ _ ?_); clear hK3
  refine cw_block ?_
  refine cw_loop (γ := Nat × Nat × Unit) (env := fun (_, t8_1, _) => [(0, .v (.slice r_s0.a s0.length r_s0.cap)), (1, .v (.int .i64 v0)), (7, .v (.int .i64 (s0.length : Int))), (8, .v (.int .i64 (t8_1 : Int)))]) (mem := fun (_, t8_1, _) => [imm (α := (List Int)) r_s0 s0]) (R := fun g => iter (slices_Index_int_int_b1 s0 v0) g.1 g.2.1 = some y) (μ := fun g => g.1) (FUEL, 0, ()) hM ⟨rfl, rfl, rfl, rfl, trivial⟩ (fun w hm => hm.reord) ?_
  clear hM
  intro g hM KL1 hL1
  obtain ⟨nn1, t8_1, ⟨⟩⟩ := g
  dsimp only at hM ⊢
  obtain ⟨nn1, cont1, rfl, hcont1, hM⟩ := iter_open' hM
  dsimp only [slices_Index_int_int_b1] at hM
  refine cw_seq fun K4 hK4 => ?_
  refine cw_region ?_
  refine ow_ev ev_lss ?_
  refine ow_nil (hK4 _ _ ?_); clear hK4
  refine cw_seq fun K5 hK5 => ?_
  refine cw_cond rfl (fun hc2 => ?_) (fun hc2 => ?_)
  ·
    replace hM := (ite_t hc2).symm.trans hM
    have hc2d := of_decide_eq_true hc2
    refine cw_skip (hK5 _ _ ?_); clear hK5
    refine cw_seq fun K6 hK6 => ?_
    refine cw_block ?_
    refine cw_seq fun K7 hK7 => ?_
    refine cw_region ?_
    refine ow_ev ev_move ?_
    refine ow_ev ev_assign ?_
    refine ow_nil (hK7 _ _ ?_); clear hK7
    refine cw_seq fun K8 hK8 => ?_
    refine cw_region ?_
    refine ow_ev ev_move ?_
    refine ow_ev ev_move ?_
    refine ow_ev ev_move ?_
    obtain ⟨x3, hx4, hM⟩ := bind_some hM
    refine ow_ev (ev_idx (xs := s0) 1 (Kn.imm (α := List Int) (r := r_s0) (x := s0) (by repeat (first | exact Has.head | apply Has.tail))) (fun hg => let h := idx_some hx4; ⟨h.1, h.2.1⟩)) ?_
    refine ow_ev (ev_ld (i := (t8_1 : Int)) (xs := s0) (y := x3) 0 (Kn.imm (α := List Int) (r := r_s0) (x := s0) (by repeat (first | exact Has.head | apply Has.tail))) (fun _ => hx4)) ?_
    refine ow_ev ev_eql ?_
    refine ow_nil (hK8 _ _ ?_); clear hK8
    refine cw_cond rfl (fun hc5 => ?_) (fun hc5 => ?_)
    ·
      replace hM := (ite_t hc5).symm.trans hM
      refine cw_seq fun K9 hK9 => ?_
      refine cw_region ?_
      refine ow_ev ev_move ?_
      refine ow_ev ev_assign ?_
      refine ow_nil (hK9 _ _ ?_); clear hK9
      obtain rfl := some_inj hM
      refine cw_ret (kw_retc1 (fun w hm => ret_of hm rfl))
    ·
      replace hM := (ite_f hc5).symm.trans hM
      refine cw_skip (hK6 _ _ ?_); clear hK6
      refine cw_region ?_
      refine ow_ev (ev_add (hr := fun _ => by unfold I64; omega)) ?_
      refine ow_ev ev_move ?_
      refine ow_nil (hL1 (nn1, (t8_1 + 1), ()) _ _ (eqc hcont1 hM) (Nat.lt_succ_self _) ⟨rfl, rfl, rfl, rfl, trivial⟩ (fun w hm => hm.reord))
  ·
    replace hM := (ite_f hc2).symm.trans hM
    refine cw_exit (hK2 _ _ ?_); clear hK2
    dsimp only [slices_Index_int_int_k1] at hM
    refine cw_seq fun K10 hK10 => ?_
    refine cw_region ?_
    refine ow_ev ev_assign ?_
    refine ow_nil (hK10 _ _ ?_); clear hK10
    obtain rfl := some_inj hM
    refine cw_ret (kw_retc1 (fun w hm => ret_of hm rfl))

def slices_Contains_int_int_m (s0 : List Int) (v0 : Int) : Option Bool :=
  (slices_Index_int_int_m s0 v0).bind fun y1 =>
  some (decide (0 ≤ y1))
theorem slices_Contains_int_int_spec (S : Soup) (w : World) (s0 : List Int) (r_s0 : GoRep.R (List Int)) (v0 : Int) (y : Bool) (hM : slices_Contains_int_int_m s0 v0 = some y) (hS : ∀ k, S k → k < w.heap.size) (h_s0 : GoRep.ok S w r_s0 s0) :
    Calls Try.prog 63 #[.slice r_s0.a s0.length r_s0.cap, .int .i64 v0] w (Ret w (.bool y)) := by
  refine calls_cw (args := [_, _]) Try.func63 rfl ((pre_nil hS).start |>.immP (α := List Int) (r := r_s0) (x := s0) h_s0) rfl ?_
  unfold slices_Contains_int_int_m at hM
  refine cw_seq fun K1 hK1 => ?_
  refine cw_region ?_
  refine ow_ev ev_assign ?_
  refine ow_nil (hK1 _ _ ?_); clear hK1
  refine cw_seq fun K2 hK2 => ?_
  refine cw_region ?_
  refine ow_ev ev_move ?_
  refine ow_ev ev_move ?_
  obtain ⟨y1, hy2, hM⟩ := bind_some hM
  refine ow_cons (st_callv (fun w hm => let ⟨S, hs⟩ := hm; slices_Index_int_int_spec _ w s0 r_s0 v0 y1 hy2 (lend_lt hs) (Kn.lend (Kn.imm (α := List Int) (r := r_s0) (x := s0) (by repeat (first | exact Has.head | apply Has.tail))) hs)) ?_)
  refine ow_ev ev_geq ?_
  refine ow_ev ev_assign ?_
  refine ow_nil (hK2 _ _ ?_); clear hK2
  obtain rfl := some_inj hM
  refine cw_ret (kw_retc1 (fun w hm => ret_of hm rfl))

def route_Clashes_c1_m (r0 : Int) (p0 : List Int) : Option Bool :=
  (slices_Contains_int_int_m p0 r0).bind fun y1 =>
  some y1
theorem route_Clashes_c1_spec (S : Soup) (w : World) (r0 : Int) (b_p0 : Nat) (p0 : List Int) (r_p0 : GoRep.R (List Int)) (y : Bool) (hM : route_Clashes_c1_m r0 p0 = some y) (hS : ∀ k, S k → k < w.heap.size) (hb_p0 : S b_p0 ∧ w.heap[b_p0]? = some (.cells [.slice r_p0.a p0.length r_p0.cap].toArray 22 (0, 0))) (h_p0 : GoRep.ok S w r_p0 p0) :
    Calls Try.prog 62 #[.int .i64 r0, .pointer (some ⟨b_p0, 0, none⟩)] w (Ret w (.bool y)) := by
  refine calls_cw (args := [_, _]) Try.func62 rfl ((pre_nil hS).start |>.rboxP hb_p0|>.immP (α := List Int) (r := r_p0) (x := p0) h_p0) rfl ?_
  unfold route_Clashes_c1_m at hM
  refine cw_seq fun K1 hK1 => ?_
  refine cw_region ?_
  refine ow_ev ev_assign ?_
  refine ow_nil (hK1 _ _ ?_); clear hK1
  refine cw_seq fun K2 hK2 => ?_
  refine cw_region ?_
  refine ow_ev (ev_rload_own (b := b_p0)) ?_
  refine ow_ev ev_move ?_
  obtain ⟨y1, hy2, hM⟩ := bind_some hM
  refine ow_cons (st_callv (fun w hm => let ⟨S, hs⟩ := hm; slices_Contains_int_int_spec _ w p0 r_p0 r0 y1 hy2 (lend_lt hs) (Kn.lend (Kn.imm (α := List Int) (r := r_p0) (x := p0) (by repeat (first | exact Has.head | apply Has.tail))) hs)) ?_)
  refine ow_ev ev_assign ?_
  refine ow_nil (hK2 _ _ ?_); clear hK2
  obtain rfl := some_inj hM
  refine cw_ret (kw_retc1 (fun w hm => ret_of hm rfl))

def slices_IndexFunc_int_int_k1 : Unit → Option Int := fun _ =>
  some (-1)
def slices_IndexFunc_int_int_b1 (s0 : List Int) (f0c0 : List Int) (cont1 : Nat → Option Int) : Nat → Option Int := fun t8_1 =>
  if decide ((t8_1 : Int) < (s0.length : Int)) then
    ((idx s0 (t8_1 : Int)).bind fun x3 =>
    (route_Clashes_c1_m x3 f0c0).bind fun y5 =>
    if y5 then
      (some (t8_1 : Int))
    else
      (cont1 (t8_1 + 1)))
  else
    (slices_IndexFunc_int_int_k1 ())
def slices_IndexFunc_int_int_m (s0 : List Int) (f0c0 : List Int) : Option Int :=
  iter (slices_IndexFunc_int_int_b1 s0 f0c0) FUEL 0
theorem slices_IndexFunc_int_int_spec (S : Soup) (w : World) (s0 : List Int) (r_s0 : GoRep.R (List Int)) (b_f0c0 : Nat) (f0c0 : List Int) (r_f0c0 : GoRep.R (List Int)) (y : Int) (hM : slices_IndexFunc_int_int_m s0 f0c0 = some y) (hS : ∀ k, S k → k < w.heap.size) (h_s0 : GoRep.ok S w r_s0 s0) (hb_f0c0 : S b_f0c0 ∧ w.heap[b_f0c0]? = some (.cells [.slice r_f0c0.a f0c0.length r_f0c0.cap].toArray 22 (0, 0))) (h_f0c0 : GoRep.ok S w r_f0c0 f0c0) :
    Calls Try.prog 87 #[.slice r_s0.a s0.length r_s0.cap, .func (.func 62) #[] #[.pointer (some ⟨b_f0c0, 0, none⟩)]] w (Ret w (.int .i64 y)) := by
  refine calls_cw (args := [_, _]) Try.func87 rfl ((pre_nil hS).start |>.immP (α := List Int) (r := r_s0) (x := s0) h_s0|>.rboxP hb_f0c0|>.immP (α := List Int) (r := r_f0c0) (x := f0c0) h_f0c0) rfl ?_
  unfold slices_IndexFunc_int_int_m at hM
  refine cw_seq fun K1 hK1 => ?_
  refine cw_region ?_
  refine ow_ev ev_assign ?_
  refine ow_nil (hK1 _ _ ?_); clear hK1
  refine cw_seq fun K2 hK2 => ?_
  refine cw_seq fun K3 hK3 => ?_
  refine cw_region ?_
  refine ow_ev ev_move ?_
  refine ow_have (fun w hm => Kn.len (Kn.imm (α := List Int) (r := r_s0) (x := s0) (by repeat (first | exact Has.head | apply Has.tail))) hm) fun hl1 => ?_
  refine ow_ev ev_len ?_
  refine ow_ev ev_move ?_
  refine ow_nil (hK3 _ _ ?_); clear hK3
  refine cw_block ?_
  refine cw_loop (γ := Nat × Nat × Unit) (env := fun (_, t8_1, _) => [(0, .v (.slice r_s0.a s0.length r_s0.cap)), (1, .v (.func (.func 62) #[] #[.pointer (some ⟨b_f0c0, 0, none⟩)])), (7, .v (.int .i64 (s0.length : Int))), (8, .v (.int .i64 (t8_1 : Int)))]) (mem := fun (_, t8_1, _) => [imm (α := (List Int)) r_s0 s0, imm (α := (List Int)) r_f0c0 f0c0, rbox b_f0c0 22 [.slice r_f0c0.a f0c0.length r_f0c0.cap]]) (R := fun g => iter (slices_IndexFunc_int_int_b1 s0 f0c0) g.1 g.2.1 = some y) (μ := fun g => g.1) (FUEL, 0, ()) hM ⟨rfl, rfl, rfl, rfl, trivial⟩ (fun w hm => hm.reord) ?_
  clear hM
  intro g hM KL1 hL1
  obtain ⟨nn1, t8_1, ⟨⟩⟩ := g
  dsimp only at hM ⊢
  obtain ⟨nn1, cont1, rfl, hcont1, hM⟩ := iter_open' hM
  dsimp only [slices_IndexFunc_int_int_b1] at hM
  refine cw_seq fun K4 hK4 => ?_
  refine cw_region ?_
  refine ow_ev ev_lss ?_
  refine ow_nil (hK4 _ _ ?_); clear hK4
  refine cw_seq fun K5 hK5 => ?_
  refine cw_cond rfl (fun hc2 => ?_) (fun hc2 => ?_)
  ·
    replace hM := (ite_t hc2).symm.trans hM
    have hc2d := of_decide_eq_true hc2
    refine cw_skip (hK5 _ _ ?_); clear hK5
    refine cw_seq fun K6 hK6 => ?_
    refine cw_block ?_
    refine cw_seq fun K7 hK7 => ?_
    refine cw_region ?_
    refine ow_ev ev_move ?_
    refine ow_ev ev_assign ?_
    refine ow_nil (hK7 _ _ ?_); clear hK7
    refine cw_seq fun K8 hK8 => ?_
    refine cw_region ?_
    refine ow_ev ev_move ?_
    refine ow_ev ev_move ?_
    refine ow_ev ev_move ?_
    obtain ⟨x3, hx4, hM⟩ := bind_some hM
    refine ow_ev (ev_idx (xs := s0) 1 (Kn.imm (α := List Int) (r := r_s0) (x := s0) (by repeat (first | exact Has.head | apply Has.tail))) (fun hg => let h := idx_some hx4; ⟨h.1, h.2.1⟩)) ?_
    refine ow_ev (ev_ld (i := (t8_1 : Int)) (xs := s0) (y := x3) 0 (Kn.imm (α := List Int) (r := r_s0) (x := s0) (by repeat (first | exact Has.head | apply Has.tail))) (fun _ => hx4)) ?_
    obtain ⟨y5, hy6, hM⟩ := bind_some hM
    refine ow_cons (st_dynv (vs := [.int .i64 x3]) (cap := [.pointer (some ⟨b_f0c0, 0, none⟩)]) (fun w hm => let ⟨S, hs⟩ := hm; route_Clashes_c1_spec _ w x3 b_f0c0 f0c0 r_f0c0 y5 hy6 (lend_lt hs) (rbox_lend (by repeat (first | exact Has.head | apply Has.tail)) hs) (Kn.lend (Kn.imm (α := List Int) (r := r_f0c0) (x := f0c0) (by repeat (first | exact Has.head | apply Has.tail))) hs)) ?_)
    refine ow_nil (hK8 _ _ ?_); clear hK8
    refine cw_cond rfl (fun hc7 => ?_) (fun hc7 => ?_)
    ·
      replace hM := (ite_t hc7).symm.trans hM
      refine cw_seq fun K9 hK9 => ?_
      refine cw_region ?_
      refine ow_ev ev_move ?_
      refine ow_ev ev_assign ?_
      refine ow_nil (hK9 _ _ ?_); clear hK9
      obtain rfl := some_inj hM
      refine cw_ret (kw_retc1 (fun w hm => ret_of hm rfl))
    ·
      replace hM := (ite_f hc7).symm.trans hM
      refine cw_skip (hK6 _ _ ?_); clear hK6
      refine cw_region ?_
      refine ow_ev (ev_add (hr := fun _ => by unfold I64; omega)) ?_
      refine ow_ev ev_move ?_
      refine ow_nil (hL1 (nn1, (t8_1 + 1), ()) _ _ (eqc hcont1 hM) (Nat.lt_succ_self _) ⟨rfl, rfl, rfl, rfl, trivial⟩ (fun w hm => hm.reord))
  ·
    replace hM := (ite_f hc2).symm.trans hM
    refine cw_exit (hK2 _ _ ?_); clear hK2
    dsimp only [slices_IndexFunc_int_int_k1] at hM
    refine cw_seq fun K10 hK10 => ?_
    refine cw_region ?_
    refine ow_ev ev_assign ?_
    refine ow_nil (hK10 _ _ ?_); clear hK10
    obtain rfl := some_inj hM
    refine cw_ret (kw_retc1 (fun w hm => ret_of hm rfl))

def slices_ContainsFunc_int_int_m (s0 : List Int) (f0c0 : List Int) : Option Bool :=
  (slices_IndexFunc_int_int_m s0 f0c0).bind fun y1 =>
  some (decide (0 ≤ y1))
theorem slices_ContainsFunc_int_int_spec (S : Soup) (w : World) (s0 : List Int) (r_s0 : GoRep.R (List Int)) (b_f0c0 : Nat) (f0c0 : List Int) (r_f0c0 : GoRep.R (List Int)) (y : Bool) (hM : slices_ContainsFunc_int_int_m s0 f0c0 = some y) (hS : ∀ k, S k → k < w.heap.size) (h_s0 : GoRep.ok S w r_s0 s0) (hb_f0c0 : S b_f0c0 ∧ w.heap[b_f0c0]? = some (.cells [.slice r_f0c0.a f0c0.length r_f0c0.cap].toArray 22 (0, 0))) (h_f0c0 : GoRep.ok S w r_f0c0 f0c0) :
    Calls Try.prog 61 #[.slice r_s0.a s0.length r_s0.cap, .func (.func 62) #[] #[.pointer (some ⟨b_f0c0, 0, none⟩)]] w (Ret w (.bool y)) := by
  refine calls_cw (args := [_, _]) Try.func61 rfl ((pre_nil hS).start |>.immP (α := List Int) (r := r_s0) (x := s0) h_s0|>.rboxP hb_f0c0|>.immP (α := List Int) (r := r_f0c0) (x := f0c0) h_f0c0) rfl ?_
  unfold slices_ContainsFunc_int_int_m at hM
  refine cw_seq fun K1 hK1 => ?_
  refine cw_region ?_
  refine ow_ev ev_assign ?_
  refine ow_nil (hK1 _ _ ?_); clear hK1
  refine cw_seq fun K2 hK2 => ?_
  refine cw_region ?_
  refine ow_ev ev_move ?_
  refine ow_ev ev_move ?_
  obtain ⟨y1, hy2, hM⟩ := bind_some hM
  refine ow_cons (st_callv (fun w hm => let ⟨S, hs⟩ := hm; slices_IndexFunc_int_int_spec _ w s0 r_s0 b_f0c0 f0c0 r_f0c0 y1 hy2 (lend_lt hs) (Kn.lend (Kn.imm (α := List Int) (r := r_s0) (x := s0) (by repeat (first | exact Has.head | apply Has.tail))) hs) (rbox_lend (by repeat (first | exact Has.head | apply Has.tail)) hs) (Kn.lend (Kn.imm (α := List Int) (r := r_f0c0) (x := f0c0) (by repeat (first | exact Has.head | apply Has.tail))) hs)) ?_)
  refine ow_ev ev_geq ?_
  refine ow_ev ev_assign ?_
  refine ow_nil (hK2 _ _ ?_); clear hK2
  obtain rfl := some_inj hM
  refine cw_ret (kw_retc1 (fun w hm => ret_of hm rfl))

def route_Clashes_m (l0 : Layout) (a0 : Route) (b0 : Route) : Option (Bool × Int) :=
  (route_Resources_m l0 a0).bind fun y4 =>
  if decide (y4.2 ≠ 0) then
    (some (false, y4.2))
  else
    ((route_Resources_m l0 b0).bind fun y8 =>
    if decide (y8.2 ≠ 0) then
      (some (false, y8.2))
    else
      ((slices_ContainsFunc_int_int_m y4.1 y8.1).bind fun y13 =>
      some (y13, 0)))
theorem route_Clashes_spec (S : Soup) (w : World) (l0 : Layout) (r_l0 : GoRep.R Layout) (a0 : Route) (r_a0 : GoRep.R Route) (b0 : Route) (r_b0 : GoRep.R Route) (y : Bool × Int) (hM : route_Clashes_m l0 a0 b0 = some y) (hS : ∀ k, S k → k < w.heap.size) (h_l0 : GoRep.ok S w r_l0 l0) (h_a0 : GoRep.ok S w r_a0 a0) (h_b0 : GoRep.ok S w r_b0 b0) :
    Calls Try.prog 37 #[.agg #[.slice r_l0.1.a l0.Stations.length r_l0.1.cap, .slice r_l0.2.1.a l0.Points.length r_l0.2.1.cap, .slice r_l0.2.2.1.a l0.Sections.length r_l0.2.2.1.cap, .slice r_l0.2.2.2.a l0.Links.length r_l0.2.2.2.cap], .agg #[.slice r_a0.a a0.Steps.length r_a0.cap, .int .i64 a0.Overlap], .agg #[.slice r_b0.a b0.Steps.length r_b0.cap, .int .i64 b0.Overlap]] w (Ret w (.tuple #[.bool y.1, .int .i64 y.2])) := by
  refine calls_cw (args := [_, _, _]) Try.func37 rfl ((pre_nil hS).start |>.immP (α := List Str) (r := r_l0.1) (x := l0.Stations) h_l0.1|>.immP (α := List Str) (r := r_l0.2.1) (x := l0.Points) h_l0.2.1|>.immP (α := List Section) (r := r_l0.2.2.1) (x := l0.Sections) h_l0.2.2.1|>.immP (α := List Link) (r := r_l0.2.2.2) (x := l0.Links) h_l0.2.2.2|>.immP (α := List Step) (r := r_a0) (x := a0.Steps) h_a0|>.immP (α := List Step) (r := r_b0) (x := b0.Steps) h_b0) rfl ?_
  unfold route_Clashes_m at hM
  refine cw_seq fun K1 hK1 => ?_
  refine cw_region ?_
  refine ow_cons (st_box (l := [.slice r_l0.1.a l0.Stations.length r_l0.1.cap, .slice r_l0.2.1.a l0.Points.length r_l0.2.1.cap, .slice r_l0.2.2.1.a l0.Sections.length r_l0.2.2.1.cap, .slice r_l0.2.2.2.a l0.Links.length r_l0.2.2.2.cap]) (k := fun b1 => ?_))
  refine ow_cons (st_box (l := [.slice r_a0.a a0.Steps.length r_a0.cap, .int .i64 a0.Overlap]) (k := fun b2 => ?_))
  refine ow_cons (st_box (l := [.slice r_b0.a b0.Steps.length r_b0.cap, .int .i64 b0.Overlap]) (k := fun b3 => ?_))
  refine ow_ev ev_assign ?_
  refine ow_ev ev_assign ?_
  refine ow_nil (hK1 _ _ ?_); clear hK1
  refine cw_seq fun K2 hK2 => ?_
  refine cw_region ?_
  refine ow_ev (ev_load_all (b := b1)) ?_
  refine ow_ev (ev_load_all (b := b2)) ?_
  obtain ⟨y4, hy5, hM⟩ := bind_some hM
  refine ow_cons (st_callF SelL.nil (fun S w hs hP => route_Resources_spec _ w l0 r_l0 a0 r_a0 y4 hy5 (lend_lt hs) ⟨(Kn.lend (Kn.imm (α := List Str) (r := r_l0.1) (x := l0.Stations) (by repeat (first | exact Has.head | apply Has.tail))) hs), (Kn.lend (Kn.imm (α := List Str) (r := r_l0.2.1) (x := l0.Points) (by repeat (first | exact Has.head | apply Has.tail))) hs), (Kn.lend (Kn.imm (α := List Section) (r := r_l0.2.2.1) (x := l0.Sections) (by repeat (first | exact Has.head | apply Has.tail))) hs), (Kn.lend (Kn.imm (α := List Link) (r := r_l0.2.2.2) (x := l0.Links) (by repeat (first | exact Has.head | apply Has.tail))) hs)⟩ (Kn.lend (Kn.imm (α := List Step) (r := r_a0) (x := a0.Steps) (by repeat (first | exact Has.head | apply Has.tail))) hs)) (by intro r c hc; simp only [List.mem_cons, List.not_mem_nil, or_false] at hc; rcases hc with rfl <;> first | exact flatC_own | exact flatC_trow (fun _ _ _ _ => trivial)) (fun r6 => ?_))
  dsimp only [List.cons_append, List.nil_append]
  refine ow_ev ev_move ?_
  refine ow_ev (ev_extract (vs := [.slice r6.a y4.1.length r6.cap, .int .i64 y4.2])) ?_
  refine ow_ev (ev_extract (vs := [.slice r6.a y4.1.length r6.cap, .int .i64 y4.2])) ?_
  refine ow_ev ev_assign ?_
  refine ow_ev ev_assign ?_
  refine ow_nil (hK2 _ _ ?_); clear hK2
  refine cw_seq fun K3 hK3 => ?_
  refine cw_seq fun K4 hK4 => ?_
  refine cw_region ?_
  refine ow_ev ev_move ?_
  refine ow_ev ev_neq ?_
  refine ow_nil (hK4 _ _ ?_); clear hK4
  refine cw_cond rfl (fun hc7 => ?_) (fun hc7 => ?_)
  ·
    replace hM := (ite_t hc7).symm.trans hM
    refine cw_seq fun K5 hK5 => ?_
    refine cw_region ?_
    refine ow_ev ev_move ?_
    refine ow_ev ev_assign ?_
    refine ow_ev ev_assign ?_
    refine ow_nil (hK5 _ _ ?_); clear hK5
    obtain rfl := some_inj hM
    refine cw_ret (kw_retc2 (fun w hm => ret_of hm rfl))
  ·
    replace hM := (ite_f hc7).symm.trans hM
    refine cw_skip (hK3 _ _ ?_); clear hK3
    refine cw_seq fun K6 hK6 => ?_
    refine cw_region ?_
    refine ow_ev (ev_load_all (b := b1)) ?_
    refine ow_ev (ev_load_all (b := b3)) ?_
    obtain ⟨y8, hy9, hM⟩ := bind_some hM
    refine ow_cons (st_callF SelL.nil (fun S w hs hP => route_Resources_spec _ w l0 r_l0 b0 r_b0 y8 hy9 (lend_lt hs) ⟨(Kn.lend (Kn.imm (α := List Str) (r := r_l0.1) (x := l0.Stations) (by repeat (first | exact Has.head | apply Has.tail))) hs), (Kn.lend (Kn.imm (α := List Str) (r := r_l0.2.1) (x := l0.Points) (by repeat (first | exact Has.head | apply Has.tail))) hs), (Kn.lend (Kn.imm (α := List Section) (r := r_l0.2.2.1) (x := l0.Sections) (by repeat (first | exact Has.head | apply Has.tail))) hs), (Kn.lend (Kn.imm (α := List Link) (r := r_l0.2.2.2) (x := l0.Links) (by repeat (first | exact Has.head | apply Has.tail))) hs)⟩ (Kn.lend (Kn.imm (α := List Step) (r := r_b0) (x := b0.Steps) (by repeat (first | exact Has.head | apply Has.tail))) hs)) (by intro r c hc; simp only [List.mem_cons, List.not_mem_nil, or_false] at hc; rcases hc with rfl <;> first | exact flatC_own | exact flatC_trow (fun _ _ _ _ => trivial)) (fun r10 => ?_))
    dsimp only [List.cons_append, List.nil_append]
    refine ow_ev ev_move ?_
    refine ow_ev (ev_extract (vs := [.slice r10.a y8.1.length r10.cap, .int .i64 y8.2])) ?_
    refine ow_ev (ev_extract (vs := [.slice r10.a y8.1.length r10.cap, .int .i64 y8.2])) ?_
    refine ow_cons (st_alloc rfl (k := fun b11 => ?_))
    refine ow_cons (st_store_all (b := b11) (vs := [.slice r10.a y8.1.length r10.cap]) (k := ?_))
    refine ow_ev ev_assign ?_
    refine ow_nil (hK6 _ _ ?_); clear hK6
    refine cw_seq fun K7 hK7 => ?_
    refine cw_seq fun K8 hK8 => ?_
    refine cw_region ?_
    refine ow_ev ev_move ?_
    refine ow_ev ev_neq ?_
    refine ow_nil (hK8 _ _ ?_); clear hK8
    refine cw_cond rfl (fun hc12 => ?_) (fun hc12 => ?_)
    ·
      replace hM := (ite_t hc12).symm.trans hM
      refine cw_seq fun K9 hK9 => ?_
      refine cw_region ?_
      refine ow_ev ev_move ?_
      refine ow_ev ev_assign ?_
      refine ow_ev ev_assign ?_
      refine ow_nil (hK9 _ _ ?_); clear hK9
      obtain rfl := some_inj hM
      refine cw_ret (kw_retc2 (fun w hm => ret_of hm rfl))
    ·
      replace hM := (ite_f hc12).symm.trans hM
      refine cw_skip (hK7 _ _ ?_); clear hK7
      refine cw_seq fun K10 hK10 => ?_
      refine cw_region ?_
      refine ow_ev ev_move ?_
      refine ow_ev ev_makeFunc ?_
      obtain ⟨y13, hy14, hM⟩ := bind_some hM
      refine ow_cons (st_callv (fun w hm => let ⟨S, hs⟩ := hm; slices_ContainsFunc_int_int_spec _ w y4.1 r6 b11 y8.1 r10 y13 hy14 (lend_lt hs) (Kn.lend (Kn.trow (e := 3) (r := r6) (by repeat (first | exact Has.head | apply Has.tail))) hs) (own_lend (by repeat (first | exact Has.head | apply Has.tail)) hs) (Kn.lend (Kn.trow (e := 3) (r := r10) (by repeat (first | exact Has.head | apply Has.tail))) hs)) ?_)
      refine ow_ev ev_assign ?_
      refine ow_ev ev_assign ?_
      refine ow_nil (hK10 _ _ ?_); clear hK10
      obtain rfl := some_inj hM
      refine cw_ret (kw_retc2 (fun w hm => ret_of hm rfl))

end Go.Proofs.Ytnihhidbiepnhaa
