/- Models of functions, and that the code computes them. -/
import Derived.Test.YtedocibniankjaaCv
namespace Go.Proofs.Ytedocibniankjaa
open Go.Dc Go.RowKit
set_option maxRecDepth 10000
set_option linter.unusedVariables false
def circulation_marked_k1 (lin_1 : List Bool) : Unit → Option ((List Bool) × Bool) := fun _ =>
  some (lin_1, true)
def circulation_marked_b1 (list0 : List Int) (n0 : Int) (cont1 : ((List Bool) × Int × Nat) → Option ((List Bool) × Bool)) : ((List Bool) × Int × Nat) → Option ((List Bool) × Bool) := fun (lin_1, last_1, t14_1) =>
  if decide ((t14_1 : Int) < (list0.length : Int)) then
    ((idx list0 (t14_1 : Int)).bind fun x6 =>
    if (decide (x6 ≤ last_1) || decide (n0 ≤ x6)) then
      (some (([] : List Bool), false))
    else
      ((idx lin_1 x6).bind fun x10 =>
      cont1 ((lin_1.set x6.toNat true), x6, t14_1 + 1)))
  else
    (circulation_marked_k1 lin_1 ())
def circulation_marked_m (list0 : List Int) (n0 : Int) : Option ((List Bool) × Bool) :=
  (mk (α := Bool) false n0).bind fun m1 =>
  iter (circulation_marked_b1 list0 n0) FUEL (m1, (-1), 0)
theorem circulation_marked_spec (S : Soup) (w : World) (list0 : List Int) (r_list0 : GoRep.R (List Int)) (n0 : Int) (y : (List Bool) × Bool) (hM : circulation_marked_m list0 n0 = some y) (hS : ∀ k, S k → k < w.heap.size) (h_list0 : GoRep.ok S w r_list0 list0) :
    Calls Try.prog 74 #[.slice r_list0.a list0.length r_list0.cap, .int .i64 n0] w (Post (β := (GoRep.R (List Bool))) S [] (fun g => .tuple #[.slice g.a y.1.length g.cap, .bool y.2]) (fun g => [trow 4 g y.1]) w) := by
  refine calls_cw (args := [_, _]) Try.func74 rfl ((pre_nil hS).start |>.immP (α := List Int) (r := r_list0) (x := list0) h_list0) rfl ?_
  unfold circulation_marked_m at hM
  refine cw_seq fun K1 hK1 => ?_
  refine cw_region ?_
  refine ow_ev ev_assign ?_
  refine ow_ev ev_assign ?_
  refine ow_nil (hK1 _ _ ?_); clear hK1
  refine cw_seq fun K2 hK2 => ?_
  refine cw_region ?_
  refine ow_ev ev_move ?_
  obtain ⟨m1, hm2, hM⟩ := bind_some hM
  refine ow_cons (st_make (α := Bool) (e := 4) false () hm2 (fun _ _ => trivial) (fun r3 hr3 => ?_))
  refine ow_ev ev_assign ?_
  refine ow_nil (hK2 _ _ ?_); clear hK2
  refine cw_seq fun K3 hK3 => ?_
  refine cw_region ?_
  refine ow_ev ev_assign ?_
  refine ow_nil (hK3 _ _ ?_); clear hK3
  refine cw_seq fun K4 hK4 => ?_
  refine cw_seq fun K5 hK5 => ?_
  refine cw_region ?_
  refine ow_ev ev_move ?_
  refine ow_have (fun w hm => Kn.len (Kn.imm (α := List Int) (r := r_list0) (x := list0) (by repeat (first | exact Has.head | apply Has.tail))) hm) fun hl4 => ?_
  refine ow_ev ev_len ?_
  refine ow_ev ev_move ?_
  refine ow_nil (hK5 _ _ ?_); clear hK5
  refine cw_block ?_
  refine cw_loop (γ := Nat × ((List Bool) × Int × Nat) × Unit) (env := fun (_, (lin_1, last_1, t14_1), _) => [(1, .v (.int .i64 n0)), (6, .v (.slice r3.a lin_1.length r3.cap)), (7, .v (.int .i64 last_1)), (12, .v (.slice r_list0.a list0.length r_list0.cap)), (13, .v (.int .i64 (list0.length : Int))), (14, .v (.int .i64 (t14_1 : Int)))]) (mem := fun (_, (lin_1, last_1, t14_1), _) => [trow 4 r3 lin_1, imm (α := (List Int)) r_list0 list0]) (R := fun g => iter (circulation_marked_b1 list0 n0) g.1 g.2.1 = some y) (μ := fun g => g.1) (FUEL, (m1, (-1), 0), ()) hM ⟨rfl, rfl, rfl, rfl, rfl, rfl, trivial⟩ (fun w hm => hm.reord) ?_
  clear hM
  intro g hM KL1 hL1
  obtain ⟨nn1, ⟨lin_1, last_1, t14_1⟩, ⟨⟩⟩ := g
  dsimp only at hM ⊢
  obtain ⟨nn1, cont1, rfl, hcont1, hM⟩ := iter_open' hM
  dsimp only [circulation_marked_b1] at hM
  refine cw_seq fun K6 hK6 => ?_
  refine cw_region ?_
  refine ow_ev ev_lss ?_
  refine ow_nil (hK6 _ _ ?_); clear hK6
  refine cw_seq fun K7 hK7 => ?_
  refine cw_cond rfl (fun hc5 => ?_) (fun hc5 => ?_)
  ·
    replace hM := (ite_t hc5).symm.trans hM
    have hc5d := of_decide_eq_true hc5
    refine cw_skip (hK7 _ _ ?_); clear hK7
    refine cw_seq fun K8 hK8 => ?_
    refine cw_block ?_
    refine cw_seq fun K9 hK9 => ?_
    refine cw_region ?_
    obtain ⟨x6, hx7, hM⟩ := bind_some hM
    refine ow_ev (ev_idx (xs := list0) 1 (Kn.imm (α := List Int) (r := r_list0) (x := list0) (by repeat (first | exact Has.head | apply Has.tail))) (fun hg => let h := idx_some hx7; ⟨h.1, h.2.1⟩)) ?_
    refine ow_ev (ev_ld (i := (t14_1 : Int)) (xs := list0) (y := x6) 0 (Kn.imm (α := List Int) (r := r_list0) (x := list0) (by repeat (first | exact Has.head | apply Has.tail))) (fun _ => hx7)) ?_
    refine ow_ev ev_assign ?_
    refine ow_nil (hK9 _ _ ?_); clear hK9
    refine cw_seq fun K10 hK10 => ?_
    refine cw_seq fun K11 hK11 => ?_
    refine cw_region ?_
    refine ow_ev ev_move ?_
    refine ow_ev ev_move ?_
    refine ow_ev ev_leq ?_
    refine ow_ev ev_move ?_
    refine ow_evg rfl ev_move ?_
    refine ow_evg rfl ev_move ?_
    refine ow_evg rfl ev_geq ?_
    refine ow_ev ev_or ?_
    refine ow_nil (hK11 _ _ ?_); clear hK11
    refine cw_cond rfl (fun hc8 => ?_) (fun hc8 => ?_)
    ·
      replace hM := (ite_t hc8).symm.trans hM
      refine cw_seq fun K12 hK12 => ?_
      refine cw_region ?_
      refine ow_ev ev_assign ?_
      refine ow_ev ev_assign ?_
      refine ow_nil (hK12 _ _ ?_); clear hK12
      refine cw_imp (fun w hm => hm.row_nil (α := Bool) 4 (fun _ => ())) ?_
      obtain rfl := some_inj hM
      refine cw_ret (kw_retc2 (fun w hm => post_of (⟨none, 0, (fun _ => ())⟩ : SR (GoRep.R Bool)     ) hm rfl))
    ·
      replace hM := (ite_f hc8).symm.trans hM
      refine cw_skip (hK10 _ _ ?_); clear hK10
      refine cw_seq fun K13 hK13 => ?_
      refine cw_region ?_
      refine ow_ev ev_move ?_
      refine ow_ev ev_move ?_
      obtain ⟨x10, hx11, hM⟩ := bind_some hM
      refine ow_ev (ev_idx (xs := lin_1) 1 (Kn.trow (e := 4) (r := r3) (by repeat (first | exact Has.head | apply Has.tail))) (fun hg => let h := idx_some hx11; ⟨h.1, h.2.1⟩)) ?_
      refine ow_cons (st_set (r := r3) (i := x6) (xs := lin_1) (u := x10) (vs := [.bool true]) 0 true hx11 rfl (fun _ _ h => h) (by repeat (first | exact Upd.head | apply Upd.tail)) ?_)
      refine ow_nil (hK13 _ _ ?_); clear hK13
      refine cw_region ?_
      refine ow_ev ev_move ?_
      refine ow_ev ev_assign ?_
      refine ow_nil (hK8 _ _ ?_); clear hK8
      refine cw_region ?_
      refine ow_ev (ev_add (hr := fun _ => by unfold I64; omega)) ?_
      refine ow_ev ev_move ?_
      refine ow_nil (hL1 (nn1, ((lin_1.set x6.toNat true), x6, t14_1 + 1), ()) _ _ (eqc hcont1 hM) (Nat.lt_succ_self _) ⟨rfl, (by simp only [List.length_set]; rfl), rfl, rfl, rfl, rfl, trivial⟩ (fun w hm => hm.reord))
  ·
    replace hM := (ite_f hc5).symm.trans hM
    refine cw_exit (hK4 _ _ ?_); clear hK4
    dsimp only [circulation_marked_k1] at hM
    refine cw_seq fun K14 hK14 => ?_
    refine cw_region ?_
    refine ow_ev ev_move ?_
    refine ow_ev ev_assign ?_
    refine ow_ev ev_assign ?_
    refine ow_nil (hK14 _ _ ?_); clear hK14
    obtain rfl := some_inj hM
    refine cw_ret (kw_retc2 (fun w hm => post_of r3 hm rfl))

def circulation_Verify_k2 (cont1 : (Int × Nat) → Option Bool) (pairs_j3 : Int) (t54_1 : Nat) : Unit → Option Bool := fun _ =>
  cont1 (pairs_j3, t54_1 + 1)
def circulation_Verify_b2 (tasks0 : List Task) (t54_1 : Nat) (r0 : Rules) (y8 : (List Bool) × Bool) (y11 : (List Bool) × Bool) (cont1 : (Int × Nat) → Option Bool) (pairs_j3 : Int) (cont2 : Nat → Option Bool) : Nat → Option Bool := fun t65_2 =>
  if decide ((t65_2 : Int) < (tasks0.length : Int)) then
    ((idx tasks0 (t54_1 : Int)).bind fun x21 =>
    (idx tasks0 (t65_2 : Int)).bind fun x23 =>
    (circulation_Follows_m r0 x21 x23).bind fun y25 =>
    (whn y25.2 default (idx y8.1 (t54_1 : Int))).bind fun x27 =>
    (whn (y25.2 && (!x27)) default (idx y11.1 (t65_2 : Int))).bind fun x29 =>
    if ((y25.2 && (!x27)) && (!x29)) then
      (some false)
    else
      (cont2 (t65_2 + 1)))
  else
    (circulation_Verify_k2 cont1 pairs_j3 t54_1 ())
def circulation_Verify_k3 (tasks0 : List Task) (t54_1 : Nat) (r0 : Rules) (y8 : (List Bool) × Bool) (y11 : (List Bool) × Bool) (cont1 : (Int × Nat) → Option Bool) : Int → Option Bool := fun pairs_j3 =>
  iter (circulation_Verify_b2 tasks0 t54_1 r0 y8 y11 cont1 pairs_j3) FUEL 0
def circulation_Verify_k1 (c0 : Cover) (pairs_1 : Int) : Unit → Option Bool := fun _ =>
  chk (i64b ((c0.Left.length : Int) + (c0.Right.length : Int))) <|
  some (decide (((c0.Left.length : Int) + (c0.Right.length : Int)) = pairs_1))
def circulation_Verify_b1 (next0 : List Int) (tasks0 : List Task) (r0 : Rules) (y8 : (List Bool) × Bool) (y11 : (List Bool) × Bool) (c0 : Cover) (cont1 : (Int × Nat) → Option Bool) : (Int × Nat) → Option Bool := fun (pairs_1, t54_1) =>
  if decide ((t54_1 : Int) < (next0.length : Int)) then
    ((idx next0 (t54_1 : Int)).bind fun x17 =>
    if decide (0 ≤ x17) then
      (chk (i64b (pairs_1 + 1)) <|
      circulation_Verify_k3 tasks0 t54_1 r0 y8 y11 cont1 (pairs_1 + 1))
    else
      (circulation_Verify_k3 tasks0 t54_1 r0 y8 y11 cont1 pairs_1))
  else
    (circulation_Verify_k1 c0 pairs_1 ())
def circulation_Verify_m (tasks0 : List Task) (r0 : Rules) (next0 : List Int) (c0 : Cover) : Option Bool :=
  (circulation_Check_m tasks0 r0).bind fun y3 =>
  (whn (!(!y3)) default (circulation_proper_m tasks0 r0 next0)).bind fun y5 =>
  if ((!y3) || (!y5)) then
    (some false)
  else
    ((circulation_marked_m c0.Left (tasks0.length : Int)).bind fun y8 =>
    (circulation_marked_m c0.Right (tasks0.length : Int)).bind fun y11 =>
    if ((!y8.2) || (!y11.2)) then
      (some false)
    else
      (iter (circulation_Verify_b1 next0 tasks0 r0 y8 y11 c0) FUEL (0, 0)))
theorem circulation_Verify_spec (S : Soup) (w : World) (tasks0 : List Task) (r_tasks0 : GoRep.R (List Task)) (r0 : Rules) (r_r0 : GoRep.R Rules) (next0 : List Int) (r_next0 : GoRep.R (List Int)) (c0 : Cover) (r_c0 : GoRep.R Cover) (y : Bool) (hM : circulation_Verify_m tasks0 r0 next0 c0 = some y) (hS : ∀ k, S k → k < w.heap.size) (h_tasks0 : GoRep.ok S w r_tasks0 tasks0) (h_r0 : GoRep.ok S w r_r0 r0) (h_next0 : GoRep.ok S w r_next0 next0) (h_c0 : GoRep.ok S w r_c0 c0) :
    Calls Try.prog 53 #[.slice r_tasks0.a tasks0.length r_tasks0.cap, .agg #[.int .i64 r0.Turn, .slice r_r0.1.a r0.Empties.length r_r0.1.cap, .slice r_r0.2.a r0.Shops.length r_r0.2.cap, .int .i64 r0.Service, .int .i64 r0.Limit], .slice r_next0.a next0.length r_next0.cap, .agg #[.slice r_c0.1.a c0.Left.length r_c0.1.cap, .slice r_c0.2.a c0.Right.length r_c0.2.cap]] w (Ret w (.bool y)) := by
  refine calls_cw (args := [_, _, _, _]) Try.func53 rfl ((pre_nil hS).start |>.immP (α := List Task) (r := r_tasks0) (x := tasks0) h_tasks0|>.immP (α := List EmptyT) (r := r_r0.1) (x := r0.Empties) h_r0.1|>.immP (α := List Int) (r := r_r0.2) (x := r0.Shops) h_r0.2|>.immP (α := List Int) (r := r_next0) (x := next0) h_next0|>.immP (α := List Int) (r := r_c0.1) (x := c0.Left) h_c0.1|>.immP (α := List Int) (r := r_c0.2) (x := c0.Right) h_c0.2) rfl ?_
  unfold circulation_Verify_m at hM
  refine cw_seq fun K1 hK1 => ?_
  refine cw_region ?_
  refine ow_cons (st_box (l := [.int .i64 r0.Turn, .slice r_r0.1.a r0.Empties.length r_r0.1.cap, .slice r_r0.2.a r0.Shops.length r_r0.2.cap, .int .i64 r0.Service, .int .i64 r0.Limit]) (k := fun b1 => ?_))
  refine ow_cons (st_box (l := [.slice r_c0.1.a c0.Left.length r_c0.1.cap, .slice r_c0.2.a c0.Right.length r_c0.2.cap]) (k := fun b2 => ?_))
  refine ow_ev ev_assign ?_
  refine ow_nil (hK1 _ _ ?_); clear hK1
  refine cw_seq fun K2 hK2 => ?_
  refine cw_seq fun K3 hK3 => ?_
  refine cw_region ?_
  refine ow_ev ev_move ?_
  refine ow_ev (ev_load_all (b := b1)) ?_
  obtain ⟨y3, hy4, hM⟩ := bind_some hM
  refine ow_cons (st_callv (fun w hm => let ⟨S, hs⟩ := hm; circulation_Check_spec _ w tasks0 r_tasks0 r0 r_r0 y3 hy4 (lend_lt hs) (Kn.lend (Kn.imm (α := List Task) (r := r_tasks0) (x := tasks0) (by repeat (first | exact Has.head | apply Has.tail))) hs) ⟨(Kn.lend (Kn.imm (α := List EmptyT) (r := r_r0.1) (x := r0.Empties) (by repeat (first | exact Has.head | apply Has.tail))) hs), (Kn.lend (Kn.imm (α := List Int) (r := r_r0.2) (x := r0.Shops) (by repeat (first | exact Has.head | apply Has.tail))) hs)⟩) ?_)
  refine ow_ev ev_not ?_
  refine ow_ev ev_move ?_
  refine ow_evg rfl ev_move ?_
  refine ow_evg rfl (ev_load_all (b := b1)) ?_
  refine ow_evg rfl ev_move ?_
  obtain ⟨y5, hy6, hM⟩ := bind_some hM
  refine ow_callg rfl (fun hg w hm => let ⟨S, hs⟩ := hm; circulation_proper_spec _ w tasks0 r_tasks0 r0 r_r0 next0 r_next0 y5 (whn_some hy6 hg) (lend_lt hs) (Kn.lend (Kn.imm (α := List Task) (r := r_tasks0) (x := tasks0) (by repeat (first | exact Has.head | apply Has.tail))) hs) ⟨(Kn.lend (Kn.imm (α := List EmptyT) (r := r_r0.1) (x := r0.Empties) (by repeat (first | exact Has.head | apply Has.tail))) hs), (Kn.lend (Kn.imm (α := List Int) (r := r_r0.2) (x := r0.Shops) (by repeat (first | exact Has.head | apply Has.tail))) hs)⟩ (Kn.lend (Kn.imm (α := List Int) (r := r_next0) (x := next0) (by repeat (first | exact Has.head | apply Has.tail))) hs)) ?_
  refine ow_evg rfl ev_not ?_
  refine ow_ev ev_or ?_
  refine ow_nil (hK3 _ _ ?_); clear hK3
  refine cw_cond rfl (fun hc7 => ?_) (fun hc7 => ?_)
  ·
    replace hM := (ite_t hc7).symm.trans hM
    refine cw_seq fun K4 hK4 => ?_
    refine cw_region ?_
    refine ow_ev ev_assign ?_
    refine ow_nil (hK4 _ _ ?_); clear hK4
    obtain rfl := some_inj hM
    refine cw_ret (kw_retc1 (fun w hm => ret_of hm rfl))
  ·
    replace hM := (ite_f hc7).symm.trans hM
    refine cw_skip (hK2 _ _ ?_); clear hK2
    refine cw_seq fun K5 hK5 => ?_
    refine cw_region ?_
    refine ow_ev (ev_field_addr 0) ?_
    refine ow_ev (ev_load_own (b := b2)) ?_
    refine ow_ev ev_move ?_
    refine ow_ev ev_len ?_
    obtain ⟨y8, hy9, hM⟩ := bind_some hM
    refine ow_cons (st_callF SelL.nil (fun S w hs hP => circulation_marked_spec _ w c0.Left r_c0.1 (tasks0.length : Int) y8 hy9 (lend_lt hs) (Kn.lend (Kn.imm (α := List Int) (r := r_c0.1) (x := c0.Left) (by repeat (first | exact Has.head | apply Has.tail))) hs)) (by intro r c hc; simp only [List.mem_cons, List.not_mem_nil, or_false] at hc; rcases hc with rfl <;> first | exact flatC_own | exact flatC_trow (fun _ _ _ _ => trivial)) (fun r10 => ?_))
    dsimp only [List.cons_append, List.nil_append]
    refine ow_ev ev_move ?_
    refine ow_ev (ev_extract (vs := [.slice r10.a y8.1.length r10.cap, .bool y8.2])) ?_
    refine ow_ev (ev_extract (vs := [.slice r10.a y8.1.length r10.cap, .bool y8.2])) ?_
    refine ow_ev ev_assign ?_
    refine ow_ev ev_assign ?_
    refine ow_nil (hK5 _ _ ?_); clear hK5
    refine cw_seq fun K6 hK6 => ?_
    refine cw_region ?_
    refine ow_ev (ev_field_addr 1) ?_
    refine ow_ev (ev_load_own (b := b2)) ?_
    refine ow_ev ev_move ?_
    refine ow_ev ev_len ?_
    obtain ⟨y11, hy12, hM⟩ := bind_some hM
    refine ow_cons (st_callF SelL.nil (fun S w hs hP => circulation_marked_spec _ w c0.Right r_c0.2 (tasks0.length : Int) y11 hy12 (lend_lt hs) (Kn.lend (Kn.imm (α := List Int) (r := r_c0.2) (x := c0.Right) (by repeat (first | exact Has.head | apply Has.tail))) hs)) (by intro r c hc; simp only [List.mem_cons, List.not_mem_nil, or_false] at hc; rcases hc with rfl <;> first | exact flatC_own | exact flatC_trow (fun _ _ _ _ => trivial)) (fun r13 => ?_))
    dsimp only [List.cons_append, List.nil_append]
    refine ow_ev ev_move ?_
    refine ow_ev (ev_extract (vs := [.slice r13.a y11.1.length r13.cap, .bool y11.2])) ?_
    refine ow_ev (ev_extract (vs := [.slice r13.a y11.1.length r13.cap, .bool y11.2])) ?_
    refine ow_ev ev_assign ?_
    refine ow_ev ev_assign ?_
    refine ow_nil (hK6 _ _ ?_); clear hK6
    refine cw_seq fun K7 hK7 => ?_
    refine cw_seq fun K8 hK8 => ?_
    refine cw_region ?_
    refine ow_ev ev_move ?_
    refine ow_ev ev_not ?_
    refine ow_ev ev_move ?_
    refine ow_evg rfl ev_move ?_
    refine ow_evg rfl ev_not ?_
    refine ow_ev ev_or ?_
    refine ow_nil (hK8 _ _ ?_); clear hK8
    refine cw_cond rfl (fun hc14 => ?_) (fun hc14 => ?_)
    ·
      replace hM := (ite_t hc14).symm.trans hM
      refine cw_seq fun K9 hK9 => ?_
      refine cw_region ?_
      refine ow_ev ev_assign ?_
      refine ow_nil (hK9 _ _ ?_); clear hK9
      obtain rfl := some_inj hM
      refine cw_ret (kw_retc1 (fun w hm => ret_of hm rfl))
    ·
      replace hM := (ite_f hc14).symm.trans hM
      refine cw_skip (hK7 _ _ ?_); clear hK7
      refine cw_seq fun K10 hK10 => ?_
      refine cw_region ?_
      refine ow_ev ev_assign ?_
      refine ow_nil (hK10 _ _ ?_); clear hK10
      refine cw_seq fun K11 hK11 => ?_
      refine cw_seq fun K12 hK12 => ?_
      refine cw_region ?_
      refine ow_ev ev_move ?_
      refine ow_have (fun w hm => Kn.len (Kn.imm (α := List Int) (r := r_next0) (x := next0) (by repeat (first | exact Has.head | apply Has.tail))) hm) fun hl15 => ?_
      refine ow_ev ev_len ?_
      refine ow_ev ev_move ?_
      refine ow_nil (hK12 _ _ ?_); clear hK12
      refine cw_block ?_
      refine cw_loop (γ := Nat × (Int × Nat) × Unit) (env := fun (_, (pairs_1, t54_1), _) => [(0, .v (.slice r_tasks0.a tasks0.length r_tasks0.cap)), (5, .v (.pointer (some ⟨b1, 0, none⟩))), (7, .v (.pointer (some ⟨b2, 0, none⟩))), (9, .v (.slice r10.a y8.1.length r10.cap)), (11, .v (.slice r13.a y11.1.length r13.cap)), (13, .v (.int .i64 pairs_1)), (52, .v (.slice r_next0.a next0.length r_next0.cap)), (53, .v (.int .i64 (next0.length : Int))), (54, .v (.int .i64 (t54_1 : Int)))]) (mem := fun (_, (pairs_1, t54_1), _) => [imm (α := (List Task)) r_tasks0 tasks0, imm (α := (List EmptyT)) r_r0.1 r0.Empties, imm (α := (List Int)) r_r0.2 r0.Shops, own b1 53 [.int .i64 r0.Turn, .slice r_r0.1.a r0.Empties.length r_r0.1.cap, .slice r_r0.2.a r0.Shops.length r_r0.2.cap, .int .i64 r0.Service, .int .i64 r0.Limit], imm (α := (List Int)) r_c0.1 c0.Left, imm (α := (List Int)) r_c0.2 c0.Right, own b2 72 [.slice r_c0.1.a c0.Left.length r_c0.1.cap, .slice r_c0.2.a c0.Right.length r_c0.2.cap], trow 4 r10 y8.1, trow 4 r13 y11.1, imm (α := (List Int)) r_next0 next0]) (R := fun g => iter (circulation_Verify_b1 next0 tasks0 r0 y8 y11 c0) g.1 g.2.1 = some y) (μ := fun g => g.1) (FUEL, (0, 0), ()) hM ⟨rfl, rfl, rfl, rfl, rfl, rfl, rfl, rfl, rfl, trivial⟩ (fun w hm => hm.reord) ?_
      clear hM
      intro g hM KL1 hL1
      obtain ⟨nn1, ⟨pairs_1, t54_1⟩, ⟨⟩⟩ := g
      dsimp only at hM ⊢
      obtain ⟨nn1, cont1, rfl, hcont1, hM⟩ := iter_open' hM
      dsimp only [circulation_Verify_b1] at hM
      refine cw_seq fun K13 hK13 => ?_
      refine cw_region ?_
      refine ow_ev ev_lss ?_
      refine ow_nil (hK13 _ _ ?_); clear hK13
      refine cw_seq fun K14 hK14 => ?_
      refine cw_cond rfl (fun hc16 => ?_) (fun hc16 => ?_)
      ·
        replace hM := (ite_t hc16).symm.trans hM
        have hc16d := of_decide_eq_true hc16
        refine cw_skip (hK14 _ _ ?_); clear hK14
        refine cw_seq fun K15 hK15 => ?_
        refine cw_block ?_
        refine cw_seq fun K16 hK16 => ?_
        refine cw_region ?_
        refine ow_ev ev_move ?_
        obtain ⟨x17, hx18, hM⟩ := bind_some hM
        refine ow_ev (ev_idx (xs := next0) 1 (Kn.imm (α := List Int) (r := r_next0) (x := next0) (by repeat (first | exact Has.head | apply Has.tail))) (fun hg => let h := idx_some hx18; ⟨h.1, h.2.1⟩)) ?_
        refine ow_ev (ev_ld (i := (t54_1 : Int)) (xs := next0) (y := x17) 0 (Kn.imm (α := List Int) (r := r_next0) (x := next0) (by repeat (first | exact Has.head | apply Has.tail))) (fun _ => hx18)) ?_
        refine ow_ev ev_assign ?_
        refine ow_ev ev_assign ?_
        refine ow_nil (hK16 _ _ ?_); clear hK16
        refine cw_cut (γ := Int × Unit) (env := fun (pairs_j3, _) => [(0, .v (.slice r_tasks0.a tasks0.length r_tasks0.cap)), (5, .v (.pointer (some ⟨b1, 0, none⟩))), (7, .v (.pointer (some ⟨b2, 0, none⟩))), (9, .v (.slice r10.a y8.1.length r10.cap)), (11, .v (.slice r13.a y11.1.length r13.cap)), (13, .v (.int .i64 pairs_j3)), (14, .v (.int .i64 (t54_1 : Int))), (52, .v (.slice r_next0.a next0.length r_next0.cap)), (53, .v (.int .i64 (next0.length : Int))), (54, .v (.int .i64 (t54_1 : Int)))]) (mem := fun (pairs_j3, _) => [imm (α := (List Task)) r_tasks0 tasks0, imm (α := (List EmptyT)) r_r0.1 r0.Empties, imm (α := (List Int)) r_r0.2 r0.Shops, own b1 53 [.int .i64 r0.Turn, .slice r_r0.1.a r0.Empties.length r_r0.1.cap, .slice r_r0.2.a r0.Shops.length r_r0.2.cap, .int .i64 r0.Service, .int .i64 r0.Limit], imm (α := (List Int)) r_c0.1 c0.Left, imm (α := (List Int)) r_c0.2 c0.Right, own b2 72 [.slice r_c0.1.a c0.Left.length r_c0.1.cap, .slice r_c0.2.a c0.Right.length r_c0.2.cap], trow 4 r10 y8.1, trow 4 r13 y11.1, imm (α := (List Int)) r_next0 next0]) (R := fun g => circulation_Verify_k3 tasks0 t54_1 r0 y8 y11 cont1 g.1 = some y) ?_ ?_
        · intro KJ3 hJ3
          refine cw_seq fun K25 hK25 => ?_
          refine cw_region ?_
          refine ow_ev ev_move ?_
          refine ow_ev ev_geq ?_
          refine ow_nil (hK25 _ _ ?_); clear hK25
          refine cw_cond rfl (fun hc32 => ?_) (fun hc32 => ?_)
          ·
            replace hM := (ite_t hc32).symm.trans hM
            refine cw_region ?_
            refine ow_ev ev_move ?_
            obtain ⟨hI33, hM⟩ := chk_some hM
            refine ow_ev (ev_add (hr := fun hg => i64b_I64 hI33)) ?_
            refine ow_ev ev_assign ?_
            refine ow_nil (hJ3 ((pairs_1 + 1), ()) _ _ hM ⟨rfl, rfl, rfl, rfl, rfl, rfl, rfl, rfl, rfl, rfl, trivial⟩ (fun w hm => hm.reord))
          ·
            replace hM := (ite_f hc32).symm.trans hM
            refine cw_skip (hJ3 (pairs_1, ()) _ _ hM ⟨rfl, rfl, rfl, rfl, rfl, rfl, rfl, rfl, rfl, rfl, trivial⟩ (fun w hm => hm.reord))
        ·
          clear hM
          intro g hM
          obtain ⟨pairs_j3, ⟨⟩⟩ := g
          dsimp only at hM ⊢
          dsimp only [circulation_Verify_k3] at hM
          refine cw_seq fun K17 hK17 => ?_
          refine cw_region ?_
          refine ow_ev ev_move ?_
          refine ow_have (fun w hm => Kn.len (Kn.imm (α := List Task) (r := r_tasks0) (x := tasks0) (by repeat (first | exact Has.head | apply Has.tail))) hm) fun hl19 => ?_
          refine ow_ev ev_len ?_
          refine ow_ev ev_move ?_
          refine ow_nil (hK17 _ _ ?_); clear hK17
          refine cw_block ?_
          refine cw_loop (γ := Nat × Nat × Unit) (env := fun (_, t65_2, _) => [(0, .v (.slice r_tasks0.a tasks0.length r_tasks0.cap)), (5, .v (.pointer (some ⟨b1, 0, none⟩))), (7, .v (.pointer (some ⟨b2, 0, none⟩))), (9, .v (.slice r10.a y8.1.length r10.cap)), (11, .v (.slice r13.a y11.1.length r13.cap)), (13, .v (.int .i64 pairs_j3)), (14, .v (.int .i64 (t54_1 : Int))), (52, .v (.slice r_next0.a next0.length r_next0.cap)), (53, .v (.int .i64 (next0.length : Int))), (54, .v (.int .i64 (t54_1 : Int))), (64, .v (.int .i64 (tasks0.length : Int))), (65, .v (.int .i64 (t65_2 : Int)))]) (mem := fun (_, t65_2, _) => [imm (α := (List Task)) r_tasks0 tasks0, imm (α := (List EmptyT)) r_r0.1 r0.Empties, imm (α := (List Int)) r_r0.2 r0.Shops, own b1 53 [.int .i64 r0.Turn, .slice r_r0.1.a r0.Empties.length r_r0.1.cap, .slice r_r0.2.a r0.Shops.length r_r0.2.cap, .int .i64 r0.Service, .int .i64 r0.Limit], imm (α := (List Int)) r_c0.1 c0.Left, imm (α := (List Int)) r_c0.2 c0.Right, own b2 72 [.slice r_c0.1.a c0.Left.length r_c0.1.cap, .slice r_c0.2.a c0.Right.length r_c0.2.cap], trow 4 r10 y8.1, trow 4 r13 y11.1, imm (α := (List Int)) r_next0 next0]) (R := fun g => iter (circulation_Verify_b2 tasks0 t54_1 r0 y8 y11 cont1 pairs_j3) g.1 g.2.1 = some y) (μ := fun g => g.1) (FUEL, 0, ()) hM ⟨rfl, rfl, rfl, rfl, rfl, rfl, rfl, rfl, rfl, rfl, rfl, rfl, trivial⟩ (fun w hm => hm.reord) ?_
          clear hM
          intro g hM KL2 hL2
          obtain ⟨nn2, t65_2, ⟨⟩⟩ := g
          dsimp only at hM ⊢
          obtain ⟨nn2, cont2, rfl, hcont2, hM⟩ := iter_open' hM
          dsimp only [circulation_Verify_b2] at hM
          refine cw_seq fun K18 hK18 => ?_
          refine cw_region ?_
          refine ow_ev ev_lss ?_
          refine ow_nil (hK18 _ _ ?_); clear hK18
          refine cw_seq fun K19 hK19 => ?_
          refine cw_cond rfl (fun hc20 => ?_) (fun hc20 => ?_)
          ·
            replace hM := (ite_t hc20).symm.trans hM
            have hc20d := of_decide_eq_true hc20
            refine cw_skip (hK19 _ _ ?_); clear hK19
            refine cw_seq fun K20 hK20 => ?_
            refine cw_block ?_
            refine cw_seq fun K21 hK21 => ?_
            refine cw_region ?_
            refine ow_ev ev_move ?_
            refine ow_ev ev_assign ?_
            refine ow_nil (hK21 _ _ ?_); clear hK21
            refine cw_seq fun K22 hK22 => ?_
            refine cw_region_any _ (List.Sublist.refl _) ?_
            refine aw_ev 0 rfl (ev_load_all (b := b1)) ?_
            refine aw_ev 1 rfl ev_move ?_
            refine aw_ev 2 rfl ev_move ?_
            obtain ⟨x21, hx22, hM⟩ := bind_some hM
            refine aw_ev 3 rfl (ev_idx (xs := tasks0) 5 (Kn.imm (α := List Task) (r := r_tasks0) (x := tasks0) (by repeat (first | exact Has.head | apply Has.tail))) (fun hg => let h := idx_some hx22; ⟨h.1, h.2.1⟩)) ?_
            refine aw_ev 4 rfl (ev_lds (m := 5) (i := (t54_1 : Int)) (xs := tasks0) (y := x21) (l := [.int .i64 x21.Type_, .int .i64 x21.From, .int .i64 x21.To, .int .i64 x21.Start, .int .i64 x21.End]) 0 (Kn.imm (α := List Task) (r := r_tasks0) (x := tasks0) (by repeat (first | exact Has.head | apply Has.tail))) (fun _ => hx22)) ?_
            refine aw_ev 5 rfl ev_move ?_
            refine aw_ev 6 rfl ev_move ?_
            obtain ⟨x23, hx24, hM⟩ := bind_some hM
            refine aw_ev 7 rfl (ev_idx (xs := tasks0) 5 (Kn.imm (α := List Task) (r := r_tasks0) (x := tasks0) (by repeat (first | exact Has.head | apply Has.tail))) (fun hg => let h := idx_some hx24; ⟨h.1, h.2.1⟩)) ?_
            refine aw_ev 8 rfl (ev_lds (m := 5) (i := (t65_2 : Int)) (xs := tasks0) (y := x23) (l := [.int .i64 x23.Type_, .int .i64 x23.From, .int .i64 x23.To, .int .i64 x23.Start, .int .i64 x23.End]) 0 (Kn.imm (α := List Task) (r := r_tasks0) (x := tasks0) (by repeat (first | exact Has.head | apply Has.tail))) (fun _ => hx24)) ?_
            obtain ⟨y25, hy26, hM⟩ := bind_some hM
            refine aw_one 9 rfl (st_callv (fun w hm => let ⟨S, hs⟩ := hm; circulation_Follows_spec _ w r0 r_r0 x21 x23 y25 hy26 (lend_lt hs) ⟨(Kn.lend (Kn.imm (α := List EmptyT) (r := r_r0.1) (x := r0.Empties) (by repeat (first | exact Has.head | apply Has.tail))) hs), (Kn.lend (Kn.imm (α := List Int) (r := r_r0.2) (x := r0.Shops) (by repeat (first | exact Has.head | apply Has.tail))) hs)⟩) ⟨fun w hm => hm.sub (by repeat (first | exact List.Sublist.refl _ | apply List.Sublist.cons_cons | apply List.Sublist.cons)), ?_⟩)
            refine aw_ev 10 rfl ev_move ?_
            refine aw_ev 11 rfl (ev_extract (vs := [.int .i64 y25.1, .bool y25.2])) ?_
            refine aw_ev 12 rfl (ev_extract (vs := [.int .i64 y25.1, .bool y25.2])) ?_
            refine aw_ev 13 rfl ev_assign ?_
            refine aw_ev 14 rfl ev_assign ?_
            refine aw_done (hK22 _ _ ?_); clear hK22
            refine cw_seq fun K23 hK23 => ?_
            refine cw_region ?_
            refine ow_ev ev_move ?_
            refine ow_ev ev_move ?_
            refine ow_evg rfl ev_move ?_
            refine ow_evg rfl ev_move ?_
            obtain ⟨x27, hx28, hM⟩ := bind_some hM
            refine ow_evg rfl (ev_idx (xs := y8.1) 1 (Kn.trow (e := 4) (r := r10) (by repeat (first | exact Has.head | apply Has.tail))) (fun hg => let h := idx_some (whn_some hx28 hg); ⟨h.1, h.2.1⟩)) ?_
            refine ow_evg rfl (ev_ld (i := (t54_1 : Int)) (xs := y8.1) (y := x27) 0 (Kn.trow (e := 4) (r := r10) (by repeat (first | exact Has.head | apply Has.tail))) (fun hg => whn_some hx28 hg)) ?_
            refine ow_evg rfl ev_not ?_
            refine ow_ev ev_and ?_
            refine ow_ev ev_move ?_
            refine ow_evg rfl ev_move ?_
            refine ow_evg rfl ev_move ?_
            obtain ⟨x29, hx30, hM⟩ := bind_some hM
            refine ow_evg rfl (ev_idx (xs := y11.1) 1 (Kn.trow (e := 4) (r := r13) (by repeat (first | exact Has.head | apply Has.tail))) (fun hg => let h := idx_some (whn_some hx30 hg); ⟨h.1, h.2.1⟩)) ?_
            refine ow_evg rfl (ev_ld (i := (t65_2 : Int)) (xs := y11.1) (y := x29) 0 (Kn.trow (e := 4) (r := r13) (by repeat (first | exact Has.head | apply Has.tail))) (fun hg => whn_some hx30 hg)) ?_
            refine ow_evg rfl ev_not ?_
            refine ow_ev ev_and ?_
            refine ow_nil (hK23 _ _ ?_); clear hK23
            refine cw_cond rfl (fun hc31 => ?_) (fun hc31 => ?_)
            ·
              replace hM := (ite_t hc31).symm.trans hM
              refine cw_seq fun K24 hK24 => ?_
              refine cw_region ?_
              refine ow_ev ev_assign ?_
              refine ow_nil (hK24 _ _ ?_); clear hK24
              obtain rfl := some_inj hM
              refine cw_ret (kw_retc1 (fun w hm => ret_of hm rfl))
            ·
              replace hM := (ite_f hc31).symm.trans hM
              refine cw_skip (hK20 _ _ ?_); clear hK20
              refine cw_region ?_
              refine ow_ev (ev_add (hr := fun _ => by unfold I64; omega)) ?_
              refine ow_ev ev_move ?_
              refine ow_nil (hL2 (nn2, (t65_2 + 1), ()) _ _ (eqc hcont2 hM) (Nat.lt_succ_self _) ⟨rfl, rfl, rfl, rfl, rfl, rfl, rfl, rfl, rfl, rfl, rfl, rfl, trivial⟩ (fun w hm => hm.reord))
          ·
            replace hM := (ite_f hc20).symm.trans hM
            refine cw_exit (hK15 _ _ ?_); clear hK15
            dsimp only [circulation_Verify_k2] at hM
            refine cw_region ?_
            refine ow_ev (ev_add (hr := fun _ => by unfold I64; omega)) ?_
            refine ow_ev ev_move ?_
            refine ow_nil (hL1 (nn1, (pairs_j3, t54_1 + 1), ()) _ _ (eqc hcont1 hM) (Nat.lt_succ_self _) ⟨rfl, rfl, rfl, rfl, rfl, rfl, rfl, rfl, rfl, trivial⟩ (fun w hm => hm.reord))
      ·
        replace hM := (ite_f hc16).symm.trans hM
        refine cw_exit (hK11 _ _ ?_); clear hK11
        dsimp only [circulation_Verify_k1] at hM
        refine cw_seq fun K26 hK26 => ?_
        refine cw_region ?_
        refine ow_ev (ev_field_addr 0) ?_
        refine ow_ev (ev_load_own (b := b2)) ?_
        refine ow_ev ev_len ?_
        refine ow_ev (ev_field_addr 1) ?_
        refine ow_ev (ev_load_own (b := b2)) ?_
        refine ow_ev ev_len ?_
        obtain ⟨hI34, hM⟩ := chk_some hM
        refine ow_ev (ev_add (hr := fun hg => i64b_I64 hI34)) ?_
        refine ow_ev ev_move ?_
        refine ow_ev ev_eql ?_
        refine ow_ev ev_assign ?_
        refine ow_nil (hK26 _ _ ?_); clear hK26
        obtain rfl := some_inj hM
        refine cw_ret (kw_retc1 (fun w hm => ret_of hm rfl))

def ref24_EmptySeconds_k2 (cont1 : (Int × Nat) → Option (Int × Int)) (t26_1 : Nat) : Int → Option (Int × Int) := fun sum_j2 =>
  cont1 (sum_j2, t26_1 + 1)
def ref24_EmptySeconds_k1 (sum_1 : Int) : Unit → Option (Int × Int) := fun _ =>
  some (sum_1, 0)
def ref24_EmptySeconds_b1 (next0 : List Int) (tasks0 : List Task) (r0 : Rules) (cont1 : (Int × Nat) → Option (Int × Int)) : (Int × Nat) → Option (Int × Int) := fun (sum_1, t26_1) =>
  if decide ((t26_1 : Int) < (next0.length : Int)) then
    ((idx next0 (t26_1 : Int)).bind fun x9 =>
    if decide (0 ≤ x9) then
      ((idx tasks0 (t26_1 : Int)).bind fun x12 =>
      (idx tasks0 x9).bind fun x14 =>
      (ref24_Follows_m r0 x12 x14).bind fun y16 =>
      chk (i64b (sum_1 + y16.1)) <|
      ref24_EmptySeconds_k2 cont1 t26_1 (sum_1 + y16.1))
    else
      (ref24_EmptySeconds_k2 cont1 t26_1 sum_1))
  else
    (ref24_EmptySeconds_k1 sum_1 ())
def ref24_EmptySeconds_m (tasks0 : List Task) (r0 : Rules) (next0 : List Int) : Option (Int × Int) :=
  (ref24_CheckTasks_m tasks0 r0).bind fun y2 =>
  (whn (!(!y2)) default (ref24_Circulation_m tasks0 r0 next0)).bind fun y4 =>
  if ((!y2) || (!y4)) then
    (some (0, 1))
  else
    (iter (ref24_EmptySeconds_b1 next0 tasks0 r0) FUEL (0, 0))
theorem ref24_EmptySeconds_spec (S : Soup) (w : World) (tasks0 : List Task) (r_tasks0 : GoRep.R (List Task)) (r0 : Rules) (r_r0 : GoRep.R Rules) (next0 : List Int) (r_next0 : GoRep.R (List Int)) (y : Int × Int) (hM : ref24_EmptySeconds_m tasks0 r0 next0 = some y) (hS : ∀ k, S k → k < w.heap.size) (h_tasks0 : GoRep.ok S w r_tasks0 tasks0) (h_r0 : GoRep.ok S w r_r0 r0) (h_next0 : GoRep.ok S w r_next0 next0) :
    Calls Try.prog 52 #[.slice r_tasks0.a tasks0.length r_tasks0.cap, .agg #[.int .i64 r0.Turn, .slice r_r0.1.a r0.Empties.length r_r0.1.cap, .slice r_r0.2.a r0.Shops.length r_r0.2.cap, .int .i64 r0.Service, .int .i64 r0.Limit], .slice r_next0.a next0.length r_next0.cap] w (Ret w (.tuple #[.int .i64 y.1, .int .i64 y.2])) := by
  refine calls_cw (args := [_, _, _]) Try.func52 rfl ((pre_nil hS).start |>.immP (α := List Task) (r := r_tasks0) (x := tasks0) h_tasks0|>.immP (α := List EmptyT) (r := r_r0.1) (x := r0.Empties) h_r0.1|>.immP (α := List Int) (r := r_r0.2) (x := r0.Shops) h_r0.2|>.immP (α := List Int) (r := r_next0) (x := next0) h_next0) rfl ?_
  unfold ref24_EmptySeconds_m at hM
  refine cw_seq fun K1 hK1 => ?_
  refine cw_region ?_
  refine ow_cons (st_box (l := [.int .i64 r0.Turn, .slice r_r0.1.a r0.Empties.length r_r0.1.cap, .slice r_r0.2.a r0.Shops.length r_r0.2.cap, .int .i64 r0.Service, .int .i64 r0.Limit]) (k := fun b1 => ?_))
  refine ow_ev ev_assign ?_
  refine ow_ev ev_assign ?_
  refine ow_nil (hK1 _ _ ?_); clear hK1
  refine cw_seq fun K2 hK2 => ?_
  refine cw_seq fun K3 hK3 => ?_
  refine cw_region ?_
  refine ow_ev ev_move ?_
  refine ow_ev (ev_load_all (b := b1)) ?_
  obtain ⟨y2, hy3, hM⟩ := bind_some hM
  refine ow_cons (st_callv (fun w hm => let ⟨S, hs⟩ := hm; ref24_CheckTasks_spec _ w tasks0 r_tasks0 r0 r_r0 y2 hy3 (lend_lt hs) (Kn.lend (Kn.imm (α := List Task) (r := r_tasks0) (x := tasks0) (by repeat (first | exact Has.head | apply Has.tail))) hs) ⟨(Kn.lend (Kn.imm (α := List EmptyT) (r := r_r0.1) (x := r0.Empties) (by repeat (first | exact Has.head | apply Has.tail))) hs), (Kn.lend (Kn.imm (α := List Int) (r := r_r0.2) (x := r0.Shops) (by repeat (first | exact Has.head | apply Has.tail))) hs)⟩) ?_)
  refine ow_ev ev_not ?_
  refine ow_ev ev_move ?_
  refine ow_evg rfl ev_move ?_
  refine ow_evg rfl (ev_load_all (b := b1)) ?_
  refine ow_evg rfl ev_move ?_
  obtain ⟨y4, hy5, hM⟩ := bind_some hM
  refine ow_callg rfl (fun hg w hm => let ⟨S, hs⟩ := hm; ref24_Circulation_spec _ w tasks0 r_tasks0 r0 r_r0 next0 r_next0 y4 (whn_some hy5 hg) (lend_lt hs) (Kn.lend (Kn.imm (α := List Task) (r := r_tasks0) (x := tasks0) (by repeat (first | exact Has.head | apply Has.tail))) hs) ⟨(Kn.lend (Kn.imm (α := List EmptyT) (r := r_r0.1) (x := r0.Empties) (by repeat (first | exact Has.head | apply Has.tail))) hs), (Kn.lend (Kn.imm (α := List Int) (r := r_r0.2) (x := r0.Shops) (by repeat (first | exact Has.head | apply Has.tail))) hs)⟩ (Kn.lend (Kn.imm (α := List Int) (r := r_next0) (x := next0) (by repeat (first | exact Has.head | apply Has.tail))) hs)) ?_
  refine ow_evg rfl ev_not ?_
  refine ow_ev ev_or ?_
  refine ow_nil (hK3 _ _ ?_); clear hK3
  refine cw_cond rfl (fun hc6 => ?_) (fun hc6 => ?_)
  ·
    replace hM := (ite_t hc6).symm.trans hM
    refine cw_seq fun K4 hK4 => ?_
    refine cw_region ?_
    refine ow_ev ev_assign ?_
    refine ow_ev ev_assign ?_
    refine ow_nil (hK4 _ _ ?_); clear hK4
    obtain rfl := some_inj hM
    refine cw_ret (kw_retc2 (fun w hm => ret_of hm rfl))
  ·
    replace hM := (ite_f hc6).symm.trans hM
    refine cw_skip (hK2 _ _ ?_); clear hK2
    refine cw_seq fun K5 hK5 => ?_
    refine cw_region ?_
    refine ow_ev ev_assign ?_
    refine ow_nil (hK5 _ _ ?_); clear hK5
    refine cw_seq fun K6 hK6 => ?_
    refine cw_seq fun K7 hK7 => ?_
    refine cw_region ?_
    refine ow_ev ev_move ?_
    refine ow_have (fun w hm => Kn.len (Kn.imm (α := List Int) (r := r_next0) (x := next0) (by repeat (first | exact Has.head | apply Has.tail))) hm) fun hl7 => ?_
    refine ow_ev ev_len ?_
    refine ow_ev ev_move ?_
    refine ow_nil (hK7 _ _ ?_); clear hK7
    refine cw_block ?_
    refine cw_loop (γ := Nat × (Int × Nat) × Unit) (env := fun (_, (sum_1, t26_1), _) => [(0, .v (.slice r_tasks0.a tasks0.length r_tasks0.cap)), (4, .v (.pointer (some ⟨b1, 0, none⟩))), (8, .v (.int .i64 sum_1)), (24, .v (.slice r_next0.a next0.length r_next0.cap)), (25, .v (.int .i64 (next0.length : Int))), (26, .v (.int .i64 (t26_1 : Int)))]) (mem := fun (_, (sum_1, t26_1), _) => [imm (α := (List Task)) r_tasks0 tasks0, imm (α := (List EmptyT)) r_r0.1 r0.Empties, imm (α := (List Int)) r_r0.2 r0.Shops, own b1 53 [.int .i64 r0.Turn, .slice r_r0.1.a r0.Empties.length r_r0.1.cap, .slice r_r0.2.a r0.Shops.length r_r0.2.cap, .int .i64 r0.Service, .int .i64 r0.Limit], imm (α := (List Int)) r_next0 next0]) (R := fun g => iter (ref24_EmptySeconds_b1 next0 tasks0 r0) g.1 g.2.1 = some y) (μ := fun g => g.1) (FUEL, (0, 0), ()) hM ⟨rfl, rfl, rfl, rfl, rfl, rfl, trivial⟩ (fun w hm => hm.reord) ?_
    clear hM
    intro g hM KL1 hL1
    obtain ⟨nn1, ⟨sum_1, t26_1⟩, ⟨⟩⟩ := g
    dsimp only at hM ⊢
    obtain ⟨nn1, cont1, rfl, hcont1, hM⟩ := iter_open' hM
    dsimp only [ref24_EmptySeconds_b1] at hM
    refine cw_seq fun K8 hK8 => ?_
    refine cw_region ?_
    refine ow_ev ev_lss ?_
    refine ow_nil (hK8 _ _ ?_); clear hK8
    refine cw_seq fun K9 hK9 => ?_
    refine cw_cond rfl (fun hc8 => ?_) (fun hc8 => ?_)
    ·
      replace hM := (ite_t hc8).symm.trans hM
      have hc8d := of_decide_eq_true hc8
      refine cw_skip (hK9 _ _ ?_); clear hK9
      refine cw_cut (γ := Int × Unit) (env := fun (sum_j2, _) => [(0, .v (.slice r_tasks0.a tasks0.length r_tasks0.cap)), (4, .v (.pointer (some ⟨b1, 0, none⟩))), (8, .v (.int .i64 sum_j2)), (24, .v (.slice r_next0.a next0.length r_next0.cap)), (25, .v (.int .i64 (next0.length : Int))), (26, .v (.int .i64 (t26_1 : Int)))]) (mem := fun (sum_j2, _) => [imm (α := (List Task)) r_tasks0 tasks0, imm (α := (List EmptyT)) r_r0.1 r0.Empties, imm (α := (List Int)) r_r0.2 r0.Shops, own b1 53 [.int .i64 r0.Turn, .slice r_r0.1.a r0.Empties.length r_r0.1.cap, .slice r_r0.2.a r0.Shops.length r_r0.2.cap, .int .i64 r0.Service, .int .i64 r0.Limit], imm (α := (List Int)) r_next0 next0]) (R := fun g => ref24_EmptySeconds_k2 cont1 t26_1 g.1 = some y) ?_ ?_
      · intro KJ2 hJ2
        refine cw_block ?_
        refine cw_seq fun K10 hK10 => ?_
        refine cw_region ?_
        refine ow_ev ev_move ?_
        obtain ⟨x9, hx10, hM⟩ := bind_some hM
        refine ow_ev (ev_idx (xs := next0) 1 (Kn.imm (α := List Int) (r := r_next0) (x := next0) (by repeat (first | exact Has.head | apply Has.tail))) (fun hg => let h := idx_some hx10; ⟨h.1, h.2.1⟩)) ?_
        refine ow_ev (ev_ld (i := (t26_1 : Int)) (xs := next0) (y := x9) 0 (Kn.imm (α := List Int) (r := r_next0) (x := next0) (by repeat (first | exact Has.head | apply Has.tail))) (fun _ => hx10)) ?_
        refine ow_ev ev_assign ?_
        refine ow_ev ev_assign ?_
        refine ow_nil (hK10 _ _ ?_); clear hK10
        refine cw_seq fun K11 hK11 => ?_
        refine cw_region ?_
        refine ow_ev ev_move ?_
        refine ow_ev ev_geq ?_
        refine ow_nil (hK11 _ _ ?_); clear hK11
        refine cw_cond rfl (fun hc11 => ?_) (fun hc11 => ?_)
        ·
          replace hM := (ite_t hc11).symm.trans hM
          refine cw_seq fun K12 hK12 => ?_
          refine cw_region_any _ (List.Sublist.refl _) ?_
          refine aw_ev 0 rfl (ev_load_all (b := b1)) ?_
          refine aw_ev 1 rfl ev_move ?_
          refine aw_ev 2 rfl ev_move ?_
          obtain ⟨x12, hx13, hM⟩ := bind_some hM
          refine aw_ev 3 rfl (ev_idx (xs := tasks0) 5 (Kn.imm (α := List Task) (r := r_tasks0) (x := tasks0) (by repeat (first | exact Has.head | apply Has.tail))) (fun hg => let h := idx_some hx13; ⟨h.1, h.2.1⟩)) ?_
          refine aw_ev 4 rfl (ev_lds (m := 5) (i := (t26_1 : Int)) (xs := tasks0) (y := x12) (l := [.int .i64 x12.Type_, .int .i64 x12.From, .int .i64 x12.To, .int .i64 x12.Start, .int .i64 x12.End]) 0 (Kn.imm (α := List Task) (r := r_tasks0) (x := tasks0) (by repeat (first | exact Has.head | apply Has.tail))) (fun _ => hx13)) ?_
          refine aw_ev 5 rfl ev_move ?_
          refine aw_ev 6 rfl ev_move ?_
          obtain ⟨x14, hx15, hM⟩ := bind_some hM
          refine aw_ev 7 rfl (ev_idx (xs := tasks0) 5 (Kn.imm (α := List Task) (r := r_tasks0) (x := tasks0) (by repeat (first | exact Has.head | apply Has.tail))) (fun hg => let h := idx_some hx15; ⟨h.1, h.2.1⟩)) ?_
          refine aw_ev 8 rfl (ev_lds (m := 5) (i := x9) (xs := tasks0) (y := x14) (l := [.int .i64 x14.Type_, .int .i64 x14.From, .int .i64 x14.To, .int .i64 x14.Start, .int .i64 x14.End]) 0 (Kn.imm (α := List Task) (r := r_tasks0) (x := tasks0) (by repeat (first | exact Has.head | apply Has.tail))) (fun _ => hx15)) ?_
          obtain ⟨y16, hy17, hM⟩ := bind_some hM
          refine aw_one 9 rfl (st_callv (fun w hm => let ⟨S, hs⟩ := hm; ref24_Follows_spec _ w r0 r_r0 x12 x14 y16 hy17 (lend_lt hs) ⟨(Kn.lend (Kn.imm (α := List EmptyT) (r := r_r0.1) (x := r0.Empties) (by repeat (first | exact Has.head | apply Has.tail))) hs), (Kn.lend (Kn.imm (α := List Int) (r := r_r0.2) (x := r0.Shops) (by repeat (first | exact Has.head | apply Has.tail))) hs)⟩) ⟨fun w hm => hm.sub (by repeat (first | exact List.Sublist.refl _ | apply List.Sublist.cons_cons | apply List.Sublist.cons)), ?_⟩)
          refine aw_ev 10 rfl ev_move ?_
          refine aw_ev 11 rfl (ev_extract (vs := [.int .i64 y16.1, .bool y16.2])) ?_
          refine aw_ev 12 rfl (ev_extract (vs := [.int .i64 y16.1, .bool y16.2])) ?_
          refine aw_ev 13 rfl ev_assign ?_
          refine aw_ev 14 rfl ev_assign ?_
          refine aw_done (hK12 _ _ ?_); clear hK12
          refine cw_region ?_
          refine ow_ev ev_move ?_
          refine ow_ev ev_move ?_
          obtain ⟨hI18, hM⟩ := chk_some hM
          refine ow_ev (ev_add (hr := fun hg => i64b_I64 hI18)) ?_
          refine ow_ev ev_assign ?_
          refine ow_nil (hJ2 ((sum_1 + y16.1), ()) _ _ hM ⟨rfl, rfl, rfl, rfl, rfl, rfl, trivial⟩ (fun w hm => hm.reord))
        ·
          replace hM := (ite_f hc11).symm.trans hM
          refine cw_skip (hJ2 (sum_1, ()) _ _ hM ⟨rfl, rfl, rfl, rfl, rfl, rfl, trivial⟩ (fun w hm => hm.reord))
      ·
        clear hM
        intro g hM
        obtain ⟨sum_j2, ⟨⟩⟩ := g
        dsimp only at hM ⊢
        dsimp only [ref24_EmptySeconds_k2] at hM
        refine cw_region ?_
        refine ow_ev (ev_add (hr := fun _ => by unfold I64; omega)) ?_
        refine ow_ev ev_move ?_
        refine ow_nil (hL1 (nn1, (sum_j2, t26_1 + 1), ()) _ _ (eqc hcont1 hM) (Nat.lt_succ_self _) ⟨rfl, rfl, rfl, rfl, rfl, rfl, trivial⟩ (fun w hm => hm.reord))
    ·
      replace hM := (ite_f hc8).symm.trans hM
      refine cw_exit (hK6 _ _ ?_); clear hK6
      dsimp only [ref24_EmptySeconds_k1] at hM
      refine cw_seq fun K13 hK13 => ?_
      refine cw_region ?_
      refine ow_ev ev_move ?_
      refine ow_ev ev_assign ?_
      refine ow_ev ev_assign ?_
      refine ow_nil (hK13 _ _ ?_); clear hK13
      obtain rfl := some_inj hM
      refine cw_ret (kw_retc2 (fun w hm => ret_of hm rfl))

end Go.Proofs.Ytedocibniankjaa
