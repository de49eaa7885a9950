/- Models of functions, and that the code computes them. -/
import Derived.Test.YtedocibniankjaaCb
namespace Go.Proofs.Ytedocibniankjaa
open Go.Dc Go.RowKit
set_option maxRecDepth 10000
set_option linter.unusedVariables false
def slices_Index_int_int_k1 : Unit → Option Int := fun _ =>
  some (-1)
def slices_Index_int_int_b1 (s0 : List Int) (v0 : Int) (cont1 : Nat → Option Int) : Nat → Option Int := fun t8_1 =>
  if decide ((t8_1 : Int) < (s0.length : Int)) then
    ((idx s0 (t8_1 : Int)).bind fun x3 =>
    if decide (v0 = x3) then
      (some (t8_1 : Int))
    else
      (cont1 (t8_1 + 1)))
  else
    (slices_Index_int_int_k1 ())
def slices_Index_int_int_m (s0 : List Int) (v0 : Int) : Option Int :=
  iter (slices_Index_int_int_b1 s0 v0) FUEL 0
theorem slices_Index_int_int_spec (S : Soup) (w : World) (s0 : List Int) (r_s0 : GoRep.R (List Int)) (v0 : Int) (y : Int) (hM : slices_Index_int_int_m s0 v0 = some y) (hS : ∀ k, S k → k < w.heap.size) (h_s0 : GoRep.ok S w r_s0 s0) :
    Calls Try.prog 80 #[.slice r_s0.a s0.length r_s0.cap, .int .i64 v0] w (Ret w (.int .i64 y)) := by
  refine calls_cw (args := [_, _]) Try.func80 rfl ((pre_nil hS).start |>.immP (α := List Int) (r := r_s0) (x := s0) h_s0) rfl ?_
  unfold slices_Index_int_int_m at hM
  refine cw_seq fun K1 hK1 => ?_
  refine cw_region ?_
  refine ow_ev ev_assign ?_
  refine ow_nil (hK1 _ _ ?_); clear hK1
  refine cw_seq fun K2 hK2 => ?_
  refine cw_seq fun K3 hK3 => ?_
  refine cw_region ?_
  refine ow_ev ev_move ?_
  refine ow_have (fun w hm => Kn.len (Kn.imm (α := List Int) (r := r_s0) (x := s0) (by repeat (first | exact Has.head | apply Has.tail))) hm) fun hl1 => ?_
  refine ow_ev ev_len ?_
  refine ow_ev ev_move ?_
  refine ow_nil (hK3 _ _ ?_); clear hK3
  refine cw_block ?_
  refine cw_loop (γ := Nat × Nat × Unit) (env := fun (_, t8_1, _) => [(0, .v (.slice r_s0.a s0.length r_s0.cap)), (1, .v (.int .i64 v0)), (7, .v (.int .i64 (s0.length : Int))), (8, .v (.int .i64 (t8_1 : Int)))]) (mem := fun (_, t8_1, _) => [imm (α := (List Int)) r_s0 s0]) (R := fun g => iter (slices_Index_int_int_b1 s0 v0) g.1 g.2.1 = some y) (μ := fun g => g.1) (FUEL, 0, ()) hM ⟨rfl, rfl, rfl, rfl, trivial⟩ (fun w hm => hm.reord) ?_
  clear hM
  intro g hM KL1 hL1
  obtain ⟨nn1, t8_1, ⟨⟩⟩ := g
  dsimp only at hM ⊢
  obtain ⟨nn1, cont1, rfl, hcont1, hM⟩ := iter_open' hM
  dsimp only [slices_Index_int_int_b1] at hM
  refine cw_seq fun K4 hK4 => ?_
  refine cw_region ?_
  refine ow_ev ev_lss ?_
  refine ow_nil (hK4 _ _ ?_); clear hK4
  refine cw_seq fun K5 hK5 => ?_
  refine cw_cond rfl (fun hc2 => ?_) (fun hc2 => ?_)
  ·
    replace hM := (ite_t hc2).symm.trans hM
    have hc2d := of_decide_eq_true hc2
    refine cw_skip (hK5 _ _ ?_); clear hK5
    refine cw_seq fun K6 hK6 => ?_
    refine cw_block ?_
    refine cw_seq fun K7 hK7 => ?_
    refine cw_region ?_
    refine ow_ev ev_move ?_
    refine ow_ev ev_assign ?_
    refine ow_nil (hK7 _ _ ?_); clear hK7
    refine cw_seq fun K8 hK8 => ?_
    refine cw_region ?_
    refine ow_ev ev_move ?_
    refine ow_ev ev_move ?_
    refine ow_ev ev_move ?_
    obtain ⟨x3, hx4, hM⟩ := bind_some hM
    refine ow_ev (ev_idx (xs := s0) 1 (Kn.imm (α := List Int) (r := r_s0) (x := s0) (by repeat (first | exact Has.head | apply Has.tail))) (fun hg => let h := idx_some hx4; ⟨h.1, h.2.1⟩)) ?_
    refine ow_ev (ev_ld (i := (t8_1 : Int)) (xs := s0) (y := x3) 0 (Kn.imm (α := List Int) (r := r_s0) (x := s0) (by repeat (first | exact Has.head | apply Has.tail))) (fun _ => hx4)) ?_
    refine ow_ev ev_eql ?_
    refine ow_nil (hK8 _ _ ?_); clear hK8
    refine cw_cond rfl (fun hc5 => ?_) (fun hc5 => ?_)
    ·
      replace hM := (ite_t hc5).symm.trans hM
      refine cw_seq fun K9 hK9 => ?_
      refine cw_region ?_
      refine ow_ev ev_move ?_
      refine ow_ev ev_assign ?_
      refine ow_nil (hK9 _ _ ?_); clear hK9
      obtain rfl := some_inj hM
      refine cw_ret (kw_retc1 (fun w hm => ret_of hm rfl))
    ·
      replace hM := (ite_f hc5).symm.trans hM
      refine cw_skip (hK6 _ _ ?_); clear hK6
      refine cw_region ?_
      refine ow_ev (ev_add (hr := fun _ => by unfold I64; omega)) ?_
      refine ow_ev ev_move ?_
      refine ow_nil (hL1 (nn1, (t8_1 + 1), ()) _ _ (eqc hcont1 hM) (Nat.lt_succ_self _) ⟨rfl, rfl, rfl, rfl, trivial⟩ (fun w hm => hm.reord))
  ·
    replace hM := (ite_f hc2).symm.trans hM
    refine cw_exit (hK2 _ _ ?_); clear hK2
    dsimp only [slices_Index_int_int_k1] at hM
    refine cw_seq fun K10 hK10 => ?_
    refine cw_region ?_
    refine ow_ev ev_assign ?_
    refine ow_nil (hK10 _ _ ?_); clear hK10
    obtain rfl := some_inj hM
    refine cw_ret (kw_retc1 (fun w hm => ret_of hm rfl))

def circulation_cover_k3 (cont2 : ((List Bool) × (List Int) × Nat) → Option Cover) (t44_2 : Nat) : ((List Bool) × (List Int)) → Option Cover := fun (lfirst_j3, lqueue_j3) =>
  cont2 (lfirst_j3, lqueue_j3, t44_2 + 1)
def circulation_cover_k5 (cont4 : ((List Bool) × (List Bool) × (List Int) × Nat) → Option Cover) (t69_4 : Nat) : ((List Bool) × (List Bool) × (List Int)) → Option Cover := fun (lfirst_j5, lsecond_j5, lqueue_j5) =>
  cont4 (lfirst_j5, lsecond_j5, lqueue_j5, t69_4 + 1)
def circulation_cover_b4 (tasks0 : List Task) (x32 : Int) (r0 : Rules) (lbefore_1 : List Int) (cont3 : ((List Bool) × (List Bool) × (List Int)) → Option Cover) (cont4 : ((List Bool) × (List Bool) × (List Int) × Nat) → Option Cover) : ((List Bool) × (List Bool) × (List Int) × Nat) → Option Cover := fun (lfirst_4, lsecond_4, lqueue_4, t69_4) =>
  if decide ((t69_4 : Int) < (tasks0.length : Int)) then
    ((idx tasks0 x32).bind fun x39 =>
    (idx tasks0 (t69_4 : Int)).bind fun x41 =>
    (circulation_Follows_m r0 x39 x41).bind fun y43 =>
    (whn (!(!y43.2)) default (idx lsecond_4 (t69_4 : Int))).bind fun x45 =>
    if ((!y43.2) || x45) then
      (circulation_cover_k5 cont4 t69_4 (lfirst_4, lsecond_4, lqueue_4))
    else
      ((idx lsecond_4 (t69_4 : Int)).bind fun x48 =>
      (idx lbefore_1 (t69_4 : Int)).bind fun x50 =>
      (whn (decide (0 ≤ x50)) default (idx lfirst_4 x50)).bind fun x52 =>
      if (decide (0 ≤ x50) && (!x52)) then
        ((idx lfirst_4 x50).bind fun x55 =>
        chk (decide ((lqueue_4.length + ([x50] : List Int).length) * 8 ≤ 140737488355328)) <|
        circulation_cover_k5 cont4 t69_4 ((lfirst_4.set x50.toNat true), (lsecond_4.set (t69_4 : Int).toNat true), (lqueue_4 ++ ([x50] : List Int))))
      else
        (circulation_cover_k5 cont4 t69_4 (lfirst_4, (lsecond_4.set (t69_4 : Int).toNat true), lqueue_4))))
  else
    (cont3 (lfirst_4, lsecond_4, lqueue_4))
def circulation_cover_k7 (cont5 : ((List Int) × (List Int) × Nat) → Option Cover) (t119_5 : Nat) : ((List Int) × (List Int)) → Option Cover := fun (lc_j7_0, lc_j7_1) =>
  cont5 (lc_j7_0, lc_j7_1, t119_5 + 1)
def circulation_cover_k8 (lsecond_3 : List Bool) (t119_5 : Nat) (lc_5_1 : List Int) (cont5 : ((List Int) × (List Int) × Nat) → Option Cover) : (List Int) → Option Cover := fun lc_j8_0 =>
  (idx lsecond_3 (t119_5 : Int)).bind fun x65 =>
  if x65 then
    (chk (decide ((lc_5_1.length + ([(t119_5 : Int)] : List Int).length) * 8 ≤ 140737488355328)) <|
    circulation_cover_k7 cont5 t119_5 (lc_j8_0, (lc_5_1 ++ ([(t119_5 : Int)] : List Int))))
  else
    (circulation_cover_k7 cont5 t119_5 (lc_j8_0, lc_5_1))
def circulation_cover_k6 (lc_5_0 : List Int) (lc_5_1 : List Int) : Unit → Option Cover := fun _ =>
  some (Cover.mk lc_5_0 lc_5_1)
def circulation_cover_b5 (tasks0 : List Task) (lfirst_3 : List Bool) (lsecond_3 : List Bool) (cont5 : ((List Int) × (List Int) × Nat) → Option Cover) : ((List Int) × (List Int) × Nat) → Option Cover := fun (lc_5_0, lc_5_1, t119_5) =>
  if decide ((t119_5 : Int) < (tasks0.length : Int)) then
    ((idx lfirst_3 (t119_5 : Int)).bind fun x71 =>
    if (!x71) then
      (chk (decide ((lc_5_0.length + ([(t119_5 : Int)] : List Int).length) * 8 ≤ 140737488355328)) <|
      circulation_cover_k8 lsecond_3 t119_5 lc_5_1 cont5 (lc_5_0 ++ ([(t119_5 : Int)] : List Int)))
    else
      (circulation_cover_k8 lsecond_3 t119_5 lc_5_1 cont5 lc_5_0))
  else
    (circulation_cover_k6 lc_5_0 lc_5_1 ())
def circulation_cover_k4 (tasks0 : List Task) (lfirst_3 : List Bool) (lsecond_3 : List Bool) : Unit → Option Cover := fun _ =>
  iter (circulation_cover_b5 tasks0 lfirst_3 lsecond_3) FUEL (([] : List Int), ([] : List Int), 0)
def circulation_cover_b3 (tasks0 : List Task) (r0 : Rules) (lbefore_1 : List Int) (cont3 : ((List Bool) × (List Bool) × (List Int)) → Option Cover) : ((List Bool) × (List Bool) × (List Int)) → Option Cover := fun (lfirst_3, lsecond_3, lqueue_3) =>
  if decide (0 < (lqueue_3.length : Int)) then
    ((idx lqueue_3 0).bind fun x32 =>
    (sub lqueue_3 1 (lqueue_3.length : Int)).bind fun l34 =>
    iter (circulation_cover_b4 tasks0 x32 r0 lbefore_1 cont3) FUEL (lfirst_3, lsecond_3, l34, 0))
  else
    (circulation_cover_k4 tasks0 lfirst_3 lsecond_3 ())
def circulation_cover_k2 (tasks0 : List Task) (r0 : Rules) (lbefore_1 : List Int) (lfirst_2 : List Bool) (m17 : List Bool) (lqueue_2 : List Int) : Unit → Option Cover := fun _ =>
  iter (circulation_cover_b3 tasks0 r0 lbefore_1) FUEL (lfirst_2, m17, lqueue_2)
def circulation_cover_b2 (next0 : List Int) (tasks0 : List Task) (r0 : Rules) (lbefore_1 : List Int) (m17 : List Bool) (cont2 : ((List Bool) × (List Int) × Nat) → Option Cover) : ((List Bool) × (List Int) × Nat) → Option Cover := fun (lfirst_2, lqueue_2, t44_2) =>
  if decide ((t44_2 : Int) < (next0.length : Int)) then
    ((idx next0 (t44_2 : Int)).bind fun x23 =>
    if decide (x23 = (-1)) then
      ((idx lfirst_2 (t44_2 : Int)).bind fun x26 =>
      chk (decide ((lqueue_2.length + ([(t44_2 : Int)] : List Int).length) * 8 ≤ 140737488355328)) <|
      circulation_cover_k3 cont2 t44_2 ((lfirst_2.set (t44_2 : Int).toNat true), (lqueue_2 ++ ([(t44_2 : Int)] : List Int))))
    else
      (circulation_cover_k3 cont2 t44_2 (lfirst_2, lqueue_2)))
  else
    (circulation_cover_k2 tasks0 r0 lbefore_1 lfirst_2 m17 lqueue_2 ())
def circulation_cover_k1 (tasks0 : List Task) (next0 : List Int) (r0 : Rules) (lbefore_1 : List Int) : Unit → Option Cover := fun _ =>
  (mk (α := Bool) false (tasks0.length : Int)).bind fun m14 =>
  (mk (α := Bool) false (tasks0.length : Int)).bind fun m17 =>
  iter (circulation_cover_b2 next0 tasks0 r0 lbefore_1 m17) FUEL (m14, ([] : List Int), 0)
def circulation_cover_b1 (m3 : List Int) (next0 : List Int) (tasks0 : List Task) (r0 : Rules) (cont1 : ((List Int) × Nat) → Option Cover) : ((List Int) × Nat) → Option Cover := fun (lbefore_1, t26_1) =>
  if decide ((t26_1 : Int) < (m3.length : Int)) then
    ((slices_Index_int_int_m next0 (t26_1 : Int)).bind fun y10 =>
    (idx lbefore_1 (t26_1 : Int)).bind fun x12 =>
    cont1 ((lbefore_1.set (t26_1 : Int).toNat y10), t26_1 + 1))
  else
    (circulation_cover_k1 tasks0 next0 r0 lbefore_1 ())
def circulation_cover_m (tasks0 : List Task) (r0 : Rules) (next0 : List Int) : Option Cover :=
  (mk (α := Int) 0 (tasks0.length : Int)).bind fun m3 =>
  iter (circulation_cover_b1 m3 next0 tasks0 r0) FUEL (m3, 0)
theorem circulation_cover_spec (S : Soup) (w : World) (tasks0 : List Task) (r_tasks0 : GoRep.R (List Task)) (r0 : Rules) (r_r0 : GoRep.R Rules) (next0 : List Int) (r_next0 : GoRep.R (List Int)) (y : Cover) (hM : circulation_cover_m tasks0 r0 next0 = some y) (hS : ∀ k, S k → k < w.heap.size) (h_tasks0 : GoRep.ok S w r_tasks0 tasks0) (h_r0 : GoRep.ok S w r_r0 r0) (h_next0 : GoRep.ok S w r_next0 next0) :
    Calls Try.prog 66 #[.slice r_tasks0.a tasks0.length r_tasks0.cap, .agg #[.int .i64 r0.Turn, .slice r_r0.1.a r0.Empties.length r_r0.1.cap, .slice r_r0.2.a r0.Shops.length r_r0.2.cap, .int .i64 r0.Service, .int .i64 r0.Limit], .slice r_next0.a next0.length r_next0.cap] w (Post (β := (GoRep.R Cover)) S [] (fun g => .agg #[.slice g.1.a y.Left.length g.1.cap, .slice g.2.a y.Right.length g.2.cap]) (fun g => [trow 3 g.1 y.Left, trow 3 g.2 y.Right]) w) := by
  refine calls_cw (args := [_, _, _]) Try.func66 rfl ((pre_nil hS).start |>.immP (α := List Task) (r := r_tasks0) (x := tasks0) h_tasks0|>.immP (α := List EmptyT) (r := r_r0.1) (x := r0.Empties) h_r0.1|>.immP (α := List Int) (r := r_r0.2) (x := r0.Shops) h_r0.2|>.immP (α := List Int) (r := r_next0) (x := next0) h_next0) rfl ?_
  unfold circulation_cover_m at hM
  refine cw_seq fun K1 hK1 => ?_
  refine cw_region ?_
  refine ow_cons (st_box (l := [.int .i64 r0.Turn, .slice r_r0.1.a r0.Empties.length r_r0.1.cap, .slice r_r0.2.a r0.Shops.length r_r0.2.cap, .int .i64 r0.Service, .int .i64 r0.Limit]) (k := fun b1 => ?_))
  refine ow_cons (st_alloc rfl (k := fun b2 => ?_))
  refine ow_nil (hK1 _ _ ?_); clear hK1
  refine cw_seq fun K2 hK2 => ?_
  refine cw_region ?_
  refine ow_ev ev_move ?_
  refine ow_ev ev_len ?_
  obtain ⟨m3, hm4, hM⟩ := bind_some hM
  refine ow_cons (st_make (α := Int) (e := 3) 0 () hm4 (fun _ _ => trivial) (fun r5 hr5 => ?_))
  refine ow_ev ev_assign ?_
  refine ow_nil (hK2 _ _ ?_); clear hK2
  refine cw_seq fun K3 hK3 => ?_
  refine cw_seq fun K4 hK4 => ?_
  refine cw_region ?_
  refine ow_ev ev_move ?_
  refine ow_have (fun w hm => Kn.len (Kn.trow (e := 3) (r := r5) (by repeat (first | exact Has.head | apply Has.tail))) hm) fun hl6 => ?_
  refine ow_ev ev_len ?_
  refine ow_ev ev_move ?_
  refine ow_nil (hK4 _ _ ?_); clear hK4
  refine cw_block ?_
  refine cw_imp (fun w hm => hm.row_nil (α := Int) 3 (fun _ => ())) ?_
  refine cw_imp (fun w hm => hm.row_nil (α := Int) 3 (fun _ => ())) ?_
  refine cw_loop (γ := Nat × ((List Int) × Nat) × Unit) (env := fun (_, (lbefore_1, t26_1), _) => [(0, .v (.slice r_tasks0.a tasks0.length r_tasks0.cap)), (2, .v (.slice r_next0.a next0.length r_next0.cap)), (4, .v (.pointer (some ⟨b1, 0, none⟩))), (6, .v (.pointer (some ⟨b2, 0, none⟩))), (7, .v (.slice r5.a lbefore_1.length r5.cap)), (25, .v (.int .i64 (m3.length : Int))), (26, .v (.int .i64 (t26_1 : Int)))]) (mem := fun (_, (lbefore_1, t26_1), _) => [imm (α := (List Task)) r_tasks0 tasks0, imm (α := (List Int)) r_next0 next0, imm (α := (List EmptyT)) r_r0.1 r0.Empties, imm (α := (List Int)) r_r0.2 r0.Shops, own b1 53 [.int .i64 r0.Turn, .slice r_r0.1.a r0.Empties.length r_r0.1.cap, .slice r_r0.2.a r0.Shops.length r_r0.2.cap, .int .i64 r0.Service, .int .i64 r0.Limit], trow 3 (⟨none, 0, (fun _ => ())⟩ : SR (GoRep.R Int) ) ([] : List Int), trow 3 (⟨none, 0, (fun _ => ())⟩ : SR (GoRep.R Int)  ) ([] : List Int), own b2 72 [.slice (⟨none, 0, (fun _ => ())⟩ : SR (GoRep.R Int) ).a (([] : List Int).length) (⟨none, 0, (fun _ => ())⟩ : SR (GoRep.R Int) ).cap, .slice (⟨none, 0, (fun _ => ())⟩ : SR (GoRep.R Int)  ).a (([] : List Int).length) (⟨none, 0, (fun _ => ())⟩ : SR (GoRep.R Int)  ).cap], trow 3 r5 lbefore_1]) (R := fun g => iter (circulation_cover_b1 m3 next0 tasks0 r0) g.1 g.2.1 = some y) (μ := fun g => g.1) (FUEL, (m3, 0), ()) hM ⟨rfl, rfl, rfl, rfl, rfl, rfl, rfl, trivial⟩ (fun w hm => hm.reord) ?_
  clear hM
  intro g hM KL1 hL1
  obtain ⟨nn1, ⟨lbefore_1, t26_1⟩, ⟨⟩⟩ := g
  dsimp only at hM ⊢
  obtain ⟨nn1, cont1, rfl, hcont1, hM⟩ := iter_open' hM
  dsimp only [circulation_cover_b1] at hM
  refine cw_seq fun K5 hK5 => ?_
  refine cw_region ?_
  refine ow_ev ev_lss ?_
  refine ow_nil (hK5 _ _ ?_); clear hK5
  refine cw_seq fun K6 hK6 => ?_
  refine cw_cond rfl (fun hc9 => ?_) (fun hc9 => ?_)
  ·
    replace hM := (ite_t hc9).symm.trans hM
    have hc9d := of_decide_eq_true hc9
    refine cw_skip (hK6 _ _ ?_); clear hK6
    refine cw_seq fun K7 hK7 => ?_
    refine cw_block ?_
    refine cw_seq fun K8 hK8 => ?_
    refine cw_region ?_
    refine ow_ev ev_move ?_
    refine ow_ev ev_assign ?_
    refine ow_nil (hK8 _ _ ?_); clear hK8
    refine cw_region ?_
    refine ow_ev ev_move ?_
    refine ow_ev ev_move ?_
    refine ow_ev ev_move ?_
    refine ow_ev ev_move ?_
    obtain ⟨y10, hy11, hM⟩ := bind_some hM
    refine ow_cons (st_callv (fun w hm => let ⟨S, hs⟩ := hm; slices_Index_int_int_spec _ w next0 r_next0 (t26_1 : Int) y10 hy11 (lend_lt hs) (Kn.lend (Kn.imm (α := List Int) (r := r_next0) (x := next0) (by repeat (first | exact Has.head | apply Has.tail))) hs)) ?_)
    obtain ⟨x12, hx13, hM⟩ := bind_some hM
    refine ow_ev (ev_idx (xs := lbefore_1) 1 (Kn.trow (e := 3) (r := r5) (by repeat (first | exact Has.head | apply Has.tail))) (fun hg => let h := idx_some hx13; ⟨h.1, h.2.1⟩)) ?_
    refine ow_cons (st_set (r := r5) (i := (t26_1 : Int)) (xs := lbefore_1) (u := x12) (vs := [.int .i64 y10]) 0 y10 hx13 rfl (fun _ _ h => h) (by repeat (first | exact Upd.head | apply Upd.tail)) ?_)
    refine ow_nil (hK7 _ _ ?_); clear hK7
    refine cw_region ?_
    refine ow_ev (ev_add (hr := fun _ => by unfold I64; omega)) ?_
    refine ow_ev ev_move ?_
    refine ow_nil (hL1 (nn1, ((lbefore_1.set (t26_1 : Int).toNat y10), t26_1 + 1), ()) _ _ (eqc hcont1 hM) (Nat.lt_succ_self _) ⟨rfl, rfl, rfl, rfl, (by simp only [List.length_set]; rfl), rfl, rfl, trivial⟩ (fun w hm => hm.reord))
  ·
    replace hM := (ite_f hc9).symm.trans hM
    refine cw_exit (hK3 _ _ ?_); clear hK3
    dsimp only [circulation_cover_k1] at hM
    refine cw_seq fun K9 hK9 => ?_
    refine cw_region ?_
    refine ow_ev ev_move ?_
    refine ow_ev ev_len ?_
    obtain ⟨m14, hm15, hM⟩ := bind_some hM
    refine ow_cons (st_make (α := Bool) (e := 4) false () hm15 (fun _ _ => trivial) (fun r16 hr16 => ?_))
    refine ow_ev ev_assign ?_
    refine ow_nil (hK9 _ _ ?_); clear hK9
    refine cw_seq fun K10 hK10 => ?_
    refine cw_region ?_
    refine ow_ev ev_move ?_
    refine ow_ev ev_len ?_
    obtain ⟨m17, hm18, hM⟩ := bind_some hM
    refine ow_cons (st_make (α := Bool) (e := 4) false () hm18 (fun _ _ => trivial) (fun r19 hr19 => ?_))
    refine ow_ev ev_assign ?_
    refine ow_nil (hK10 _ _ ?_); clear hK10
    refine cw_seq fun K11 hK11 => ?_
    refine cw_region ?_
    refine ow_ev ev_assign ?_
    refine ow_nil (hK11 _ _ ?_); clear hK11
    refine cw_seq fun K12 hK12 => ?_
    refine cw_seq fun K13 hK13 => ?_
    refine cw_region ?_
    refine ow_ev ev_move ?_
    refine ow_have (fun w hm => Kn.len (Kn.imm (α := List Int) (r := r_next0) (x := next0) (by repeat (first | exact Has.head | apply Has.tail))) hm) fun hl20 => ?_
    refine ow_ev ev_len ?_
    refine ow_ev ev_move ?_
    refine ow_nil (hK13 _ _ ?_); clear hK13
    refine cw_block ?_
    refine cw_imp (fun w hm => hm.row_nil (α := Int) 3 (fun _ => ())) ?_
    refine cw_loop (γ := Nat × ((List Bool) × (List Int) × Nat) × (SR (GoRep.R Int))) (env := fun (_, (lfirst_2, lqueue_2, t44_2), rqueue_2) => [(0, .v (.slice r_tasks0.a tasks0.length r_tasks0.cap)), (4, .v (.pointer (some ⟨b1, 0, none⟩))), (6, .v (.pointer (some ⟨b2, 0, none⟩))), (7, .v (.slice r5.a lbefore_1.length r5.cap)), (9, .v (.slice r16.a lfirst_2.length r16.cap)), (10, .v (.slice r19.a m17.length r19.cap)), (11, .v (.slice rqueue_2.a lqueue_2.length rqueue_2.cap)), (42, .v (.slice r_next0.a next0.length r_next0.cap)), (43, .v (.int .i64 (next0.length : Int))), (44, .v (.int .i64 (t44_2 : Int)))]) (mem := fun (_, (lfirst_2, lqueue_2, t44_2), rqueue_2) => [imm (α := (List Task)) r_tasks0 tasks0, imm (α := (List EmptyT)) r_r0.1 r0.Empties, imm (α := (List Int)) r_r0.2 r0.Shops, own b1 53 [.int .i64 r0.Turn, .slice r_r0.1.a r0.Empties.length r_r0.1.cap, .slice r_r0.2.a r0.Shops.length r_r0.2.cap, .int .i64 r0.Service, .int .i64 r0.Limit], trow 3 (⟨none, 0, (fun _ => ())⟩ : SR (GoRep.R Int) ) ([] : List Int), trow 3 (⟨none, 0, (fun _ => ())⟩ : SR (GoRep.R Int)  ) ([] : List Int), own b2 72 [.slice (⟨none, 0, (fun _ => ())⟩ : SR (GoRep.R Int) ).a (([] : List Int).length) (⟨none, 0, (fun _ => ())⟩ : SR (GoRep.R Int) ).cap, .slice (⟨none, 0, (fun _ => ())⟩ : SR (GoRep.R Int)  ).a (([] : List Int).length) (⟨none, 0, (fun _ => ())⟩ : SR (GoRep.R Int)  ).cap], trow 3 r5 lbefore_1, trow 4 r16 lfirst_2, trow 4 r19 m17, trow 3 rqueue_2 lqueue_2, imm (α := (List Int)) r_next0 next0]) (R := fun g => iter (circulation_cover_b2 next0 tasks0 r0 lbefore_1 m17) g.1 g.2.1 = some y) (μ := fun g => g.1) (FUEL, (m14, ([] : List Int), 0), (⟨none, 0, (fun _ => ())⟩ : SR (GoRep.R Int)                                                                                                                               )) hM ⟨rfl, rfl, rfl, rfl, rfl, rfl, rfl, rfl, rfl, rfl, trivial⟩ (fun w hm => hm.reord) ?_
    clear hM
    intro g hM KL2 hL2
    obtain ⟨nn2, ⟨lfirst_2, lqueue_2, t44_2⟩, rqueue_2⟩ := g
    dsimp only at hM ⊢
    obtain ⟨nn2, cont2, rfl, hcont2, hM⟩ := iter_open' hM
    dsimp only [circulation_cover_b2] at hM
    refine cw_seq fun K14 hK14 => ?_
    refine cw_region ?_
    refine ow_ev ev_lss ?_
    refine ow_nil (hK14 _ _ ?_); clear hK14
    refine cw_seq fun K15 hK15 => ?_
    refine cw_cond rfl (fun hc22 => ?_) (fun hc22 => ?_)
    ·
      replace hM := (ite_t hc22).symm.trans hM
      have hc22d := of_decide_eq_true hc22
      refine cw_skip (hK15 _ _ ?_); clear hK15
      refine cw_cut (γ := ((List Bool) × (List Int)) × (SR (GoRep.R Int))) (env := fun ((lfirst_j3, lqueue_j3), rqueue_j3) => [(0, .v (.slice r_tasks0.a tasks0.length r_tasks0.cap)), (4, .v (.pointer (some ⟨b1, 0, none⟩))), (6, .v (.pointer (some ⟨b2, 0, none⟩))), (7, .v (.slice r5.a lbefore_1.length r5.cap)), (9, .v (.slice r16.a lfirst_j3.length r16.cap)), (10, .v (.slice r19.a m17.length r19.cap)), (11, .v (.slice rqueue_j3.a lqueue_j3.length rqueue_j3.cap)), (42, .v (.slice r_next0.a next0.length r_next0.cap)), (43, .v (.int .i64 (next0.length : Int))), (44, .v (.int .i64 (t44_2 : Int)))]) (mem := fun ((lfirst_j3, lqueue_j3), rqueue_j3) => [imm (α := (List Task)) r_tasks0 tasks0, imm (α := (List EmptyT)) r_r0.1 r0.Empties, imm (α := (List Int)) r_r0.2 r0.Shops, own b1 53 [.int .i64 r0.Turn, .slice r_r0.1.a r0.Empties.length r_r0.1.cap, .slice r_r0.2.a r0.Shops.length r_r0.2.cap, .int .i64 r0.Service, .int .i64 r0.Limit], trow 3 (⟨none, 0, (fun _ => ())⟩ : SR (GoRep.R Int) ) ([] : List Int), trow 3 (⟨none, 0, (fun _ => ())⟩ : SR (GoRep.R Int)  ) ([] : List Int), own b2 72 [.slice (⟨none, 0, (fun _ => ())⟩ : SR (GoRep.R Int) ).a (([] : List Int).length) (⟨none, 0, (fun _ => ())⟩ : SR (GoRep.R Int) ).cap, .slice (⟨none, 0, (fun _ => ())⟩ : SR (GoRep.R Int)  ).a (([] : List Int).length) (⟨none, 0, (fun _ => ())⟩ : SR (GoRep.R Int)  ).cap], trow 3 r5 lbefore_1, trow 4 r16 lfirst_j3, trow 4 r19 m17, trow 3 rqueue_j3 lqueue_j3, imm (α := (List Int)) r_next0 next0]) (R := fun g => circulation_cover_k3 cont2 t44_2 g.1 = some y) ?_ ?_
      · intro KJ3 hJ3
        refine cw_block ?_
        refine cw_seq fun K16 hK16 => ?_
        refine cw_region ?_
        refine ow_ev ev_move ?_
        obtain ⟨x23, hx24, hM⟩ := bind_some hM
        refine ow_ev (ev_idx (xs := next0) 1 (Kn.imm (α := List Int) (r := r_next0) (x := next0) (by repeat (first | exact Has.head | apply Has.tail))) (fun hg => let h := idx_some hx24; ⟨h.1, h.2.1⟩)) ?_
        refine ow_ev (ev_ld (i := (t44_2 : Int)) (xs := next0) (y := x23) 0 (Kn.imm (α := List Int) (r := r_next0) (x := next0) (by repeat (first | exact Has.head | apply Has.tail))) (fun _ => hx24)) ?_
        refine ow_ev ev_assign ?_
        refine ow_ev ev_assign ?_
        refine ow_nil (hK16 _ _ ?_); clear hK16
        refine cw_seq fun K17 hK17 => ?_
        refine cw_region ?_
        refine ow_ev ev_move ?_
        refine ow_ev ev_eql ?_
        refine ow_nil (hK17 _ _ ?_); clear hK17
        refine cw_cond rfl (fun hc25 => ?_) (fun hc25 => ?_)
        ·
          replace hM := (ite_t hc25).symm.trans hM
          refine cw_seq fun K18 hK18 => ?_
          refine cw_region ?_
          refine ow_ev ev_move ?_
          refine ow_ev ev_move ?_
          obtain ⟨x26, hx27, hM⟩ := bind_some hM
          refine ow_ev (ev_idx (xs := lfirst_2) 1 (Kn.trow (e := 4) (r := r16) (by repeat (first | exact Has.head | apply Has.tail))) (fun hg => let h := idx_some hx27; ⟨h.1, h.2.1⟩)) ?_
          refine ow_cons (st_set (r := r16) (i := (t44_2 : Int)) (xs := lfirst_2) (u := x26) (vs := [.bool true]) 0 true hx27 rfl (fun _ _ h => h) (by repeat (first | exact Upd.head | apply Upd.tail)) ?_)
          refine ow_nil (hK18 _ _ ?_); clear hK18
          refine cw_region ?_
          refine ow_ev ev_move ?_
          refine ow_ev ev_move ?_
          refine ow_cons (st_bslice (α := Int) 3 (fun _ => ()) ([(t44_2 : Int)] : List Int) (OkL.flat (fun _ _ _ _ => trivial)) (fun r28 => ?_))
          obtain ⟨hb29, hM⟩ := chk_some hM
          refine ow_cons (st_append (r := rqueue_2) (r2 := r28) (by intro r'; repeat (first | exact Upd.head | apply Upd.tail)) (Kn.trow (e := 3) (r := r28) (by repeat (first | exact Has.head | apply Has.tail))) (OkL.flat (fun _ _ _ _ => trivial)) (of_decide_eq_true hb29) (fun r30 => ?_))
          refine ow_ev ev_assign ?_
          refine ow_nil (hJ3 (((lfirst_2.set (t44_2 : Int).toNat true), (lqueue_2 ++ ([(t44_2 : Int)] : List Int))), r30) _ _ hM ⟨rfl, rfl, rfl, rfl, (by simp only [List.length_set]; rfl), rfl, rfl, rfl, rfl, rfl, trivial⟩ (fun w hm => hm.reord))
        ·
          replace hM := (ite_f hc25).symm.trans hM
          refine cw_skip (hJ3 ((lfirst_2, lqueue_2), rqueue_2) _ _ hM ⟨rfl, rfl, rfl, rfl, rfl, rfl, rfl, rfl, rfl, rfl, trivial⟩ (fun w hm => hm.reord))
      ·
        clear hM
        intro g hM
        obtain ⟨⟨lfirst_j3, lqueue_j3⟩, rqueue_j3⟩ := g
        dsimp only at hM ⊢
        dsimp only [circulation_cover_k3] at hM
        refine cw_region ?_
        refine ow_ev (ev_add (hr := fun _ => by unfold I64; omega)) ?_
        refine ow_ev ev_move ?_
        refine ow_nil (hL2 (nn2, (lfirst_j3, lqueue_j3, t44_2 + 1), rqueue_j3) _ _ (eqc hcont2 hM) (Nat.lt_succ_self _) ⟨rfl, rfl, rfl, rfl, rfl, rfl, rfl, rfl, rfl, rfl, trivial⟩ (fun w hm => hm.reord))
    ·
      replace hM := (ite_f hc22).symm.trans hM
      refine cw_exit (hK12 _ _ ?_); clear hK12
      dsimp only [circulation_cover_k2] at hM
      refine cw_seq fun K19 hK19 => ?_
      refine cw_block ?_
      refine cw_loop (γ := Nat × ((List Bool) × (List Bool) × (List Int)) × (SR (GoRep.R Int))) (env := fun (_, (lfirst_3, lsecond_3, lqueue_3), rqueue_3) => [(0, .v (.slice r_tasks0.a tasks0.length r_tasks0.cap)), (4, .v (.pointer (some ⟨b1, 0, none⟩))), (6, .v (.pointer (some ⟨b2, 0, none⟩))), (7, .v (.slice r5.a lbefore_1.length r5.cap)), (9, .v (.slice r16.a lfirst_3.length r16.cap)), (10, .v (.slice r19.a lsecond_3.length r19.cap)), (11, .v (.slice rqueue_3.a lqueue_3.length rqueue_3.cap))]) (mem := fun (_, (lfirst_3, lsecond_3, lqueue_3), rqueue_3) => [imm (α := (List Task)) r_tasks0 tasks0, imm (α := (List EmptyT)) r_r0.1 r0.Empties, imm (α := (List Int)) r_r0.2 r0.Shops, own b1 53 [.int .i64 r0.Turn, .slice r_r0.1.a r0.Empties.length r_r0.1.cap, .slice r_r0.2.a r0.Shops.length r_r0.2.cap, .int .i64 r0.Service, .int .i64 r0.Limit], trow 3 (⟨none, 0, (fun _ => ())⟩ : SR (GoRep.R Int) ) ([] : List Int), trow 3 (⟨none, 0, (fun _ => ())⟩ : SR (GoRep.R Int)  ) ([] : List Int), own b2 72 [.slice (⟨none, 0, (fun _ => ())⟩ : SR (GoRep.R Int) ).a (([] : List Int).length) (⟨none, 0, (fun _ => ())⟩ : SR (GoRep.R Int) ).cap, .slice (⟨none, 0, (fun _ => ())⟩ : SR (GoRep.R Int)  ).a (([] : List Int).length) (⟨none, 0, (fun _ => ())⟩ : SR (GoRep.R Int)  ).cap], trow 3 r5 lbefore_1, trow 4 r16 lfirst_3, trow 4 r19 lsecond_3, trow 3 rqueue_3 lqueue_3]) (R := fun g => iter (circulation_cover_b3 tasks0 r0 lbefore_1) g.1 g.2.1 = some y) (μ := fun g => g.1) (FUEL, (lfirst_2, m17, lqueue_2), rqueue_2) hM ⟨rfl, rfl, rfl, rfl, rfl, rfl, rfl, trivial⟩ (fun w hm => hm.reord) ?_
      clear hM
      intro g hM KL3 hL3
      obtain ⟨nn3, ⟨lfirst_3, lsecond_3, lqueue_3⟩, rqueue_3⟩ := g
      dsimp only at hM ⊢
      obtain ⟨nn3, cont3, rfl, hcont3, hM⟩ := iter_open' hM
      dsimp only [circulation_cover_b3] at hM
      refine cw_seq fun K20 hK20 => ?_
      refine cw_seq fun K21 hK21 => ?_
      refine cw_region ?_
      refine ow_ev ev_move ?_
      refine ow_ev ev_len ?_
      refine ow_ev ev_gtr ?_
      refine ow_nil (hK21 _ _ ?_); clear hK21
      refine cw_cond rfl (fun hc31 => ?_) (fun hc31 => ?_)
      ·
        replace hM := (ite_t hc31).symm.trans hM
        refine cw_skip (hK20 _ _ ?_); clear hK20
        refine cw_block ?_
        refine cw_seq fun K22 hK22 => ?_
        refine cw_region ?_
        refine ow_ev ev_move ?_
        obtain ⟨x32, hx33, hM⟩ := bind_some hM
        refine ow_ev (ev_idx (xs := lqueue_3) 1 (Kn.trow (e := 3) (r := rqueue_3) (by repeat (first | exact Has.head | apply Has.tail))) (fun hg => let h := idx_some hx33; ⟨h.1, h.2.1⟩)) ?_
        refine ow_ev (ev_ld (i := 0) (xs := lqueue_3) (y := x32) 0 (Kn.trow (e := 3) (r := rqueue_3) (by repeat (first | exact Has.head | apply Has.tail))) (fun _ => hx33)) ?_
        refine ow_ev ev_assign ?_
        refine ow_nil (hK22 _ _ ?_); clear hK22
        refine cw_seq fun K23 hK23 => ?_
        refine cw_region ?_
        refine ow_ev ev_move ?_
        obtain ⟨l34, hl35, hM⟩ := bind_some hM
        refine ow_cons (st_subrow (r := rqueue_3) (xs := lqueue_3) (ol := some (.i64, 1)) (oh := none) (by intro r'; repeat (first | exact Upd.head | apply Upd.tail)) hl35 (fun r36 => ?_))
        refine ow_ev ev_assign ?_
        refine ow_nil (hK23 _ _ ?_); clear hK23
        refine cw_seq fun K24 hK24 => ?_
        refine cw_region ?_
        refine ow_ev ev_move ?_
        refine ow_have (fun w hm => Kn.len (Kn.imm (α := List Task) (r := r_tasks0) (x := tasks0) (by repeat (first | exact Has.head | apply Has.tail))) hm) fun hl37 => ?_
        refine ow_ev ev_len ?_
        refine ow_ev ev_move ?_
        refine ow_nil (hK24 _ _ ?_); clear hK24
        refine cw_block ?_
        refine cw_loop (γ := Nat × ((List Bool) × (List Bool) × (List Int) × Nat) × (SR (GoRep.R Int))) (env := fun (_, (lfirst_4, lsecond_4, lqueue_4, t69_4), rqueue_4) => [(0, .v (.slice r_tasks0.a tasks0.length r_tasks0.cap)), (4, .v (.pointer (some ⟨b1, 0, none⟩))), (6, .v (.pointer (some ⟨b2, 0, none⟩))), (7, .v (.slice r5.a lbefore_1.length r5.cap)), (9, .v (.slice r16.a lfirst_4.length r16.cap)), (10, .v (.slice r19.a lsecond_4.length r19.cap)), (11, .v (.slice rqueue_4.a lqueue_4.length rqueue_4.cap)), (14, .v (.int .i64 x32)), (68, .v (.int .i64 (tasks0.length : Int))), (69, .v (.int .i64 (t69_4 : Int)))]) (mem := fun (_, (lfirst_4, lsecond_4, lqueue_4, t69_4), rqueue_4) => [imm (α := (List Task)) r_tasks0 tasks0, imm (α := (List EmptyT)) r_r0.1 r0.Empties, imm (α := (List Int)) r_r0.2 r0.Shops, own b1 53 [.int .i64 r0.Turn, .slice r_r0.1.a r0.Empties.length r_r0.1.cap, .slice r_r0.2.a r0.Shops.length r_r0.2.cap, .int .i64 r0.Service, .int .i64 r0.Limit], trow 3 (⟨none, 0, (fun _ => ())⟩ : SR (GoRep.R Int) ) ([] : List Int), trow 3 (⟨none, 0, (fun _ => ())⟩ : SR (GoRep.R Int)  ) ([] : List Int), own b2 72 [.slice (⟨none, 0, (fun _ => ())⟩ : SR (GoRep.R Int) ).a (([] : List Int).length) (⟨none, 0, (fun _ => ())⟩ : SR (GoRep.R Int) ).cap, .slice (⟨none, 0, (fun _ => ())⟩ : SR (GoRep.R Int)  ).a (([] : List Int).length) (⟨none, 0, (fun _ => ())⟩ : SR (GoRep.R Int)  ).cap], trow 3 r5 lbefore_1, trow 4 r16 lfirst_4, trow 4 r19 lsecond_4, trow 3 rqueue_4 lqueue_4]) (R := fun g => iter (circulation_cover_b4 tasks0 x32 r0 lbefore_1 cont3) g.1 g.2.1 = some y) (μ := fun g => g.1) (FUEL, (lfirst_3, lsecond_3, l34, 0), r36) hM ⟨rfl, rfl, rfl, rfl, rfl, rfl, rfl, rfl, rfl, rfl, trivial⟩ (fun w hm => hm.reord) ?_
        clear hM
        intro g hM KL4 hL4
        obtain ⟨nn4, ⟨lfirst_4, lsecond_4, lqueue_4, t69_4⟩, rqueue_4⟩ := g
        dsimp only at hM ⊢
        obtain ⟨nn4, cont4, rfl, hcont4, hM⟩ := iter_open' hM
        dsimp only [circulation_cover_b4] at hM
        refine cw_seq fun K25 hK25 => ?_
        refine cw_region ?_
        refine ow_ev ev_lss ?_
        refine ow_nil (hK25 _ _ ?_); clear hK25
        refine cw_seq fun K26 hK26 => ?_
        refine cw_cond rfl (fun hc38 => ?_) (fun hc38 => ?_)
        ·
          replace hM := (ite_t hc38).symm.trans hM
          have hc38d := of_decide_eq_true hc38
          refine cw_skip (hK26 _ _ ?_); clear hK26
          refine cw_cut (γ := ((List Bool) × (List Bool) × (List Int)) × (SR (GoRep.R Int))) (env := fun ((lfirst_j5, lsecond_j5, lqueue_j5), rqueue_j5) => [(0, .v (.slice r_tasks0.a tasks0.length r_tasks0.cap)), (4, .v (.pointer (some ⟨b1, 0, none⟩))), (6, .v (.pointer (some ⟨b2, 0, none⟩))), (7, .v (.slice r5.a lbefore_1.length r5.cap)), (9, .v (.slice r16.a lfirst_j5.length r16.cap)), (10, .v (.slice r19.a lsecond_j5.length r19.cap)), (11, .v (.slice rqueue_j5.a lqueue_j5.length rqueue_j5.cap)), (14, .v (.int .i64 x32)), (68, .v (.int .i64 (tasks0.length : Int))), (69, .v (.int .i64 (t69_4 : Int)))]) (mem := fun ((lfirst_j5, lsecond_j5, lqueue_j5), rqueue_j5) => [imm (α := (List Task)) r_tasks0 tasks0, imm (α := (List EmptyT)) r_r0.1 r0.Empties, imm (α := (List Int)) r_r0.2 r0.Shops, own b1 53 [.int .i64 r0.Turn, .slice r_r0.1.a r0.Empties.length r_r0.1.cap, .slice r_r0.2.a r0.Shops.length r_r0.2.cap, .int .i64 r0.Service, .int .i64 r0.Limit], trow 3 (⟨none, 0, (fun _ => ())⟩ : SR (GoRep.R Int) ) ([] : List Int), trow 3 (⟨none, 0, (fun _ => ())⟩ : SR (GoRep.R Int)  ) ([] : List Int), own b2 72 [.slice (⟨none, 0, (fun _ => ())⟩ : SR (GoRep.R Int) ).a (([] : List Int).length) (⟨none, 0, (fun _ => ())⟩ : SR (GoRep.R Int) ).cap, .slice (⟨none, 0, (fun _ => ())⟩ : SR (GoRep.R Int)  ).a (([] : List Int).length) (⟨none, 0, (fun _ => ())⟩ : SR (GoRep.R Int)  ).cap], trow 3 r5 lbefore_1, trow 4 r16 lfirst_j5, trow 4 r19 lsecond_j5, trow 3 rqueue_j5 lqueue_j5]) (R := fun g => circulation_cover_k5 cont4 t69_4 g.1 = some y) ?_ ?_
          · intro KJ5 hJ5
            refine cw_block ?_
            refine cw_seq fun K27 hK27 => ?_
            refine cw_region ?_
            refine ow_ev ev_move ?_
            refine ow_ev ev_assign ?_
            refine ow_nil (hK27 _ _ ?_); clear hK27
            refine cw_seq fun K28 hK28 => ?_
            refine cw_seq fun K29 hK29 => ?_
            refine cw_region_any _ (List.Sublist.refl _) ?_
            refine aw_ev 0 rfl (ev_load_all (b := b1)) ?_
            refine aw_ev 1 rfl ev_move ?_
            refine aw_ev 2 rfl ev_move ?_
            obtain ⟨x39, hx40, hM⟩ := bind_some hM
            refine aw_ev 3 rfl (ev_idx (xs := tasks0) 5 (Kn.imm (α := List Task) (r := r_tasks0) (x := tasks0) (by repeat (first | exact Has.head | apply Has.tail))) (fun hg => let h := idx_some hx40; ⟨h.1, h.2.1⟩)) ?_
            refine aw_ev 4 rfl (ev_lds (m := 5) (i := x32) (xs := tasks0) (y := x39) (l := [.int .i64 x39.Type_, .int .i64 x39.From, .int .i64 x39.To, .int .i64 x39.Start, .int .i64 x39.End]) 0 (Kn.imm (α := List Task) (r := r_tasks0) (x := tasks0) (by repeat (first | exact Has.head | apply Has.tail))) (fun _ => hx40)) ?_
            refine aw_ev 5 rfl ev_move ?_
            refine aw_ev 6 rfl ev_move ?_
            obtain ⟨x41, hx42, hM⟩ := bind_some hM
            refine aw_ev 7 rfl (ev_idx (xs := tasks0) 5 (Kn.imm (α := List Task) (r := r_tasks0) (x := tasks0) (by repeat (first | exact Has.head | apply Has.tail))) (fun hg => let h := idx_some hx42; ⟨h.1, h.2.1⟩)) ?_
            refine aw_ev 8 rfl (ev_lds (m := 5) (i := (t69_4 : Int)) (xs := tasks0) (y := x41) (l := [.int .i64 x41.Type_, .int .i64 x41.From, .int .i64 x41.To, .int .i64 x41.Start, .int .i64 x41.End]) 0 (Kn.imm (α := List Task) (r := r_tasks0) (x := tasks0) (by repeat (first | exact Has.head | apply Has.tail))) (fun _ => hx42)) ?_
            obtain ⟨y43, hy44, hM⟩ := bind_some hM
            refine aw_one 9 rfl (st_callv (fun w hm => let ⟨S, hs⟩ := hm; circulation_Follows_spec _ w r0 r_r0 x39 x41 y43 hy44 (lend_lt hs) ⟨(Kn.lend (Kn.imm (α := List EmptyT) (r := r_r0.1) (x := r0.Empties) (by repeat (first | exact Has.head | apply Has.tail))) hs), (Kn.lend (Kn.imm (α := List Int) (r := r_r0.2) (x := r0.Shops) (by repeat (first | exact Has.head | apply Has.tail))) hs)⟩) ⟨fun w hm => hm.sub (by repeat (first | exact List.Sublist.refl _ | apply List.Sublist.cons_cons | apply List.Sublist.cons)), ?_⟩)
            refine aw_ev 10 rfl ev_move ?_
            refine aw_ev 11 rfl (ev_extract (vs := [.int .i64 y43.1, .bool y43.2])) ?_
            refine aw_ev 12 rfl (ev_extract (vs := [.int .i64 y43.1, .bool y43.2])) ?_
            refine aw_ev 13 rfl ev_assign ?_
            refine aw_ev 14 rfl ev_assign ?_
            refine aw_done (hK29 _ _ ?_); clear hK29
            refine cw_seq fun K30 hK30 => ?_
            refine cw_region ?_
            refine ow_ev ev_move ?_
            refine ow_ev ev_not ?_
            refine ow_ev ev_move ?_
            refine ow_evg rfl ev_move ?_
            refine ow_evg rfl ev_move ?_
            obtain ⟨x45, hx46, hM⟩ := bind_some hM
            refine ow_evg rfl (ev_idx (xs := lsecond_4) 1 (Kn.trow (e := 4) (r := r19) (by repeat (first | exact Has.head | apply Has.tail))) (fun hg => let h := idx_some (whn_some hx46 hg); ⟨h.1, h.2.1⟩)) ?_
            refine ow_evg rfl (ev_ld (i := (t69_4 : Int)) (xs := lsecond_4) (y := x45) 0 (Kn.trow (e := 4) (r := r19) (by repeat (first | exact Has.head | apply Has.tail))) (fun hg => whn_some hx46 hg)) ?_
            refine ow_ev ev_or ?_
            refine ow_nil (hK30 _ _ ?_); clear hK30
            refine cw_cond rfl (fun hc47 => ?_) (fun hc47 => ?_)
            ·
              replace hM := (ite_t hc47).symm.trans hM
              refine cw_exit (hJ5 ((lfirst_4, lsecond_4, lqueue_4), rqueue_4) _ _ hM ⟨rfl, rfl, rfl, rfl, rfl, rfl, rfl, rfl, rfl, rfl, trivial⟩ (fun w hm => hm.reord))
            ·
              replace hM := (ite_f hc47).symm.trans hM
              refine cw_skip (hK28 _ _ ?_); clear hK28
              refine cw_seq fun K31 hK31 => ?_
              refine cw_region ?_
              refine ow_ev ev_move ?_
              refine ow_ev ev_move ?_
              obtain ⟨x48, hx49, hM⟩ := bind_some hM
              refine ow_ev (ev_idx (xs := lsecond_4) 1 (Kn.trow (e := 4) (r := r19) (by repeat (first | exact Has.head | apply Has.tail))) (fun hg => let h := idx_some hx49; ⟨h.1, h.2.1⟩)) ?_
              refine ow_cons (st_set (r := r19) (i := (t69_4 : Int)) (xs := lsecond_4) (u := x48) (vs := [.bool true]) 0 true hx49 rfl (fun _ _ h => h) (by repeat (first | exact Upd.head | apply Upd.tail)) ?_)
              refine ow_nil (hK31 _ _ ?_); clear hK31
              refine cw_seq fun K32 hK32 => ?_
              refine cw_region ?_
              refine ow_ev ev_move ?_
              refine ow_ev ev_move ?_
              obtain ⟨x50, hx51, hM⟩ := bind_some hM
              refine ow_ev (ev_idx (xs := lbefore_1) 1 (Kn.trow (e := 3) (r := r5) (by repeat (first | exact Has.head | apply Has.tail))) (fun hg => let h := idx_some hx51; ⟨h.1, h.2.1⟩)) ?_
              refine ow_ev (ev_ld (i := (t69_4 : Int)) (xs := lbefore_1) (y := x50) 0 (Kn.trow (e := 3) (r := r5) (by repeat (first | exact Has.head | apply Has.tail))) (fun _ => hx51)) ?_
              refine ow_ev ev_assign ?_
              refine ow_nil (hK32 _ _ ?_); clear hK32
              refine cw_seq fun K33 hK33 => ?_
              refine cw_region ?_
              refine ow_ev ev_move ?_
              refine ow_ev ev_geq ?_
              refine ow_ev ev_move ?_
              refine ow_evg rfl ev_move ?_
              refine ow_evg rfl ev_move ?_
              obtain ⟨x52, hx53, hM⟩ := bind_some hM
              refine ow_evg rfl (ev_idx (xs := lfirst_4) 1 (Kn.trow (e := 4) (r := r16) (by repeat (first | exact Has.head | apply Has.tail))) (fun hg => let h := idx_some (whn_some hx53 hg); ⟨h.1, h.2.1⟩)) ?_
              refine ow_evg rfl (ev_ld (i := x50) (xs := lfirst_4) (y := x52) 0 (Kn.trow (e := 4) (r := r16) (by repeat (first | exact Has.head | apply Has.tail))) (fun hg => whn_some hx53 hg)) ?_
              refine ow_evg rfl ev_not ?_
              refine ow_ev ev_and ?_
              refine ow_nil (hK33 _ _ ?_); clear hK33
              refine cw_cond rfl (fun hc54 => ?_) (fun hc54 => ?_)
              ·
                replace hM := (ite_t hc54).symm.trans hM
                refine cw_seq fun K34 hK34 => ?_
                refine cw_region ?_
                refine ow_ev ev_move ?_
                refine ow_ev ev_move ?_
                obtain ⟨x55, hx56, hM⟩ := bind_some hM
                refine ow_ev (ev_idx (xs := lfirst_4) 1 (Kn.trow (e := 4) (r := r16) (by repeat (first | exact Has.head | apply Has.tail))) (fun hg => let h := idx_some hx56; ⟨h.1, h.2.1⟩)) ?_
                refine ow_cons (st_set (r := r16) (i := x50) (xs := lfirst_4) (u := x55) (vs := [.bool true]) 0 true hx56 rfl (fun _ _ h => h) (by repeat (first | exact Upd.head | apply Upd.tail)) ?_)
                refine ow_nil (hK34 _ _ ?_); clear hK34
                refine cw_region ?_
                refine ow_ev ev_move ?_
                refine ow_ev ev_move ?_
                refine ow_cons (st_bslice (α := Int) 3 (fun _ => ()) ([x50] : List Int) (OkL.flat (fun _ _ _ _ => trivial)) (fun r57 => ?_))
                obtain ⟨hb58, hM⟩ := chk_some hM
                refine ow_cons (st_append (r := rqueue_4) (r2 := r57) (by intro r'; repeat (first | exact Upd.head | apply Upd.tail)) (Kn.trow (e := 3) (r := r57) (by repeat (first | exact Has.head | apply Has.tail))) (OkL.flat (fun _ _ _ _ => trivial)) (of_decide_eq_true hb58) (fun r59 => ?_))
                refine ow_ev ev_assign ?_
                refine ow_nil (hJ5 (((lfirst_4.set x50.toNat true), (lsecond_4.set (t69_4 : Int).toNat true), (lqueue_4 ++ ([x50] : List Int))), r59) _ _ hM ⟨rfl, rfl, rfl, rfl, (by simp only [List.length_set]; rfl), (by simp only [List.length_set]; rfl), rfl, rfl, rfl, rfl, trivial⟩ (fun w hm => hm.reord))
              ·
                replace hM := (ite_f hc54).symm.trans hM
                refine cw_skip (hJ5 ((lfirst_4, (lsecond_4.set (t69_4 : Int).toNat true), lqueue_4), rqueue_4) _ _ hM ⟨rfl, rfl, rfl, rfl, rfl, (by simp only [List.length_set]; rfl), rfl, rfl, rfl, rfl, trivial⟩ (fun w hm => hm.reord))
          ·
            clear hM
            intro g hM
            obtain ⟨⟨lfirst_j5, lsecond_j5, lqueue_j5⟩, rqueue_j5⟩ := g
            dsimp only at hM ⊢
            dsimp only [circulation_cover_k5] at hM
            refine cw_region ?_
            refine ow_ev (ev_add (hr := fun _ => by unfold I64; omega)) ?_
            refine ow_ev ev_move ?_
            refine ow_nil (hL4 (nn4, (lfirst_j5, lsecond_j5, lqueue_j5, t69_4 + 1), rqueue_j5) _ _ (eqc hcont4 hM) (Nat.lt_succ_self _) ⟨rfl, rfl, rfl, rfl, rfl, rfl, rfl, rfl, rfl, rfl, trivial⟩ (fun w hm => hm.reord))
        ·
          replace hM := (ite_f hc38).symm.trans hM
          refine cw_exit (hL3 (nn3, (lfirst_4, lsecond_4, lqueue_4), rqueue_4) _ _ (eqc hcont3 hM) (Nat.lt_succ_self _) ⟨rfl, rfl, rfl, rfl, rfl, rfl, rfl, trivial⟩ (fun w hm => hm.reord))
      ·
        replace hM := (ite_f hc31).symm.trans hM
        refine cw_exit (hK19 _ _ ?_); clear hK19
        dsimp only [circulation_cover_k4] at hM
        refine cw_seq fun K35 hK35 => ?_
        refine cw_region ?_
        refine ow_cons (st_alloc rfl (k := fun b60 => ?_))
        refine ow_nil (hK35 _ _ ?_); clear hK35
        refine cw_seq fun K36 hK36 => ?_
        refine cw_seq fun K37 hK37 => ?_
        refine cw_region ?_
        refine ow_ev ev_move ?_
        refine ow_have (fun w hm => Kn.len (Kn.imm (α := List Task) (r := r_tasks0) (x := tasks0) (by repeat (first | exact Has.head | apply Has.tail))) hm) fun hl61 => ?_
        refine ow_ev ev_len ?_
        refine ow_ev ev_move ?_
        refine ow_nil (hK37 _ _ ?_); clear hK37
        refine cw_block ?_
        refine cw_imp (fun w hm => hm.row_nil (α := Int) 3 (fun _ => ())) ?_
        refine cw_imp (fun w hm => hm.row_nil (α := Int) 3 (fun _ => ())) ?_
        refine cw_loop (γ := Nat × ((List Int) × (List Int) × Nat) × ((SR (GoRep.R Int)) × (SR (GoRep.R Int)))) (env := fun (_, (lc_5_0, lc_5_1, t119_5), (rc_5_0, rc_5_1)) => [(6, .v (.pointer (some ⟨b2, 0, none⟩))), (9, .v (.slice r16.a lfirst_3.length r16.cap)), (10, .v (.slice r19.a lsecond_3.length r19.cap)), (19, .v (.pointer (some ⟨b60, 0, none⟩))), (118, .v (.int .i64 (tasks0.length : Int))), (119, .v (.int .i64 (t119_5 : Int)))]) (mem := fun (_, (lc_5_0, lc_5_1, t119_5), (rc_5_0, rc_5_1)) => [trow 3 (⟨none, 0, (fun _ => ())⟩ : SR (GoRep.R Int) ) ([] : List Int), trow 3 (⟨none, 0, (fun _ => ())⟩ : SR (GoRep.R Int)  ) ([] : List Int), own b2 72 [.slice (⟨none, 0, (fun _ => ())⟩ : SR (GoRep.R Int) ).a (([] : List Int).length) (⟨none, 0, (fun _ => ())⟩ : SR (GoRep.R Int) ).cap, .slice (⟨none, 0, (fun _ => ())⟩ : SR (GoRep.R Int)  ).a (([] : List Int).length) (⟨none, 0, (fun _ => ())⟩ : SR (GoRep.R Int)  ).cap], trow 4 r16 lfirst_3, trow 4 r19 lsecond_3, trow 3 rc_5_0 lc_5_0, trow 3 rc_5_1 lc_5_1, own b60 72 [.slice rc_5_0.a lc_5_0.length rc_5_0.cap, .slice rc_5_1.a lc_5_1.length rc_5_1.cap]]) (R := fun g => iter (circulation_cover_b5 tasks0 lfirst_3 lsecond_3) g.1 g.2.1 = some y) (μ := fun g => g.1) (FUEL, (([] : List Int), ([] : List Int), 0), ((⟨none, 0, (fun _ => ())⟩ : SR (GoRep.R Int)                                                                                                                                                            ), (⟨none, 0, (fun _ => ())⟩ : SR (GoRep.R Int)                                                                                                                                                             ))) hM ⟨rfl, rfl, rfl, rfl, rfl, rfl, trivial⟩ (fun w hm => hm.reord) ?_
        clear hM
        intro g hM KL5 hL5
        obtain ⟨nn5, ⟨lc_5_0, lc_5_1, t119_5⟩, ⟨rc_5_0, rc_5_1⟩⟩ := g
        dsimp only at hM ⊢
        obtain ⟨nn5, cont5, rfl, hcont5, hM⟩ := iter_open' hM
        dsimp only [circulation_cover_b5] at hM
        refine cw_seq fun K38 hK38 => ?_
        refine cw_region ?_
        refine ow_ev ev_lss ?_
        refine ow_nil (hK38 _ _ ?_); clear hK38
        refine cw_seq fun K39 hK39 => ?_
        refine cw_cond rfl (fun hc64 => ?_) (fun hc64 => ?_)
        ·
          replace hM := (ite_t hc64).symm.trans hM
          have hc64d := of_decide_eq_true hc64
          refine cw_skip (hK39 _ _ ?_); clear hK39
          refine cw_cut (γ := ((List Int) × (List Int)) × ((SR (GoRep.R Int)) × (SR (GoRep.R Int)))) (env := fun ((lc_j7_0, lc_j7_1), (rc_j7_0, rc_j7_1)) => [(6, .v (.pointer (some ⟨b2, 0, none⟩))), (9, .v (.slice r16.a lfirst_3.length r16.cap)), (10, .v (.slice r19.a lsecond_3.length r19.cap)), (19, .v (.pointer (some ⟨b60, 0, none⟩))), (118, .v (.int .i64 (tasks0.length : Int))), (119, .v (.int .i64 (t119_5 : Int)))]) (mem := fun ((lc_j7_0, lc_j7_1), (rc_j7_0, rc_j7_1)) => [trow 3 (⟨none, 0, (fun _ => ())⟩ : SR (GoRep.R Int) ) ([] : List Int), trow 3 (⟨none, 0, (fun _ => ())⟩ : SR (GoRep.R Int)  ) ([] : List Int), own b2 72 [.slice (⟨none, 0, (fun _ => ())⟩ : SR (GoRep.R Int) ).a (([] : List Int).length) (⟨none, 0, (fun _ => ())⟩ : SR (GoRep.R Int) ).cap, .slice (⟨none, 0, (fun _ => ())⟩ : SR (GoRep.R Int)  ).a (([] : List Int).length) (⟨none, 0, (fun _ => ())⟩ : SR (GoRep.R Int)  ).cap], trow 4 r16 lfirst_3, trow 4 r19 lsecond_3, trow 3 rc_j7_0 lc_j7_0, trow 3 rc_j7_1 lc_j7_1, own b60 72 [.slice rc_j7_0.a lc_j7_0.length rc_j7_0.cap, .slice rc_j7_1.a lc_j7_1.length rc_j7_1.cap]]) (R := fun g => circulation_cover_k7 cont5 t119_5 g.1 = some y) ?_ ?_
          · intro KJ7 hJ7
            refine cw_block ?_
            refine cw_seq fun K40 hK40 => ?_
            refine cw_region ?_
            refine ow_ev ev_move ?_
            refine ow_ev ev_assign ?_
            refine ow_nil (hK40 _ _ ?_); clear hK40
            refine cw_cut (γ := (List Int) × (SR (GoRep.R Int))) (env := fun (lc_j8_0, rc_j8_0) => [(6, .v (.pointer (some ⟨b2, 0, none⟩))), (9, .v (.slice r16.a lfirst_3.length r16.cap)), (10, .v (.slice r19.a lsecond_3.length r19.cap)), (19, .v (.pointer (some ⟨b60, 0, none⟩))), (20, .v (.int .i64 (t119_5 : Int))), (118, .v (.int .i64 (tasks0.length : Int))), (119, .v (.int .i64 (t119_5 : Int)))]) (mem := fun (lc_j8_0, rc_j8_0) => [trow 3 (⟨none, 0, (fun _ => ())⟩ : SR (GoRep.R Int) ) ([] : List Int), trow 3 (⟨none, 0, (fun _ => ())⟩ : SR (GoRep.R Int)  ) ([] : List Int), own b2 72 [.slice (⟨none, 0, (fun _ => ())⟩ : SR (GoRep.R Int) ).a (([] : List Int).length) (⟨none, 0, (fun _ => ())⟩ : SR (GoRep.R Int) ).cap, .slice (⟨none, 0, (fun _ => ())⟩ : SR (GoRep.R Int)  ).a (([] : List Int).length) (⟨none, 0, (fun _ => ())⟩ : SR (GoRep.R Int)  ).cap], trow 4 r16 lfirst_3, trow 4 r19 lsecond_3, trow 3 rc_j8_0 lc_j8_0, trow 3 rc_5_1 lc_5_1, own b60 72 [.slice rc_j8_0.a lc_j8_0.length rc_j8_0.cap, .slice rc_5_1.a lc_5_1.length rc_5_1.cap]]) (R := fun g => circulation_cover_k8 lsecond_3 t119_5 lc_5_1 cont5 g.1 = some y) ?_ ?_
            · intro KJ8 hJ8
              refine cw_seq fun K42 hK42 => ?_
              refine cw_region ?_
              refine ow_ev ev_move ?_
              refine ow_ev ev_move ?_
              obtain ⟨x71, hx72, hM⟩ := bind_some hM
              refine ow_ev (ev_idx (xs := lfirst_3) 1 (Kn.trow (e := 4) (r := r16) (by repeat (first | exact Has.head | apply Has.tail))) (fun hg => let h := idx_some hx72; ⟨h.1, h.2.1⟩)) ?_
              refine ow_ev (ev_ld (i := (t119_5 : Int)) (xs := lfirst_3) (y := x71) 0 (Kn.trow (e := 4) (r := r16) (by repeat (first | exact Has.head | apply Has.tail))) (fun _ => hx72)) ?_
              refine ow_ev ev_not ?_
              refine ow_nil (hK42 _ _ ?_); clear hK42
              refine cw_cond rfl (fun hc73 => ?_) (fun hc73 => ?_)
              ·
                replace hM := (ite_t hc73).symm.trans hM
                refine cw_region ?_
                refine ow_ev (ev_field_addr 0) ?_
                refine ow_ev (ev_load_own (b := b60)) ?_
                refine ow_ev ev_move ?_
                refine ow_cons (st_bslice (α := Int) 3 (fun _ => ()) ([(t119_5 : Int)] : List Int) (OkL.flat (fun _ _ _ _ => trivial)) (fun r74 => ?_))
                obtain ⟨hb75, hM⟩ := chk_some hM
                refine ow_cons (st_append (r := rc_5_0) (r2 := r74) (by intro r'; repeat (first | exact Upd.head | apply Upd.tail)) (Kn.trow (e := 3) (r := r74) (by repeat (first | exact Has.head | apply Has.tail))) (OkL.flat (fun _ _ _ _ => trivial)) (of_decide_eq_true hb75) (fun r76 => ?_))
                refine ow_ev (ev_field_addr 0) ?_
                refine ow_cons (st_store_own (b := b60) (l' := [.slice r76.a ((lc_5_0 ++ ([(t119_5 : Int)] : List Int)).length) r76.cap, .slice rc_5_1.a lc_5_1.length rc_5_1.cap]) (k := ?_))
                refine ow_nil (hJ8 ((lc_5_0 ++ ([(t119_5 : Int)] : List Int)), r76) _ _ hM ⟨rfl, rfl, rfl, rfl, rfl, rfl, rfl, trivial⟩ (fun w hm => hm.reord))
              ·
                replace hM := (ite_f hc73).symm.trans hM
                refine cw_skip (hJ8 (lc_5_0, rc_5_0) _ _ hM ⟨rfl, rfl, rfl, rfl, rfl, rfl, rfl, trivial⟩ (fun w hm => hm.reord))
            ·
              clear hM
              intro g hM
              obtain ⟨lc_j8_0, rc_j8_0⟩ := g
              dsimp only at hM ⊢
              dsimp only [circulation_cover_k8] at hM
              refine cw_seq fun K41 hK41 => ?_
              refine cw_region ?_
              refine ow_ev ev_move ?_
              refine ow_ev ev_move ?_
              obtain ⟨x65, hx66, hM⟩ := bind_some hM
              refine ow_ev (ev_idx (xs := lsecond_3) 1 (Kn.trow (e := 4) (r := r19) (by repeat (first | exact Has.head | apply Has.tail))) (fun hg => let h := idx_some hx66; ⟨h.1, h.2.1⟩)) ?_
              refine ow_ev (ev_ld (i := (t119_5 : Int)) (xs := lsecond_3) (y := x65) 0 (Kn.trow (e := 4) (r := r19) (by repeat (first | exact Has.head | apply Has.tail))) (fun _ => hx66)) ?_
              refine ow_nil (hK41 _ _ ?_); clear hK41
              refine cw_cond rfl (fun hc67 => ?_) (fun hc67 => ?_)
              ·
                replace hM := (ite_t hc67).symm.trans hM
                refine cw_region ?_
                refine ow_ev (ev_field_addr 1) ?_
                refine ow_ev (ev_load_own (b := b60)) ?_
                refine ow_ev ev_move ?_
                refine ow_cons (st_bslice (α := Int) 3 (fun _ => ()) ([(t119_5 : Int)] : List Int) (OkL.flat (fun _ _ _ _ => trivial)) (fun r68 => ?_))
                obtain ⟨hb69, hM⟩ := chk_some hM
                refine ow_cons (st_append (r := rc_5_1) (r2 := r68) (by intro r'; repeat (first | exact Upd.head | apply Upd.tail)) (Kn.trow (e := 3) (r := r68) (by repeat (first | exact Has.head | apply Has.tail))) (OkL.flat (fun _ _ _ _ => trivial)) (of_decide_eq_true hb69) (fun r70 => ?_))
                refine ow_ev (ev_field_addr 1) ?_
                refine ow_cons (st_store_own (b := b60) (l' := [.slice rc_j8_0.a lc_j8_0.length rc_j8_0.cap, .slice r70.a ((lc_5_1 ++ ([(t119_5 : Int)] : List Int)).length) r70.cap]) (k := ?_))
                refine ow_nil (hJ7 ((lc_j8_0, (lc_5_1 ++ ([(t119_5 : Int)] : List Int))), (rc_j8_0, r70)) _ _ hM ⟨rfl, rfl, rfl, rfl, rfl, rfl, trivial⟩ (fun w hm => hm.reord))
              ·
                replace hM := (ite_f hc67).symm.trans hM
                refine cw_skip (hJ7 ((lc_j8_0, lc_5_1), (rc_j8_0, rc_5_1)) _ _ hM ⟨rfl, rfl, rfl, rfl, rfl, rfl, trivial⟩ (fun w hm => hm.reord))
          ·
            clear hM
            intro g hM
            obtain ⟨⟨lc_j7_0, lc_j7_1⟩, ⟨rc_j7_0, rc_j7_1⟩⟩ := g
            dsimp only at hM ⊢
            dsimp only [circulation_cover_k7] at hM
            refine cw_region ?_
            refine ow_ev (ev_add (hr := fun _ => by unfold I64; omega)) ?_
            refine ow_ev ev_move ?_
            refine ow_nil (hL5 (nn5, (lc_j7_0, lc_j7_1, t119_5 + 1), (rc_j7_0, rc_j7_1)) _ _ (eqc hcont5 hM) (Nat.lt_succ_self _) ⟨rfl, rfl, rfl, rfl, rfl, rfl, trivial⟩ (fun w hm => hm.reord))
        ·
          replace hM := (ite_f hc64).symm.trans hM
          refine cw_exit (hK36 _ _ ?_); clear hK36
          dsimp only [circulation_cover_k6] at hM
          refine cw_seq fun K43 hK43 => ?_
          refine cw_region ?_
          refine ow_ev (ev_load_all (b := b60)) ?_
          refine ow_cons (st_store_all (b := b2) (vs := [.slice rc_5_0.a lc_5_0.length rc_5_0.cap, .slice rc_5_1.a lc_5_1.length rc_5_1.cap]) (k := ?_))
          refine ow_nil (hK43 _ _ ?_); clear hK43
          obtain rfl := some_inj hM
          refine cw_ret (kw_retc1 (fun w hm => post_of (rc_5_0, rc_5_1) hm rfl))

def circulation_Build_k4 (t66_3 : Nat) (cont3 : ((List Arc) × Nat) → Option ((List Int) × Cover × Int)) : (List Arc) → Option ((List Int) × Cover × Int) := fun lg_j4_1 =>
  chk (i64b ((t66_3 : Int) + 1)) <|
  cont3 (lg_j4_1, t66_3 + 1)
def circulation_Build_k3 (t62_2 : Nat) (cont2 : ((List Arc) × Nat) → Option ((List Int) × Cover × Int)) (lg_3_1 : List Arc) : Unit → Option ((List Int) × Cover × Int) := fun _ =>
  chk (i64b ((t62_2 : Int) + 1)) <|
  cont2 (lg_3_1, t62_2 + 1)
def circulation_Build_b3 (tasks0 : List Task) (t62_2 : Nat) (r0 : Rules) (cont2 : ((List Arc) × Nat) → Option ((List Int) × Cover × Int)) (cont3 : ((List Arc) × Nat) → Option ((List Int) × Cover × Int)) : ((List Arc) × Nat) → Option ((List Int) × Cover × Int) := fun (lg_3_1, t66_3) =>
  if decide ((t66_3 : Int) < (tasks0.length : Int)) then
    ((idx tasks0 (t62_2 : Int)).bind fun x34 =>
    (idx tasks0 (t66_3 : Int)).bind fun x36 =>
    (circulation_Follows_m r0 x34 x36).bind fun y38 =>
    if y38.2 then
      (chk (i64b ((tasks0.length : Int) + (t66_3 : Int))) <|
      chk (i64b (y38.1 - 288001)) <|
      chk (decide ((lg_3_1.length + ([(Arc.mk (t62_2 : Int) ((tasks0.length : Int) + (t66_3 : Int)) 1 (y38.1 - 288001))] : List Arc).length) * 32 ≤ 140737488355328)) <|
      circulation_Build_k4 t66_3 cont3 (lg_3_1 ++ ([(Arc.mk (t62_2 : Int) ((tasks0.length : Int) + (t66_3 : Int)) 1 (y38.1 - 288001))] : List Arc)))
    else
      (circulation_Build_k4 t66_3 cont3 lg_3_1))
  else
    (circulation_Build_k3 t62_2 cont2 lg_3_1 ())
def circulation_Build_k7 (i_5 : Int) (cont5 : ((List Int) × Int) → Option ((List Int) × Cover × Int)) : (List Int) → Option ((List Int) × Cover × Int) := fun lnext_j7 =>
  chk (i64b (i_5 + 1)) <|
  cont5 (lnext_j7, (i_5 + 1))
def circulation_Build_k6 (tasks0 : List Task) (r0 : Rules) (lnext_5 : List Int) : Unit → Option ((List Int) × Cover × Int) := fun _ =>
  (circulation_cover_m tasks0 r0 lnext_5).bind fun y75 =>
  some (lnext_5, y75, 0)
def circulation_Build_b5 (lg_2_1 : List Arc) (y54 : Flow × Int) (tasks0 : List Task) (r0 : Rules) (cont5 : ((List Int) × Int) → Option ((List Int) × Cover × Int)) : ((List Int) × Int) → Option ((List Int) × Cover × Int) := fun (lnext_5, i_5) =>
  if decide (i_5 < (lg_2_1.length : Int)) then
    ((idx y54.1.X i_5).bind fun x65 =>
    if decide (x65 = 1) then
      ((idx lg_2_1 i_5).bind fun x68 =>
      (idx lg_2_1 i_5).bind fun x70 =>
      chk (i64b (x70.To - (tasks0.length : Int))) <|
      (idx lnext_5 x68.From).bind fun x73 =>
      circulation_Build_k7 i_5 cont5 (lnext_5.set x68.From.toNat (x70.To - (tasks0.length : Int))))
    else
      (circulation_Build_k7 i_5 cont5 lnext_5))
  else
    (circulation_Build_k6 tasks0 r0 lnext_5 ())
def circulation_Build_k5 (lg_1_0 : List Int) (lg_2_1 : List Arc) (tasks0 : List Task) (r0 : Rules) (lnext_4 : List Int) : Unit → Option ((List Int) × Cover × Int) := fun _ =>
  (flow_Solve_m (Graph.mk lg_1_0 lg_2_1)).bind fun y54 =>
  if decide (y54.2 ≠ 0) then
    (some (([] : List Int), (Cover.mk ([] : List Int) ([] : List Int)), y54.2))
  else
    (chk (i64b (2 * (tasks0.length : Int))) <|
    iter (circulation_Build_b5 lg_2_1 y54 tasks0 r0) FUEL (lnext_4, (2 * (tasks0.length : Int))))
def circulation_Build_b4 (m47 : List Int) (lg_1_0 : List Int) (lg_2_1 : List Arc) (tasks0 : List Task) (r0 : Rules) (cont4 : ((List Int) × Nat) → Option ((List Int) × Cover × Int)) : ((List Int) × Nat) → Option ((List Int) × Cover × Int) := fun (lnext_4, t101_4) =>
  if decide ((t101_4 : Int) < (m47.length : Int)) then
    ((idx lnext_4 (t101_4 : Int)).bind fun x52 =>
    cont4 ((lnext_4.set (t101_4 : Int).toNat (-1)), t101_4 + 1))
  else
    (circulation_Build_k5 lg_1_0 lg_2_1 tasks0 r0 lnext_4 ())
def circulation_Build_k2 (tasks0 : List Task) (lg_1_0 : List Int) (lg_2_1 : List Arc) (r0 : Rules) : Unit → Option ((List Int) × Cover × Int) := fun _ =>
  (mk (α := Int) 0 (tasks0.length : Int)).bind fun m47 =>
  iter (circulation_Build_b4 m47 lg_1_0 lg_2_1 tasks0 r0) FUEL (m47, 0)
def circulation_Build_b2 (tasks0 : List Task) (r0 : Rules) (lg_1_0 : List Int) (cont2 : ((List Arc) × Nat) → Option ((List Int) × Cover × Int)) : ((List Arc) × Nat) → Option ((List Int) × Cover × Int) := fun (lg_2_1, t62_2) =>
  if decide ((t62_2 : Int) < (tasks0.length : Int)) then
    (iter (circulation_Build_b3 tasks0 t62_2 r0 cont2) FUEL (lg_2_1, 0))
  else
    (circulation_Build_k2 tasks0 lg_1_0 lg_2_1 r0 ())
def circulation_Build_k1 (tasks0 : List Task) (r0 : Rules) (lg_1_0 : List Int) (lg_1_1 : List Arc) : Unit → Option ((List Int) × Cover × Int) := fun _ =>
  iter (circulation_Build_b2 tasks0 r0 lg_1_0) FUEL (lg_1_1, 0)
def circulation_Build_b1 (tasks0 : List Task) (r0 : Rules) (cont1 : ((List Int) × (List Arc) × Nat) → Option ((List Int) × Cover × Int)) : ((List Int) × (List Arc) × Nat) → Option ((List Int) × Cover × Int) := fun (lg_1_0, lg_1_1, t32_1) =>
  if decide ((t32_1 : Int) < (tasks0.length : Int)) then
    (chk (i64b ((tasks0.length : Int) + (t32_1 : Int))) <|
    (idx lg_1_0 (t32_1 : Int)).bind fun x20 =>
    (idx (lg_1_0.set (t32_1 : Int).toNat 1) ((tasks0.length : Int) + (t32_1 : Int))).bind fun x22 =>
    chk (i64b (2 * (tasks0.length : Int))) <|
    chk (i64b (2 * (tasks0.length : Int))) <|
    chk (i64b ((tasks0.length : Int) + (t32_1 : Int))) <|
    chk (decide ((lg_1_1.length + ([(Arc.mk (t32_1 : Int) (2 * (tasks0.length : Int)) 1 0), (Arc.mk (2 * (tasks0.length : Int)) ((tasks0.length : Int) + (t32_1 : Int)) 1 0)] : List Arc).length) * 32 ≤ 140737488355328)) <|
    chk (i64b ((t32_1 : Int) + 1)) <|
    cont1 (((lg_1_0.set (t32_1 : Int).toNat 1).set ((tasks0.length : Int) + (t32_1 : Int)).toNat (-1)), (lg_1_1 ++ ([(Arc.mk (t32_1 : Int) (2 * (tasks0.length : Int)) 1 0), (Arc.mk (2 * (tasks0.length : Int)) ((tasks0.length : Int) + (t32_1 : Int)) 1 0)] : List Arc)), t32_1 + 1))
  else
    (circulation_Build_k1 tasks0 r0 lg_1_0 lg_1_1 ())
def circulation_Build_m (tasks0 : List Task) (r0 : Rules) : Option ((List Int) × Cover × Int) :=
  (circulation_Check_m tasks0 r0).bind fun y3 =>
  if (!y3) then
    (some (([] : List Int), (Cover.mk ([] : List Int) ([] : List Int)), 1))
  else
    (chk (i64b (2 * (tasks0.length : Int))) <|
    chk (i64b ((2 * (tasks0.length : Int)) + 1)) <|
    (mk (α := Int) 0 ((2 * (tasks0.length : Int)) + 1)).bind fun m11 =>
    iter (circulation_Build_b1 tasks0 r0) FUEL (m11, ([] : List Arc), 0))
theorem circulation_Build_spec (S : Soup) (w : World) (tasks0 : List Task) (r_tasks0 : GoRep.R (List Task)) (r0 : Rules) (r_r0 : GoRep.R Rules) (y : (List Int) × Cover × Int) (hM : circulation_Build_m tasks0 r0 = some y) (hS : ∀ k, S k → k < w.heap.size) (h_tasks0 : GoRep.ok S w r_tasks0 tasks0) (h_r0 : GoRep.ok S w r_r0 r0) :
    Calls Try.prog 44 #[.slice r_tasks0.a tasks0.length r_tasks0.cap, .agg #[.int .i64 r0.Turn, .slice r_r0.1.a r0.Empties.length r_r0.1.cap, .slice r_r0.2.a r0.Shops.length r_r0.2.cap, .int .i64 r0.Service, .int .i64 r0.Limit]] w (Post (β := (GoRep.R (List Int)) × (GoRep.R Cover)) S [] (fun g => .tuple #[.slice g.1.a y.1.length g.1.cap, .agg #[.slice g.2.1.a y.2.1.Left.length g.2.1.cap, .slice g.2.2.a y.2.1.Right.length g.2.2.cap], .int .i64 y.2.2]) (fun g => [trow 3 g.1 y.1, trow 3 g.2.1 y.2.1.Left, trow 3 g.2.2 y.2.1.Right]) w) := by
  refine calls_cw (args := [_, _]) Try.func44 rfl ((pre_nil hS).start |>.immP (α := List Task) (r := r_tasks0) (x := tasks0) h_tasks0|>.immP (α := List EmptyT) (r := r_r0.1) (x := r0.Empties) h_r0.1|>.immP (α := List Int) (r := r_r0.2) (x := r0.Shops) h_r0.2) rfl ?_
  unfold circulation_Build_m at hM
  refine cw_seq fun K1 hK1 => ?_
  refine cw_region ?_
  refine ow_cons (st_box (l := [.int .i64 r0.Turn, .slice r_r0.1.a r0.Empties.length r_r0.1.cap, .slice r_r0.2.a r0.Shops.length r_r0.2.cap, .int .i64 r0.Service, .int .i64 r0.Limit]) (k := fun b1 => ?_))
  refine ow_ev ev_assign ?_
  refine ow_cons (st_alloc rfl (k := fun b2 => ?_))
  refine ow_ev ev_assign ?_
  refine ow_nil (hK1 _ _ ?_); clear hK1
  refine cw_seq fun K2 hK2 => ?_
  refine cw_seq fun K3 hK3 => ?_
  refine cw_region ?_
  refine ow_ev ev_move ?_
  refine ow_ev (ev_load_all (b := b1)) ?_
  obtain ⟨y3, hy4, hM⟩ := bind_some hM
  refine ow_cons (st_callv (fun w hm => let ⟨S, hs⟩ := hm; circulation_Check_spec _ w tasks0 r_tasks0 r0 r_r0 y3 hy4 (lend_lt hs) (Kn.lend (Kn.imm (α := List Task) (r := r_tasks0) (x := tasks0) (by repeat (first | exact Has.head | apply Has.tail))) hs) ⟨(Kn.lend (Kn.imm (α := List EmptyT) (r := r_r0.1) (x := r0.Empties) (by repeat (first | exact Has.head | apply Has.tail))) hs), (Kn.lend (Kn.imm (α := List Int) (r := r_r0.2) (x := r0.Shops) (by repeat (first | exact Has.head | apply Has.tail))) hs)⟩) ?_)
  refine ow_ev ev_not ?_
  refine ow_nil (hK3 _ _ ?_); clear hK3
  refine cw_cond rfl (fun hc5 => ?_) (fun hc5 => ?_)
  ·
    replace hM := (ite_t hc5).symm.trans hM
    refine cw_seq fun K4 hK4 => ?_
    refine cw_region ?_
    refine ow_ev (ev_build [.slice none 0 0, .slice none 0 0]) ?_
    refine ow_ev ev_assign ?_
    refine ow_cons (st_store_all (b := b2) (vs := [.slice none 0 0, .slice none 0 0]) (k := ?_))
    refine ow_ev ev_assign ?_
    refine ow_nil (hK4 _ _ ?_); clear hK4
    refine cw_imp (fun w hm => hm.row_nil (α := Int) 3 (fun _ => ())) ?_
    refine cw_imp (fun w hm => hm.row_nil (α := Int) 3 (fun _ => ())) ?_
    refine cw_imp (fun w hm => hm.row_nil (α := Int) 3 (fun _ => ())) ?_
    obtain rfl := some_inj hM
    refine cw_ret (kw_retc3 (fun w hm => post_of ((⟨none, 0, (fun _ => ())⟩ : SR (GoRep.R Int) ), ((⟨none, 0, (fun _ => ())⟩ : SR (GoRep.R Int)  ), (⟨none, 0, (fun _ => ())⟩ : SR (GoRep.R Int)   ))) hm rfl))
  ·
    replace hM := (ite_f hc5).symm.trans hM
    refine cw_skip (hK2 _ _ ?_); clear hK2
    refine cw_seq fun K5 hK5 => ?_
    refine cw_region ?_
    refine ow_ev ev_move ?_
    refine ow_ev ev_len ?_
    refine ow_ev ev_assign ?_
    refine ow_nil (hK5 _ _ ?_); clear hK5
    refine cw_seq fun K6 hK6 => ?_
    refine cw_region ?_
    refine ow_ev ev_move ?_
    obtain ⟨hI9, hM⟩ := chk_some hM
    refine ow_ev (ev_mul (hr := fun hg => i64b_I64 hI9)) ?_
    obtain ⟨hI10, hM⟩ := chk_some hM
    refine ow_ev (ev_add (hr := fun hg => i64b_I64 hI10)) ?_
    obtain ⟨m11, hm12, hM⟩ := bind_some hM
    refine ow_cons (st_make (α := Int) (e := 3) 0 () hm12 (fun _ _ => trivial) (fun r13 hr13 => ?_))
    refine ow_ev (ev_build [.slice r13.a m11.length r13.cap, .slice none 0 0]) ?_
    refine ow_cons (st_alloc rfl (k := fun b14 => ?_))
    refine ow_cons (st_store_all (b := b14) (vs := [.slice r13.a m11.length r13.cap, .slice none 0 0]) (k := ?_))
    refine ow_nil (hK6 _ _ ?_); clear hK6
    refine cw_seq fun K7 hK7 => ?_
    refine cw_seq fun K8 hK8 => ?_
    refine cw_region ?_
    refine ow_ev ev_move ?_
    refine ow_ev ev_move ?_
    refine ow_nil (hK8 _ _ ?_); clear hK8
    refine cw_block ?_
    refine cw_imp (fun w hm => hm.row_nil (α := Arc) 40 (fun _ => ())) ?_
    refine cw_imp (fun w hm => hm.row_nil (α := Int) 3 (fun _ => ())) ?_
    refine cw_imp (fun w hm => hm.row_nil (α := Int) 3 (fun _ => ())) ?_
    refine cw_loop (γ := Nat × ((List Int) × (List Arc) × Nat) × (SR (GoRep.R Arc))) (env := fun (_, (lg_1_0, lg_1_1, t32_1), rg_1_1) => [(0, .v (.slice r_tasks0.a tasks0.length r_tasks0.cap)), (3, .v (.pointer (some ⟨b1, 0, none⟩))), (5, .v (.pointer (some ⟨b2, 0, none⟩))), (7, .v (.int .i64 (tasks0.length : Int))), (8, .v (.pointer (some ⟨b14, 0, none⟩))), (31, .v (.int .i64 (tasks0.length : Int))), (32, .v (.int .i64 (t32_1 : Int)))]) (mem := fun (_, (lg_1_0, lg_1_1, t32_1), rg_1_1) => [imm (α := (List Task)) r_tasks0 tasks0, imm (α := (List EmptyT)) r_r0.1 r0.Empties, imm (α := (List Int)) r_r0.2 r0.Shops, own b1 53 [.int .i64 r0.Turn, .slice r_r0.1.a r0.Empties.length r_r0.1.cap, .slice r_r0.2.a r0.Shops.length r_r0.2.cap, .int .i64 r0.Service, .int .i64 r0.Limit], trow 3 (⟨none, 0, (fun _ => ())⟩ : SR (GoRep.R Int)     ) ([] : List Int), trow 3 (⟨none, 0, (fun _ => ())⟩ : SR (GoRep.R Int)      ) ([] : List Int), own b2 72 [.slice (⟨none, 0, (fun _ => ())⟩ : SR (GoRep.R Int)     ).a (([] : List Int).length) (⟨none, 0, (fun _ => ())⟩ : SR (GoRep.R Int)     ).cap, .slice (⟨none, 0, (fun _ => ())⟩ : SR (GoRep.R Int)      ).a (([] : List Int).length) (⟨none, 0, (fun _ => ())⟩ : SR (GoRep.R Int)      ).cap], trow 3 r13 lg_1_0, trow 40 rg_1_1 lg_1_1, own b14 25 [.slice r13.a lg_1_0.length r13.cap, .slice rg_1_1.a lg_1_1.length rg_1_1.cap]]) (R := fun g => iter (circulation_Build_b1 tasks0 r0) g.1 g.2.1 = some y) (μ := fun g => g.1) (FUEL, (m11, ([] : List Arc), 0), (⟨none, 0, (fun _ => ())⟩ : SR (GoRep.R Arc)    )) hM ⟨rfl, rfl, rfl, rfl, rfl, rfl, rfl, trivial⟩ (fun w hm => hm.reord) ?_
    clear hM
    intro g hM KL1 hL1
    obtain ⟨nn1, ⟨lg_1_0, lg_1_1, t32_1⟩, rg_1_1⟩ := g
    dsimp only at hM ⊢
    obtain ⟨nn1, cont1, rfl, hcont1, hM⟩ := iter_open' hM
    dsimp only [circulation_Build_b1] at hM
    refine cw_seq fun K9 hK9 => ?_
    refine cw_region ?_
    refine ow_ev ev_lss ?_
    refine ow_nil (hK9 _ _ ?_); clear hK9
    refine cw_seq fun K10 hK10 => ?_
    refine cw_cond rfl (fun hc18 => ?_) (fun hc18 => ?_)
    ·
      replace hM := (ite_t hc18).symm.trans hM
      refine cw_skip (hK10 _ _ ?_); clear hK10
      refine cw_seq fun K11 hK11 => ?_
      refine cw_block ?_
      refine cw_seq fun K12 hK12 => ?_
      refine cw_region ?_
      refine ow_ev ev_move ?_
      refine ow_ev ev_assign ?_
      refine ow_nil (hK12 _ _ ?_); clear hK12
      refine cw_seq fun K13 hK13 => ?_
      refine cw_region_any [imm (α := (List Task)) r_tasks0 tasks0, imm (α := (List EmptyT)) r_r0.1 r0.Empties, imm (α := (List Int)) r_r0.2 r0.Shops, own b1 53 [.int .i64 r0.Turn, .slice r_r0.1.a r0.Empties.length r_r0.1.cap, .slice r_r0.2.a r0.Shops.length r_r0.2.cap, .int .i64 r0.Service, .int .i64 r0.Limit], trow 3 (⟨none, 0, (fun _ => ())⟩ : SR (GoRep.R Int)     ) ([] : List Int), trow 3 (⟨none, 0, (fun _ => ())⟩ : SR (GoRep.R Int)      ) ([] : List Int), own b2 72 [.slice (⟨none, 0, (fun _ => ())⟩ : SR (GoRep.R Int)     ).a (([] : List Int).length) (⟨none, 0, (fun _ => ())⟩ : SR (GoRep.R Int)     ).cap, .slice (⟨none, 0, (fun _ => ())⟩ : SR (GoRep.R Int)      ).a (([] : List Int).length) (⟨none, 0, (fun _ => ())⟩ : SR (GoRep.R Int)      ).cap], trow 40 rg_1_1 lg_1_1, own b14 25 [.slice r13.a lg_1_0.length r13.cap, .slice rg_1_1.a lg_1_1.length rg_1_1.cap]] (by repeat (first | exact List.Sublist.refl _ | apply List.Sublist.cons_cons | apply List.Sublist.cons)) ?_
      refine aw_ev 0 rfl (ev_field_addr 0) ?_
      refine aw_ev 1 rfl (ev_load_own (b := b14)) ?_
      refine aw_ev 2 rfl ev_move ?_
      refine aw_ev 3 rfl (ev_field_addr 0) ?_
      refine aw_ev 4 rfl (ev_load_own (b := b14)) ?_
      refine aw_ev 5 rfl ev_move ?_
      refine aw_ev 6 rfl ev_move ?_
      obtain ⟨hI19, hM⟩ := chk_some hM
      refine aw_ev 7 rfl (ev_add (hr := fun hg => i64b_I64 hI19)) ?_
      obtain ⟨x20, hx21, hM⟩ := bind_some hM
      refine aw_one 8 rfl (st_ev (ev_idx (xs := lg_1_0) 1 (Kn.trow (e := 3) (r := r13) (by repeat (first | exact Has.head | apply Has.tail))) (fun hg => let h := idx_some hx21; ⟨h.1, h.2.1⟩)) ⟨fun w hm => hm.sub (by repeat (first | exact List.Sublist.refl _ | apply List.Sublist.cons_cons | apply List.Sublist.cons)), ?_⟩)
      refine aw_one 9 rfl (st_set (r := r13) (i := (t32_1 : Int)) (xs := lg_1_0) (u := x20) (vs := [.int .i64 1]) 0 1 hx21 rfl (fun _ _ h => h) (by repeat (first | exact Upd.head | apply Upd.tail)) ⟨fun w hm => hm.sub (by repeat (first | exact List.Sublist.refl _ | apply List.Sublist.cons_cons | apply List.Sublist.cons)), ?_⟩)
      obtain ⟨x22, hx23, hM⟩ := bind_some hM
      refine aw_one 10 rfl (st_ev (ev_idx (xs := (lg_1_0.set (t32_1 : Int).toNat 1)) 1 (Kn.trow (e := 3) (r := r13) (by repeat (first | exact Has.head | apply Has.tail))) (fun hg => let h := idx_some hx23; ⟨h.1, h.2.1⟩)) ⟨fun w hm => hm.sub (by repeat (first | exact List.Sublist.refl _ | apply List.Sublist.cons_cons | apply List.Sublist.cons)), ?_⟩)
      refine aw_one 11 rfl (st_set (r := r13) (i := ((tasks0.length : Int) + (t32_1 : Int))) (xs := (lg_1_0.set (t32_1 : Int).toNat 1)) (u := x22) (vs := [.int .i64 (-1)]) 0 (-1) hx23 rfl (fun _ _ h => h) (by repeat (first | exact Upd.head | apply Upd.tail)) ⟨fun w hm => hm.sub (by repeat (first | exact List.Sublist.refl _ | apply List.Sublist.cons_cons | apply List.Sublist.cons)), ?_⟩)
      refine aw_done (hK13 _ _ ?_); clear hK13
      refine cw_region ?_
      refine ow_ev (ev_field_addr 1) ?_
      refine ow_ev (ev_load_own (b := b14)) ?_
      refine ow_ev ev_move ?_
      refine ow_ev ev_move ?_
      obtain ⟨hI24, hM⟩ := chk_some hM
      refine ow_ev (ev_mul (hr := fun hg => i64b_I64 hI24)) ?_
      refine ow_ev (ev_build [.int .i64 (t32_1 : Int), .int .i64 (2 * (tasks0.length : Int)), .int .i64 1, .int .i64 0]) ?_
      refine ow_ev ev_move ?_
      obtain ⟨hI25, hM⟩ := chk_some hM
      refine ow_ev (ev_mul (hr := fun hg => i64b_I64 hI25)) ?_
      refine ow_ev ev_move ?_
      refine ow_ev ev_move ?_
      obtain ⟨hI26, hM⟩ := chk_some hM
      refine ow_ev (ev_add (hr := fun hg => i64b_I64 hI26)) ?_
      refine ow_ev (ev_build [.int .i64 (2 * (tasks0.length : Int)), .int .i64 ((tasks0.length : Int) + (t32_1 : Int)), .int .i64 1, .int .i64 0]) ?_
      refine ow_cons (st_bslice (α := Arc) 40 (fun _ => ()) ([(Arc.mk (t32_1 : Int) (2 * (tasks0.length : Int)) 1 0), (Arc.mk (2 * (tasks0.length : Int)) ((tasks0.length : Int) + (t32_1 : Int)) 1 0)] : List Arc) (OkL.flat (fun _ _ _ _ => trivial)) (fun r27 => ?_))
      obtain ⟨hb28, hM⟩ := chk_some hM
      refine ow_cons (st_append (r := rg_1_1) (r2 := r27) (by intro r'; repeat (first | exact Upd.head | apply Upd.tail)) (Kn.trow (e := 40) (r := r27) (by repeat (first | exact Has.head | apply Has.tail))) (OkL.flat (fun _ _ _ _ => trivial)) (of_decide_eq_true hb28) (fun r29 => ?_))
      refine ow_ev (ev_field_addr 1) ?_
      refine ow_cons (st_store_own (b := b14) (l' := [.slice r13.a lg_1_0.length r13.cap, .slice r29.a ((lg_1_1 ++ ([(Arc.mk (t32_1 : Int) (2 * (tasks0.length : Int)) 1 0), (Arc.mk (2 * (tasks0.length : Int)) ((tasks0.length : Int) + (t32_1 : Int)) 1 0)] : List Arc)).length) r29.cap]) (k := ?_))
      refine ow_nil (hK11 _ _ ?_); clear hK11
      refine cw_region ?_
      obtain ⟨hI30, hM⟩ := chk_some hM
      refine ow_ev (ev_add (hr := fun hg => i64b_I64 hI30)) ?_
      refine ow_ev ev_move ?_
      refine ow_nil (hL1 (nn1, (((lg_1_0.set (t32_1 : Int).toNat 1).set ((tasks0.length : Int) + (t32_1 : Int)).toNat (-1)), (lg_1_1 ++ ([(Arc.mk (t32_1 : Int) (2 * (tasks0.length : Int)) 1 0), (Arc.mk (2 * (tasks0.length : Int)) ((tasks0.length : Int) + (t32_1 : Int)) 1 0)] : List Arc)), t32_1 + 1), r29) _ _ (eqc hcont1 hM) (Nat.lt_succ_self _) ⟨rfl, rfl, rfl, rfl, rfl, rfl, rfl, trivial⟩ (fun w hm => by simp only [List.length_set]; exact hm.reord))
    ·
      replace hM := (ite_f hc18).symm.trans hM
      refine cw_exit (hK7 _ _ ?_); clear hK7
      dsimp only [circulation_Build_k1] at hM
      refine cw_seq fun K14 hK14 => ?_
      refine cw_seq fun K15 hK15 => ?_
      refine cw_region ?_
      refine ow_ev ev_move ?_
      refine ow_ev ev_move ?_
      refine ow_nil (hK15 _ _ ?_); clear hK15
      refine cw_block ?_
      refine cw_loop (γ := Nat × ((List Arc) × Nat) × (SR (GoRep.R Arc))) (env := fun (_, (lg_2_1, t62_2), rg_2_1) => [(0, .v (.slice r_tasks0.a tasks0.length r_tasks0.cap)), (3, .v (.pointer (some ⟨b1, 0, none⟩))), (5, .v (.pointer (some ⟨b2, 0, none⟩))), (7, .v (.int .i64 (tasks0.length : Int))), (8, .v (.pointer (some ⟨b14, 0, none⟩))), (61, .v (.int .i64 (tasks0.length : Int))), (62, .v (.int .i64 (t62_2 : Int)))]) (mem := fun (_, (lg_2_1, t62_2), rg_2_1) => [imm (α := (List Task)) r_tasks0 tasks0, imm (α := (List EmptyT)) r_r0.1 r0.Empties, imm (α := (List Int)) r_r0.2 r0.Shops, own b1 53 [.int .i64 r0.Turn, .slice r_r0.1.a r0.Empties.length r_r0.1.cap, .slice r_r0.2.a r0.Shops.length r_r0.2.cap, .int .i64 r0.Service, .int .i64 r0.Limit], trow 3 (⟨none, 0, (fun _ => ())⟩ : SR (GoRep.R Int)     ) ([] : List Int), trow 3 (⟨none, 0, (fun _ => ())⟩ : SR (GoRep.R Int)      ) ([] : List Int), own b2 72 [.slice (⟨none, 0, (fun _ => ())⟩ : SR (GoRep.R Int)     ).a (([] : List Int).length) (⟨none, 0, (fun _ => ())⟩ : SR (GoRep.R Int)     ).cap, .slice (⟨none, 0, (fun _ => ())⟩ : SR (GoRep.R Int)      ).a (([] : List Int).length) (⟨none, 0, (fun _ => ())⟩ : SR (GoRep.R Int)      ).cap], trow 3 r13 lg_1_0, trow 40 rg_2_1 lg_2_1, own b14 25 [.slice r13.a lg_1_0.length r13.cap, .slice rg_2_1.a lg_2_1.length rg_2_1.cap]]) (R := fun g => iter (circulation_Build_b2 tasks0 r0 lg_1_0) g.1 g.2.1 = some y) (μ := fun g => g.1) (FUEL, (lg_1_1, 0), rg_1_1) hM ⟨rfl, rfl, rfl, rfl, rfl, rfl, rfl, trivial⟩ (fun w hm => hm.reord) ?_
      clear hM
      intro g hM KL2 hL2
      obtain ⟨nn2, ⟨lg_2_1, t62_2⟩, rg_2_1⟩ := g
      dsimp only at hM ⊢
      obtain ⟨nn2, cont2, rfl, hcont2, hM⟩ := iter_open' hM
      dsimp only [circulation_Build_b2] at hM
      refine cw_seq fun K16 hK16 => ?_
      refine cw_region ?_
      refine ow_ev ev_lss ?_
      refine ow_nil (hK16 _ _ ?_); clear hK16
      refine cw_seq fun K17 hK17 => ?_
      refine cw_cond rfl (fun hc31 => ?_) (fun hc31 => ?_)
      ·
        replace hM := (ite_t hc31).symm.trans hM
        refine cw_skip (hK17 _ _ ?_); clear hK17
        refine cw_seq fun K18 hK18 => ?_
        refine cw_block ?_
        refine cw_seq fun K19 hK19 => ?_
        refine cw_region ?_
        refine ow_ev ev_move ?_
        refine ow_ev ev_assign ?_
        refine ow_nil (hK19 _ _ ?_); clear hK19
        refine cw_seq fun K20 hK20 => ?_
        refine cw_region ?_
        refine ow_ev ev_move ?_
        refine ow_ev ev_move ?_
        refine ow_nil (hK20 _ _ ?_); clear hK20
        refine cw_block ?_
        refine cw_loop (γ := Nat × ((List Arc) × Nat) × (SR (GoRep.R Arc))) (env := fun (_, (lg_3_1, t66_3), rg_3_1) => [(0, .v (.slice r_tasks0.a tasks0.length r_tasks0.cap)), (3, .v (.pointer (some ⟨b1, 0, none⟩))), (5, .v (.pointer (some ⟨b2, 0, none⟩))), (7, .v (.int .i64 (tasks0.length : Int))), (8, .v (.pointer (some ⟨b14, 0, none⟩))), (10, .v (.int .i64 (t62_2 : Int))), (61, .v (.int .i64 (tasks0.length : Int))), (62, .v (.int .i64 (t62_2 : Int))), (65, .v (.int .i64 (tasks0.length : Int))), (66, .v (.int .i64 (t66_3 : Int)))]) (mem := fun (_, (lg_3_1, t66_3), rg_3_1) => [imm (α := (List Task)) r_tasks0 tasks0, imm (α := (List EmptyT)) r_r0.1 r0.Empties, imm (α := (List Int)) r_r0.2 r0.Shops, own b1 53 [.int .i64 r0.Turn, .slice r_r0.1.a r0.Empties.length r_r0.1.cap, .slice r_r0.2.a r0.Shops.length r_r0.2.cap, .int .i64 r0.Service, .int .i64 r0.Limit], trow 3 (⟨none, 0, (fun _ => ())⟩ : SR (GoRep.R Int)     ) ([] : List Int), trow 3 (⟨none, 0, (fun _ => ())⟩ : SR (GoRep.R Int)      ) ([] : List Int), own b2 72 [.slice (⟨none, 0, (fun _ => ())⟩ : SR (GoRep.R Int)     ).a (([] : List Int).length) (⟨none, 0, (fun _ => ())⟩ : SR (GoRep.R Int)     ).cap, .slice (⟨none, 0, (fun _ => ())⟩ : SR (GoRep.R Int)      ).a (([] : List Int).length) (⟨none, 0, (fun _ => ())⟩ : SR (GoRep.R Int)      ).cap], trow 3 r13 lg_1_0, trow 40 rg_3_1 lg_3_1, own b14 25 [.slice r13.a lg_1_0.length r13.cap, .slice rg_3_1.a lg_3_1.length rg_3_1.cap]]) (R := fun g => iter (circulation_Build_b3 tasks0 t62_2 r0 cont2) g.1 g.2.1 = some y) (μ := fun g => g.1) (FUEL, (lg_2_1, 0), rg_2_1) hM ⟨rfl, rfl, rfl, rfl, rfl, rfl, rfl, rfl, rfl, rfl, trivial⟩ (fun w hm => hm.reord) ?_
        clear hM
        intro g hM KL3 hL3
        obtain ⟨nn3, ⟨lg_3_1, t66_3⟩, rg_3_1⟩ := g
        dsimp only at hM ⊢
        obtain ⟨nn3, cont3, rfl, hcont3, hM⟩ := iter_open' hM
        dsimp only [circulation_Build_b3] at hM
        refine cw_seq fun K21 hK21 => ?_
        refine cw_region ?_
        refine ow_ev ev_lss ?_
        refine ow_nil (hK21 _ _ ?_); clear hK21
        refine cw_seq fun K22 hK22 => ?_
        refine cw_cond rfl (fun hc32 => ?_) (fun hc32 => ?_)
        ·
          replace hM := (ite_t hc32).symm.trans hM
          refine cw_skip (hK22 _ _ ?_); clear hK22
          refine cw_cut (γ := (List Arc) × (SR (GoRep.R Arc))) (env := fun (lg_j4_1, rg_j4_1) => [(0, .v (.slice r_tasks0.a tasks0.length r_tasks0.cap)), (3, .v (.pointer (some ⟨b1, 0, none⟩))), (5, .v (.pointer (some ⟨b2, 0, none⟩))), (7, .v (.int .i64 (tasks0.length : Int))), (8, .v (.pointer (some ⟨b14, 0, none⟩))), (10, .v (.int .i64 (t62_2 : Int))), (61, .v (.int .i64 (tasks0.length : Int))), (62, .v (.int .i64 (t62_2 : Int))), (65, .v (.int .i64 (tasks0.length : Int))), (66, .v (.int .i64 (t66_3 : Int)))]) (mem := fun (lg_j4_1, rg_j4_1) => [imm (α := (List Task)) r_tasks0 tasks0, imm (α := (List EmptyT)) r_r0.1 r0.Empties, imm (α := (List Int)) r_r0.2 r0.Shops, own b1 53 [.int .i64 r0.Turn, .slice r_r0.1.a r0.Empties.length r_r0.1.cap, .slice r_r0.2.a r0.Shops.length r_r0.2.cap, .int .i64 r0.Service, .int .i64 r0.Limit], trow 3 (⟨none, 0, (fun _ => ())⟩ : SR (GoRep.R Int)     ) ([] : List Int), trow 3 (⟨none, 0, (fun _ => ())⟩ : SR (GoRep.R Int)      ) ([] : List Int), own b2 72 [.slice (⟨none, 0, (fun _ => ())⟩ : SR (GoRep.R Int)     ).a (([] : List Int).length) (⟨none, 0, (fun _ => ())⟩ : SR (GoRep.R Int)     ).cap, .slice (⟨none, 0, (fun _ => ())⟩ : SR (GoRep.R Int)      ).a (([] : List Int).length) (⟨none, 0, (fun _ => ())⟩ : SR (GoRep.R Int)      ).cap], trow 3 r13 lg_1_0, trow 40 rg_j4_1 lg_j4_1, own b14 25 [.slice r13.a lg_1_0.length r13.cap, .slice rg_j4_1.a lg_j4_1.length rg_j4_1.cap]]) (R := fun g => circulation_Build_k4 t66_3 cont3 g.1 = some y) ?_ ?_
          · intro KJ4 hJ4
            refine cw_block ?_
            refine cw_seq fun K23 hK23 => ?_
            refine cw_region ?_
            refine ow_ev ev_move ?_
            refine ow_ev ev_assign ?_
            refine ow_nil (hK23 _ _ ?_); clear hK23
            refine cw_seq fun K24 hK24 => ?_
            refine cw_region_any _ (List.Sublist.refl _) ?_
            refine aw_ev 0 rfl (ev_load_all (b := b1)) ?_
            refine aw_ev 1 rfl ev_move ?_
            refine aw_ev 2 rfl ev_move ?_
            obtain ⟨x34, hx35, hM⟩ := bind_some hM
            refine aw_ev 3 rfl (ev_idx (xs := tasks0) 5 (Kn.imm (α := List Task) (r := r_tasks0) (x := tasks0) (by repeat (first | exact Has.head | apply Has.tail))) (fun hg => let h := idx_some hx35; ⟨h.1, h.2.1⟩)) ?_
            refine aw_ev 4 rfl (ev_lds (m := 5) (i := (t62_2 : Int)) (xs := tasks0) (y := x34) (l := [.int .i64 x34.Type_, .int .i64 x34.From, .int .i64 x34.To, .int .i64 x34.Start, .int .i64 x34.End]) 0 (Kn.imm (α := List Task) (r := r_tasks0) (x := tasks0) (by repeat (first | exact Has.head | apply Has.tail))) (fun _ => hx35)) ?_
            refine aw_ev 5 rfl ev_move ?_
            refine aw_ev 6 rfl ev_move ?_
            obtain ⟨x36, hx37, hM⟩ := bind_some hM
            refine aw_ev 7 rfl (ev_idx (xs := tasks0) 5 (Kn.imm (α := List Task) (r := r_tasks0) (x := tasks0) (by repeat (first | exact Has.head | apply Has.tail))) (fun hg => let h := idx_some hx37; ⟨h.1, h.2.1⟩)) ?_
            refine aw_ev 8 rfl (ev_lds (m := 5) (i := (t66_3 : Int)) (xs := tasks0) (y := x36) (l := [.int .i64 x36.Type_, .int .i64 x36.From, .int .i64 x36.To, .int .i64 x36.Start, .int .i64 x36.End]) 0 (Kn.imm (α := List Task) (r := r_tasks0) (x := tasks0) (by repeat (first | exact Has.head | apply Has.tail))) (fun _ => hx37)) ?_
            obtain ⟨y38, hy39, hM⟩ := bind_some hM
            refine aw_one 9 rfl (st_callv (fun w hm => let ⟨S, hs⟩ := hm; circulation_Follows_spec _ w r0 r_r0 x34 x36 y38 hy39 (lend_lt hs) ⟨(Kn.lend (Kn.imm (α := List EmptyT) (r := r_r0.1) (x := r0.Empties) (by repeat (first | exact Has.head | apply Has.tail))) hs), (Kn.lend (Kn.imm (α := List Int) (r := r_r0.2) (x := r0.Shops) (by repeat (first | exact Has.head | apply Has.tail))) hs)⟩) ⟨fun w hm => hm.sub (by repeat (first | exact List.Sublist.refl _ | apply List.Sublist.cons_cons | apply List.Sublist.cons)), ?_⟩)
            refine aw_ev 10 rfl ev_move ?_
            refine aw_ev 11 rfl (ev_extract (vs := [.int .i64 y38.1, .bool y38.2])) ?_
            refine aw_ev 12 rfl (ev_extract (vs := [.int .i64 y38.1, .bool y38.2])) ?_
            refine aw_ev 13 rfl ev_assign ?_
            refine aw_ev 14 rfl ev_assign ?_
            refine aw_done (hK24 _ _ ?_); clear hK24
            refine cw_seq fun K25 hK25 => ?_
            refine cw_region ?_
            refine ow_ev ev_move ?_
            refine ow_nil (hK25 _ _ ?_); clear hK25
            refine cw_cond rfl (fun hc40 => ?_) (fun hc40 => ?_)
            ·
              replace hM := (ite_t hc40).symm.trans hM
              refine cw_region ?_
              refine ow_ev (ev_field_addr 1) ?_
              refine ow_ev (ev_load_own (b := b14)) ?_
              refine ow_ev ev_move ?_
              refine ow_ev ev_move ?_
              refine ow_ev ev_move ?_
              obtain ⟨hI41, hM⟩ := chk_some hM
              refine ow_ev (ev_add (hr := fun hg => i64b_I64 hI41)) ?_
              refine ow_ev ev_move ?_
              obtain ⟨hI42, hM⟩ := chk_some hM
              refine ow_ev (ev_sub (hr := fun hg => i64b_I64 hI42)) ?_
              refine ow_ev (ev_build [.int .i64 (t62_2 : Int), .int .i64 ((tasks0.length : Int) + (t66_3 : Int)), .int .i64 1, .int .i64 (y38.1 - 288001)]) ?_
              refine ow_cons (st_bslice (α := Arc) 40 (fun _ => ()) ([(Arc.mk (t62_2 : Int) ((tasks0.length : Int) + (t66_3 : Int)) 1 (y38.1 - 288001))] : List Arc) (OkL.flat (fun _ _ _ _ => trivial)) (fun r43 => ?_))
              obtain ⟨hb44, hM⟩ := chk_some hM
              refine ow_cons (st_append (r := rg_3_1) (r2 := r43) (by intro r'; repeat (first | exact Upd.head | apply Upd.tail)) (Kn.trow (e := 40) (r := r43) (by repeat (first | exact Has.head | apply Has.tail))) (OkL.flat (fun _ _ _ _ => trivial)) (of_decide_eq_true hb44) (fun r45 => ?_))
              refine ow_ev (ev_field_addr 1) ?_
              refine ow_cons (st_store_own (b := b14) (l' := [.slice r13.a lg_1_0.length r13.cap, .slice r45.a ((lg_3_1 ++ ([(Arc.mk (t62_2 : Int) ((tasks0.length : Int) + (t66_3 : Int)) 1 (y38.1 - 288001))] : List Arc)).length) r45.cap]) (k := ?_))
              refine ow_nil (hJ4 ((lg_3_1 ++ ([(Arc.mk (t62_2 : Int) ((tasks0.length : Int) + (t66_3 : Int)) 1 (y38.1 - 288001))] : List Arc)), r45) _ _ hM ⟨rfl, rfl, rfl, rfl, rfl, rfl, rfl, rfl, rfl, rfl, trivial⟩ (fun w hm => hm.reord))
            ·
              replace hM := (ite_f hc40).symm.trans hM
              refine cw_skip (hJ4 (lg_3_1, rg_3_1) _ _ hM ⟨rfl, rfl, rfl, rfl, rfl, rfl, rfl, rfl, rfl, rfl, trivial⟩ (fun w hm => hm.reord))
          ·
            clear hM
            intro g hM
            obtain ⟨lg_j4_1, rg_j4_1⟩ := g
            dsimp only at hM ⊢
            dsimp only [circulation_Build_k4] at hM
            refine cw_region ?_
            obtain ⟨hI33, hM⟩ := chk_some hM
            refine ow_ev (ev_add (hr := fun hg => i64b_I64 hI33)) ?_
            refine ow_ev ev_move ?_
            refine ow_nil (hL3 (nn3, (lg_j4_1, t66_3 + 1), rg_j4_1) _ _ (eqc hcont3 hM) (Nat.lt_succ_self _) ⟨rfl, rfl, rfl, rfl, rfl, rfl, rfl, rfl, rfl, rfl, trivial⟩ (fun w hm => hm.reord))
        ·
          replace hM := (ite_f hc32).symm.trans hM
          refine cw_exit (hK18 _ _ ?_); clear hK18
          dsimp only [circulation_Build_k3] at hM
          refine cw_region ?_
          obtain ⟨hI46, hM⟩ := chk_some hM
          refine ow_ev (ev_add (hr := fun hg => i64b_I64 hI46)) ?_
          refine ow_ev ev_move ?_
          refine ow_nil (hL2 (nn2, (lg_3_1, t62_2 + 1), rg_3_1) _ _ (eqc hcont2 hM) (Nat.lt_succ_self _) ⟨rfl, rfl, rfl, rfl, rfl, rfl, rfl, trivial⟩ (fun w hm => hm.reord))
      ·
        replace hM := (ite_f hc31).symm.trans hM
        refine cw_exit (hK14 _ _ ?_); clear hK14
        dsimp only [circulation_Build_k2] at hM
        refine cw_seq fun K26 hK26 => ?_
        refine cw_region ?_
        refine ow_ev ev_move ?_
        obtain ⟨m47, hm48, hM⟩ := bind_some hM
        refine ow_cons (st_make (α := Int) (e := 3) 0 () hm48 (fun _ _ => trivial) (fun r49 hr49 => ?_))
        refine ow_ev ev_assign ?_
        refine ow_nil (hK26 _ _ ?_); clear hK26
        refine cw_seq fun K27 hK27 => ?_
        refine cw_seq fun K28 hK28 => ?_
        refine cw_region ?_
        refine ow_ev ev_move ?_
        refine ow_have (fun w hm => Kn.len (Kn.trow (e := 3) (r := r49) (by repeat (first | exact Has.head | apply Has.tail))) hm) fun hl50 => ?_
        refine ow_ev ev_len ?_
        refine ow_ev ev_move ?_
        refine ow_nil (hK28 _ _ ?_); clear hK28
        refine cw_block ?_
        refine cw_loop (γ := Nat × ((List Int) × Nat) × Unit) (env := fun (_, (lnext_4, t101_4), _) => [(0, .v (.slice r_tasks0.a tasks0.length r_tasks0.cap)), (3, .v (.pointer (some ⟨b1, 0, none⟩))), (5, .v (.pointer (some ⟨b2, 0, none⟩))), (7, .v (.int .i64 (tasks0.length : Int))), (8, .v (.pointer (some ⟨b14, 0, none⟩))), (14, .v (.slice r49.a lnext_4.length r49.cap)), (100, .v (.int .i64 (m47.length : Int))), (101, .v (.int .i64 (t101_4 : Int)))]) (mem := fun (_, (lnext_4, t101_4), _) => [imm (α := (List Task)) r_tasks0 tasks0, imm (α := (List EmptyT)) r_r0.1 r0.Empties, imm (α := (List Int)) r_r0.2 r0.Shops, own b1 53 [.int .i64 r0.Turn, .slice r_r0.1.a r0.Empties.length r_r0.1.cap, .slice r_r0.2.a r0.Shops.length r_r0.2.cap, .int .i64 r0.Service, .int .i64 r0.Limit], trow 3 (⟨none, 0, (fun _ => ())⟩ : SR (GoRep.R Int)     ) ([] : List Int), trow 3 (⟨none, 0, (fun _ => ())⟩ : SR (GoRep.R Int)      ) ([] : List Int), own b2 72 [.slice (⟨none, 0, (fun _ => ())⟩ : SR (GoRep.R Int)     ).a (([] : List Int).length) (⟨none, 0, (fun _ => ())⟩ : SR (GoRep.R Int)     ).cap, .slice (⟨none, 0, (fun _ => ())⟩ : SR (GoRep.R Int)      ).a (([] : List Int).length) (⟨none, 0, (fun _ => ())⟩ : SR (GoRep.R Int)      ).cap], trow 3 r13 lg_1_0, trow 40 rg_2_1 lg_2_1, own b14 25 [.slice r13.a lg_1_0.length r13.cap, .slice rg_2_1.a lg_2_1.length rg_2_1.cap], trow 3 r49 lnext_4]) (R := fun g => iter (circulation_Build_b4 m47 lg_1_0 lg_2_1 tasks0 r0) g.1 g.2.1 = some y) (μ := fun g => g.1) (FUEL, (m47, 0), ()) hM ⟨rfl, rfl, rfl, rfl, rfl, rfl, rfl, rfl, trivial⟩ (fun w hm => hm.reord) ?_
        clear hM
        intro g hM KL4 hL4
        obtain ⟨nn4, ⟨lnext_4, t101_4⟩, ⟨⟩⟩ := g
        dsimp only at hM ⊢
        obtain ⟨nn4, cont4, rfl, hcont4, hM⟩ := iter_open' hM
        dsimp only [circulation_Build_b4] at hM
        refine cw_seq fun K29 hK29 => ?_
        refine cw_region ?_
        refine ow_ev ev_lss ?_
        refine ow_nil (hK29 _ _ ?_); clear hK29
        refine cw_seq fun K30 hK30 => ?_
        refine cw_cond rfl (fun hc51 => ?_) (fun hc51 => ?_)
        ·
          replace hM := (ite_t hc51).symm.trans hM
          have hc51d := of_decide_eq_true hc51
          refine cw_skip (hK30 _ _ ?_); clear hK30
          refine cw_seq fun K31 hK31 => ?_
          refine cw_block ?_
          refine cw_seq fun K32 hK32 => ?_
          refine cw_region ?_
          refine ow_ev ev_move ?_
          refine ow_ev ev_assign ?_
          refine ow_nil (hK32 _ _ ?_); clear hK32
          refine cw_region ?_
          refine ow_ev ev_move ?_
          refine ow_ev ev_move ?_
          obtain ⟨x52, hx53, hM⟩ := bind_some hM
          refine ow_ev (ev_idx (xs := lnext_4) 1 (Kn.trow (e := 3) (r := r49) (by repeat (first | exact Has.head | apply Has.tail))) (fun hg => let h := idx_some hx53; ⟨h.1, h.2.1⟩)) ?_
          refine ow_cons (st_set (r := r49) (i := (t101_4 : Int)) (xs := lnext_4) (u := x52) (vs := [.int .i64 (-1)]) 0 (-1) hx53 rfl (fun _ _ h => h) (by repeat (first | exact Upd.head | apply Upd.tail)) ?_)
          refine ow_nil (hK31 _ _ ?_); clear hK31
          refine cw_region ?_
          refine ow_ev (ev_add (hr := fun _ => by unfold I64; omega)) ?_
          refine ow_ev ev_move ?_
          refine ow_nil (hL4 (nn4, ((lnext_4.set (t101_4 : Int).toNat (-1)), t101_4 + 1), ()) _ _ (eqc hcont4 hM) (Nat.lt_succ_self _) ⟨rfl, rfl, rfl, rfl, rfl, (by simp only [List.length_set]; rfl), rfl, rfl, trivial⟩ (fun w hm => hm.reord))
        ·
          replace hM := (ite_f hc51).symm.trans hM
          refine cw_exit (hK27 _ _ ?_); clear hK27
          dsimp only [circulation_Build_k5] at hM
          refine cw_seq fun K33 hK33 => ?_
          refine cw_region ?_
          refine ow_ev (ev_load_all (b := b14)) ?_
          obtain ⟨y54, hy55, hM⟩ := bind_some hM
          refine ow_cons (st_callF SelL.nil (fun S w hs hP => flow_Solve_spec _ w (Graph.mk lg_1_0 lg_2_1) (r13, rg_2_1) y54 hy55 (lend_lt hs) ⟨(Kn.lend (Kn.trow (e := 3) (r := r13) (by repeat (first | exact Has.head | apply Has.tail))) hs), (Kn.lend (Kn.trow (e := 40) (r := rg_2_1) (by repeat (first | exact Has.head | apply Has.tail))) hs)⟩) (by intro r c hc; simp only [List.mem_cons, List.not_mem_nil, or_false] at hc; rcases hc with rfl | rfl <;> first | exact flatC_own | exact flatC_trow (fun _ _ _ _ => trivial)) (fun r56 => ?_))
          dsimp only [List.cons_append, List.nil_append]
          refine ow_ev ev_move ?_
          refine ow_ev (ev_extract (vs := [.agg #[.slice r56.1.a y54.1.X.length r56.1.cap, .slice r56.2.a y54.1.Price.length r56.2.cap, .int .i64 y54.1.Cost], .int .i64 y54.2])) ?_
          refine ow_ev (ev_extract (vs := [.agg #[.slice r56.1.a y54.1.X.length r56.1.cap, .slice r56.2.a y54.1.Price.length r56.2.cap, .int .i64 y54.1.Cost], .int .i64 y54.2])) ?_
          refine ow_cons (st_alloc rfl (k := fun b57 => ?_))
          refine ow_cons (st_store_all (b := b57) (vs := [.slice r56.1.a y54.1.X.length r56.1.cap, .slice r56.2.a y54.1.Price.length r56.2.cap, .int .i64 y54.1.Cost]) (k := ?_))
          refine ow_ev ev_assign ?_
          refine ow_nil (hK33 _ _ ?_); clear hK33
          refine cw_seq fun K34 hK34 => ?_
          refine cw_seq fun K35 hK35 => ?_
          refine cw_region ?_
          refine ow_ev ev_move ?_
          refine ow_ev ev_neq ?_
          refine ow_nil (hK35 _ _ ?_); clear hK35
          refine cw_cond rfl (fun hc58 => ?_) (fun hc58 => ?_)
          ·
            replace hM := (ite_t hc58).symm.trans hM
            refine cw_seq fun K36 hK36 => ?_
            refine cw_region ?_
            refine ow_ev (ev_build [.slice none 0 0, .slice none 0 0]) ?_
            refine ow_ev ev_move ?_
            refine ow_ev ev_assign ?_
            refine ow_cons (st_store_all (b := b2) (vs := [.slice none 0 0, .slice none 0 0]) (k := ?_))
            refine ow_ev ev_assign ?_
            refine ow_nil (hK36 _ _ ?_); clear hK36
            refine cw_imp (fun w hm => hm.row_nil (α := Int) 3 (fun _ => ())) ?_
            refine cw_imp (fun w hm => hm.row_nil (α := Int) 3 (fun _ => ())) ?_
            refine cw_imp (fun w hm => hm.row_nil (α := Int) 3 (fun _ => ())) ?_
            obtain rfl := some_inj hM
            refine cw_ret (kw_retc3 (fun w hm => post_of ((⟨none, 0, (fun _ => ())⟩ : SR (GoRep.R Int)                                                                                                                                                                                                                                                                                                                                                                                           ), ((⟨none, 0, (fun _ => ())⟩ : SR (GoRep.R Int)                                                                                                                                                                                                                                                                                                                                                                                            ), (⟨none, 0, (fun _ => ())⟩ : SR (GoRep.R Int)                                                                                                                                                                                                                                                                                                                                                                                             ))) hm rfl))
          ·
            replace hM := (ite_f hc58).symm.trans hM
            refine cw_skip (hK34 _ _ ?_); clear hK34
            refine cw_seq fun K37 hK37 => ?_
            refine cw_seq fun K38 hK38 => ?_
            refine cw_region ?_
            refine ow_ev ev_move ?_
            obtain ⟨hI62, hM⟩ := chk_some hM
            refine ow_ev (ev_mul (hr := fun hg => i64b_I64 hI62)) ?_
            refine ow_ev ev_assign ?_
            refine ow_nil (hK38 _ _ ?_); clear hK38
            refine cw_block ?_
            refine cw_loop (γ := Nat × ((List Int) × Int) × Unit) (env := fun (_, (lnext_5, i_5), _) => [(0, .v (.slice r_tasks0.a tasks0.length r_tasks0.cap)), (3, .v (.pointer (some ⟨b1, 0, none⟩))), (5, .v (.pointer (some ⟨b2, 0, none⟩))), (7, .v (.int .i64 (tasks0.length : Int))), (8, .v (.pointer (some ⟨b14, 0, none⟩))), (14, .v (.slice r49.a lnext_5.length r49.cap)), (16, .v (.pointer (some ⟨b57, 0, none⟩))), (18, .v (.int .i64 i_5))]) (mem := fun (_, (lnext_5, i_5), _) => [imm (α := (List Task)) r_tasks0 tasks0, imm (α := (List EmptyT)) r_r0.1 r0.Empties, imm (α := (List Int)) r_r0.2 r0.Shops, own b1 53 [.int .i64 r0.Turn, .slice r_r0.1.a r0.Empties.length r_r0.1.cap, .slice r_r0.2.a r0.Shops.length r_r0.2.cap, .int .i64 r0.Service, .int .i64 r0.Limit], trow 3 (⟨none, 0, (fun _ => ())⟩ : SR (GoRep.R Int)     ) ([] : List Int), trow 3 (⟨none, 0, (fun _ => ())⟩ : SR (GoRep.R Int)      ) ([] : List Int), own b2 72 [.slice (⟨none, 0, (fun _ => ())⟩ : SR (GoRep.R Int)     ).a (([] : List Int).length) (⟨none, 0, (fun _ => ())⟩ : SR (GoRep.R Int)     ).cap, .slice (⟨none, 0, (fun _ => ())⟩ : SR (GoRep.R Int)      ).a (([] : List Int).length) (⟨none, 0, (fun _ => ())⟩ : SR (GoRep.R Int)      ).cap], trow 3 r13 lg_1_0, trow 40 rg_2_1 lg_2_1, own b14 25 [.slice r13.a lg_1_0.length r13.cap, .slice rg_2_1.a lg_2_1.length rg_2_1.cap], trow 3 r49 lnext_5, trow 3 r56.1 y54.1.X, trow 3 r56.2 y54.1.Price, own b57 28 [.slice r56.1.a y54.1.X.length r56.1.cap, .slice r56.2.a y54.1.Price.length r56.2.cap, .int .i64 y54.1.Cost]]) (R := fun g => iter (circulation_Build_b5 lg_2_1 y54 tasks0 r0) g.1 g.2.1 = some y) (μ := fun g => g.1) (FUEL, (lnext_4, (2 * (tasks0.length : Int))), ()) hM ⟨rfl, rfl, rfl, rfl, rfl, rfl, rfl, rfl, trivial⟩ (fun w hm => hm.reord) ?_
            clear hM
            intro g hM KL5 hL5
            obtain ⟨nn5, ⟨lnext_5, i_5⟩, ⟨⟩⟩ := g
            dsimp only at hM ⊢
            obtain ⟨nn5, cont5, rfl, hcont5, hM⟩ := iter_open' hM
            dsimp only [circulation_Build_b5] at hM
            refine cw_seq fun K39 hK39 => ?_
            refine cw_seq fun K40 hK40 => ?_
            refine cw_region ?_
            refine ow_ev ev_move ?_
            refine ow_ev (ev_field_addr 1) ?_
            refine ow_ev (ev_load_own (b := b14)) ?_
            refine ow_ev ev_len ?_
            refine ow_ev ev_lss ?_
            refine ow_nil (hK40 _ _ ?_); clear hK40
            refine cw_cond rfl (fun hc63 => ?_) (fun hc63 => ?_)
            ·
              replace hM := (ite_t hc63).symm.trans hM
              refine cw_skip (hK39 _ _ ?_); clear hK39
              refine cw_cut (γ := (List Int) × Unit) (env := fun (lnext_j7, _) => [(0, .v (.slice r_tasks0.a tasks0.length r_tasks0.cap)), (3, .v (.pointer (some ⟨b1, 0, none⟩))), (5, .v (.pointer (some ⟨b2, 0, none⟩))), (7, .v (.int .i64 (tasks0.length : Int))), (8, .v (.pointer (some ⟨b14, 0, none⟩))), (14, .v (.slice r49.a lnext_j7.length r49.cap)), (16, .v (.pointer (some ⟨b57, 0, none⟩))), (18, .v (.int .i64 i_5))]) (mem := fun (lnext_j7, _) => [imm (α := (List Task)) r_tasks0 tasks0, imm (α := (List EmptyT)) r_r0.1 r0.Empties, imm (α := (List Int)) r_r0.2 r0.Shops, own b1 53 [.int .i64 r0.Turn, .slice r_r0.1.a r0.Empties.length r_r0.1.cap, .slice r_r0.2.a r0.Shops.length r_r0.2.cap, .int .i64 r0.Service, .int .i64 r0.Limit], trow 3 (⟨none, 0, (fun _ => ())⟩ : SR (GoRep.R Int)     ) ([] : List Int), trow 3 (⟨none, 0, (fun _ => ())⟩ : SR (GoRep.R Int)      ) ([] : List Int), own b2 72 [.slice (⟨none, 0, (fun _ => ())⟩ : SR (GoRep.R Int)     ).a (([] : List Int).length) (⟨none, 0, (fun _ => ())⟩ : SR (GoRep.R Int)     ).cap, .slice (⟨none, 0, (fun _ => ())⟩ : SR (GoRep.R Int)      ).a (([] : List Int).length) (⟨none, 0, (fun _ => ())⟩ : SR (GoRep.R Int)      ).cap], trow 3 r13 lg_1_0, trow 40 rg_2_1 lg_2_1, own b14 25 [.slice r13.a lg_1_0.length r13.cap, .slice rg_2_1.a lg_2_1.length rg_2_1.cap], trow 3 r49 lnext_j7, trow 3 r56.1 y54.1.X, trow 3 r56.2 y54.1.Price, own b57 28 [.slice r56.1.a y54.1.X.length r56.1.cap, .slice r56.2.a y54.1.Price.length r56.2.cap, .int .i64 y54.1.Cost]]) (R := fun g => circulation_Build_k7 i_5 cont5 g.1 = some y) ?_ ?_
              · intro KJ7 hJ7
                refine cw_block ?_
                refine cw_seq fun K41 hK41 => ?_
                refine cw_region ?_
                refine ow_ev (ev_field_addr 0) ?_
                refine ow_ev (ev_load_own (b := b57)) ?_
                refine ow_ev ev_move ?_
                obtain ⟨x65, hx66, hM⟩ := bind_some hM
                refine ow_ev (ev_idx (xs := y54.1.X) 1 (Kn.trow (e := 3) (r := r56.1) (by repeat (first | exact Has.head | apply Has.tail))) (fun hg => let h := idx_some hx66; ⟨h.1, h.2.1⟩)) ?_
                refine ow_ev (ev_ld (i := i_5) (xs := y54.1.X) (y := x65) 0 (Kn.trow (e := 3) (r := r56.1) (by repeat (first | exact Has.head | apply Has.tail))) (fun _ => hx66)) ?_
                refine ow_ev ev_eql ?_
                refine ow_nil (hK41 _ _ ?_); clear hK41
                refine cw_cond rfl (fun hc67 => ?_) (fun hc67 => ?_)
                ·
                  replace hM := (ite_t hc67).symm.trans hM
                  refine cw_region_z [imm (α := (List Task)) r_tasks0 tasks0, imm (α := (List EmptyT)) r_r0.1 r0.Empties, imm (α := (List Int)) r_r0.2 r0.Shops, own b1 53 [.int .i64 r0.Turn, .slice r_r0.1.a r0.Empties.length r_r0.1.cap, .slice r_r0.2.a r0.Shops.length r_r0.2.cap, .int .i64 r0.Service, .int .i64 r0.Limit], trow 3 (⟨none, 0, (fun _ => ())⟩ : SR (GoRep.R Int)     ) ([] : List Int), trow 3 (⟨none, 0, (fun _ => ())⟩ : SR (GoRep.R Int)      ) ([] : List Int), own b2 72 [.slice (⟨none, 0, (fun _ => ())⟩ : SR (GoRep.R Int)     ).a (([] : List Int).length) (⟨none, 0, (fun _ => ())⟩ : SR (GoRep.R Int)     ).cap, .slice (⟨none, 0, (fun _ => ())⟩ : SR (GoRep.R Int)      ).a (([] : List Int).length) (⟨none, 0, (fun _ => ())⟩ : SR (GoRep.R Int)      ).cap], trow 3 r13 lg_1_0, trow 40 rg_2_1 lg_2_1, own b14 25 [.slice r13.a lg_1_0.length r13.cap, .slice rg_2_1.a lg_2_1.length rg_2_1.cap], trow 3 r49 lnext_5, trow 3 r56.1 y54.1.X, trow 3 r56.2 y54.1.Price, own b57 28 [.slice r56.1.a y54.1.X.length r56.1.cap, .slice r56.2.a y54.1.Price.length r56.2.cap, .int .i64 y54.1.Cost]] 16 ?_
                  refine az_ev 0 rfl ev_move ?_
                  refine az_ev 1 rfl (ev_field_addr 1) ?_
                  refine az_ev 2 rfl (ev_load_own (b := b14)) ?_
                  refine az_ev 3 rfl ev_move ?_
                  obtain ⟨x68, hx69, hM⟩ := bind_some hM
                  refine az_ev 4 rfl (ev_idx (xs := lg_2_1) 4 (Kn.trow (e := 40) (r := rg_2_1) (by repeat (first | exact Has.head | apply Has.tail))) (fun hg => let h := idx_some hx69; ⟨h.1, h.2.1⟩)) ?_
                  refine az_ev 5 rfl (ev_field_addr 0) ?_
                  refine az_ev 6 rfl (ev_ld (i := i_5) (xs := lg_2_1) (y := x68) 0 (Kn.trow (e := 40) (r := rg_2_1) (by repeat (first | exact Has.head | apply Has.tail))) (fun _ => hx69)) ?_
                  refine az_ev 7 rfl (ev_field_addr 1) ?_
                  refine az_ev 8 rfl (ev_load_own (b := b14)) ?_
                  refine az_ev 9 rfl ev_move ?_
                  obtain ⟨x70, hx71, hM⟩ := bind_some hM
                  refine az_ev 10 rfl (ev_idx (xs := lg_2_1) 4 (Kn.trow (e := 40) (r := rg_2_1) (by repeat (first | exact Has.head | apply Has.tail))) (fun hg => let h := idx_some hx71; ⟨h.1, h.2.1⟩)) ?_
                  refine az_ev 11 rfl (ev_field_addr 1) ?_
                  refine az_ev 12 rfl (ev_ld (i := i_5) (xs := lg_2_1) (y := x70) 1 (Kn.trow (e := 40) (r := rg_2_1) (by repeat (first | exact Has.head | apply Has.tail))) (fun _ => hx71)) ?_
                  refine az_ev 13 rfl ev_move ?_
                  obtain ⟨hI72, hM⟩ := chk_some hM
                  refine az_ev 14 rfl (ev_sub (hr := fun hg => i64b_I64 hI72)) ?_
                  obtain ⟨x73, hx74, hM⟩ := bind_some hM
                  refine az_ev 15 rfl (ev_idx (xs := lnext_5) 1 (Kn.trow (e := 3) (r := r49) (by repeat (first | exact Has.head | apply Has.tail))) (fun hg => let h := idx_some hx74; ⟨h.1, h.2.1⟩)) ?_
                  refine az_last rfl (st_set (r := r49) (i := x68.From) (xs := lnext_5) (u := x73) (vs := [.int .i64 (x70.To - (tasks0.length : Int))]) 0 (x70.To - (tasks0.length : Int)) hx74 rfl (fun _ _ h => h) (by repeat (first | exact Upd.head | apply Upd.tail)) ?_)
                  refine az_done (hJ7 ((lnext_5.set x68.From.toNat (x70.To - (tasks0.length : Int))), ()) _ _ hM ⟨rfl, rfl, rfl, rfl, rfl, (by simp only [List.length_set]; rfl), rfl, rfl, trivial⟩ (fun w hm => hm.reord))
                ·
                  replace hM := (ite_f hc67).symm.trans hM
                  refine cw_skip (hJ7 (lnext_5, ()) _ _ hM ⟨rfl, rfl, rfl, rfl, rfl, rfl, rfl, rfl, trivial⟩ (fun w hm => hm.reord))
              ·
                clear hM
                intro g hM
                obtain ⟨lnext_j7, ⟨⟩⟩ := g
                dsimp only at hM ⊢
                dsimp only [circulation_Build_k7] at hM
                refine cw_region ?_
                refine ow_ev ev_move ?_
                obtain ⟨hI64, hM⟩ := chk_some hM
                refine ow_ev (ev_add (hr := fun hg => i64b_I64 hI64)) ?_
                refine ow_ev ev_assign ?_
                refine ow_nil (hL5 (nn5, (lnext_j7, (i_5 + 1)), ()) _ _ (eqc hcont5 hM) (Nat.lt_succ_self _) ⟨rfl, rfl, rfl, rfl, rfl, rfl, rfl, rfl, trivial⟩ (fun w hm => hm.reord))
            ·
              replace hM := (ite_f hc63).symm.trans hM
              refine cw_exit (hK37 _ _ ?_); clear hK37
              dsimp only [circulation_Build_k6] at hM
              refine cw_seq fun K42 hK42 => ?_
              refine cw_region ?_
              refine ow_ev ev_move ?_
              refine ow_ev ev_move ?_
              refine ow_ev (ev_load_all (b := b1)) ?_
              refine ow_ev ev_move ?_
              obtain ⟨y75, hy76, hM⟩ := bind_some hM
              refine ow_cons (st_callF SelL.nil (fun S w hs hP => circulation_cover_spec _ w tasks0 r_tasks0 r0 r_r0 lnext_5 r49 y75 hy76 (lend_lt hs) (Kn.lend (Kn.imm (α := List Task) (r := r_tasks0) (x := tasks0) (by repeat (first | exact Has.head | apply Has.tail))) hs) ⟨(Kn.lend (Kn.imm (α := List EmptyT) (r := r_r0.1) (x := r0.Empties) (by repeat (first | exact Has.head | apply Has.tail))) hs), (Kn.lend (Kn.imm (α := List Int) (r := r_r0.2) (x := r0.Shops) (by repeat (first | exact Has.head | apply Has.tail))) hs)⟩ (Kn.lend (Kn.trow (e := 3) (r := r49) (by repeat (first | exact Has.head | apply Has.tail))) hs)) (by intro r c hc; simp only [List.mem_cons, List.not_mem_nil, or_false] at hc; rcases hc with rfl | rfl <;> first | exact flatC_own | exact flatC_trow (fun _ _ _ _ => trivial)) (fun r77 => ?_))
              dsimp only [List.cons_append, List.nil_append]
              refine ow_ev ev_assign ?_
              refine ow_cons (st_store_all (b := b2) (vs := [.slice r77.1.a y75.Left.length r77.1.cap, .slice r77.2.a y75.Right.length r77.2.cap]) (k := ?_))
              refine ow_ev ev_assign ?_
              refine ow_nil (hK42 _ _ ?_); clear hK42
              obtain rfl := some_inj hM
              refine cw_ret (kw_retc3 (fun w hm => post_of (r49, r77) hm rfl))

def law28_awake_m  : Option Bool :=
  (law28_example_m).bind fun y1 =>
  (circulation_Build_m y1.1 y1.2).bind fun y5 =>
  (circulation_Chains_m y5.1).bind fun y9 =>
  if (decide (y5.2.2 = 0) && decide (y9.2 = 0)) then
  ((keep_Same_int_m y5.1 ([1, (-1), (-1)] : List Int)).bind fun y14 =>
  (whn ((decide (y5.2.2 = 0) && decide (y9.2 = 0)) && y14) default (ref24_VerifyCover_m y1.1 y1.2 y5.1 y5.2.1)).bind fun y16 =>
  if (((decide (y5.2.2 = 0) && decide (y9.2 = 0)) && y14) && y16) then
  ((keep_SameLists_int_m y9.1 ([([0, 1] : List Int), ([2] : List Int)] : List (List Int))).bind fun y22 =>
  some ((((decide (y5.2.2 = 0) && decide (y9.2 = 0)) && y14) && y16) && y22))
  else
  (some false))
  else
  ((whn false default (ref24_VerifyCover_m y1.1 y1.2 y5.1 y5.2.1)).bind fun y24 =>
  if (false && y24) then
  ((keep_SameLists_int_m y9.1 ([([0, 1] : List Int), ([2] : List Int)] : List (List Int))).bind fun y30 =>
  some ((false && y24) && y30))
  else
  (some false))
theorem law28_awake_spec (S : Soup) (w : World)  (y : Bool) (hM : law28_awake_m  = some y) (hS : ∀ k, S k → k < w.heap.size)  :
    Calls Try.prog 35 #[] w (Ret w (.bool y)) := by
  refine calls_cw (args := []) Try.func35 rfl ((pre_nil hS).start) rfl ?_
  unfold law28_awake_m at hM
  refine cw_seq fun K1 hK1 => ?_
  refine cw_region ?_
  refine ow_ev ev_assign ?_
  refine ow_nil (hK1 _ _ ?_); clear hK1
  refine cw_seq fun K2 hK2 => ?_
  refine cw_region ?_
  obtain ⟨y1, hy2, hM⟩ := bind_some hM
  refine ow_cons (st_callF SelL.nil (fun S w hs hP => law28_example_spec _ w  y1 hy2 (lend_lt hs) ) (by intro r c hc; simp only [List.mem_cons, List.not_mem_nil, or_false] at hc; rcases hc with rfl | rfl | rfl <;> first | exact flatC_own | exact flatC_trow (fun _ _ _ _ => trivial)) (fun r3 => ?_))
  dsimp only [List.cons_append, List.nil_append]
  refine ow_ev ev_move ?_
  refine ow_ev (ev_extract (vs := [.slice r3.1.a y1.1.length r3.1.cap, .agg #[.int .i64 y1.2.Turn, .slice r3.2.1.a y1.2.Empties.length r3.2.1.cap, .slice r3.2.2.a y1.2.Shops.length r3.2.2.cap, .int .i64 y1.2.Service, .int .i64 y1.2.Limit]])) ?_
  refine ow_ev (ev_extract (vs := [.slice r3.1.a y1.1.length r3.1.cap, .agg #[.int .i64 y1.2.Turn, .slice r3.2.1.a y1.2.Empties.length r3.2.1.cap, .slice r3.2.2.a y1.2.Shops.length r3.2.2.cap, .int .i64 y1.2.Service, .int .i64 y1.2.Limit]])) ?_
  refine ow_cons (st_alloc rfl (k := fun b4 => ?_))
  refine ow_ev ev_assign ?_
  refine ow_cons (st_store_all (b := b4) (vs := [.int .i64 y1.2.Turn, .slice r3.2.1.a y1.2.Empties.length r3.2.1.cap, .slice r3.2.2.a y1.2.Shops.length r3.2.2.cap, .int .i64 y1.2.Service, .int .i64 y1.2.Limit]) (k := ?_))
  refine ow_nil (hK2 _ _ ?_); clear hK2
  refine cw_seq fun K3 hK3 => ?_
  refine cw_region ?_
  refine ow_ev ev_move ?_
  refine ow_ev (ev_load_all (b := b4)) ?_
  obtain ⟨y5, hy6, hM⟩ := bind_some hM
  refine ow_cons (st_callF SelL.nil (fun S w hs hP => circulation_Build_spec _ w y1.1 r3.1 y1.2 r3.2 y5 hy6 (lend_lt hs) (Kn.lend (Kn.trow (e := 60) (r := r3.1) (by repeat (first | exact Has.head | apply Has.tail))) hs) ⟨(Kn.lend (Kn.trow (e := 58) (r := r3.2.1) (by repeat (first | exact Has.head | apply Has.tail))) hs), (Kn.lend (Kn.trow (e := 3) (r := r3.2.2) (by repeat (first | exact Has.head | apply Has.tail))) hs)⟩) (by intro r c hc; simp only [List.mem_cons, List.not_mem_nil, or_false] at hc; rcases hc with rfl | rfl | rfl <;> first | exact flatC_own | exact flatC_trow (fun _ _ _ _ => trivial)) (fun r7 => ?_))
  dsimp only [List.cons_append, List.nil_append]
  refine ow_ev ev_move ?_
  refine ow_ev (ev_extract (vs := [.slice r7.1.a y5.1.length r7.1.cap, .agg #[.slice r7.2.1.a y5.2.1.Left.length r7.2.1.cap, .slice r7.2.2.a y5.2.1.Right.length r7.2.2.cap], .int .i64 y5.2.2])) ?_
  refine ow_ev (ev_extract (vs := [.slice r7.1.a y5.1.length r7.1.cap, .agg #[.slice r7.2.1.a y5.2.1.Left.length r7.2.1.cap, .slice r7.2.2.a y5.2.1.Right.length r7.2.2.cap], .int .i64 y5.2.2])) ?_
  refine ow_ev (ev_extract (vs := [.slice r7.1.a y5.1.length r7.1.cap, .agg #[.slice r7.2.1.a y5.2.1.Left.length r7.2.1.cap, .slice r7.2.2.a y5.2.1.Right.length r7.2.2.cap], .int .i64 y5.2.2])) ?_
  refine ow_cons (st_alloc rfl (k := fun b8 => ?_))
  refine ow_ev ev_assign ?_
  refine ow_cons (st_store_all (b := b8) (vs := [.slice r7.2.1.a y5.2.1.Left.length r7.2.1.cap, .slice r7.2.2.a y5.2.1.Right.length r7.2.2.cap]) (k := ?_))
  refine ow_ev ev_assign ?_
  refine ow_nil (hK3 _ _ ?_); clear hK3
  refine cw_seq fun K4 hK4 => ?_
  refine cw_region ?_
  refine ow_ev ev_move ?_
  refine ow_imp (fun w hm => hm.freeze (r := r7.1) (by repeat (first | exact Upd.head | apply Upd.tail))) ?_
  obtain ⟨y9, hy10, hM⟩ := bind_some hM
  refine ow_cons (st_callS SelL.nil (fun S w hs hP => circulation_Chains_spec _ w y5.1 r7.1 y9 hy10 hs.lt ((Sk.imm (α := List Int) (r := r7.1) (x := y5.1) (by repeat (first | exact Has.head | apply Has.tail))) S w hs))  (fun r11 => ?_))
  dsimp only [List.cons_append, List.nil_append]
  refine ow_ev ev_move ?_
  refine ow_ev (ev_extract (vs := [.slice r11.a y9.1.length r11.cap, .int .i64 y9.2])) ?_
  refine ow_ev (ev_extract (vs := [.slice r11.a y9.1.length r11.cap, .int .i64 y9.2])) ?_
  refine ow_ev ev_assign ?_
  refine ow_ev ev_assign ?_
  refine ow_nil (hK4 _ _ ?_); clear hK4
  refine cw_seq fun K5 hK5 => ?_
  refine cw_region ?_
  refine ow_ev ev_move ?_
  refine ow_ev ev_eql ?_
  refine ow_ev ev_move ?_
  refine ow_evg rfl ev_move ?_
  refine ow_evg rfl ev_eql ?_
  refine ow_ev ev_and ?_
  refine ow_ev ev_move ?_
  refine ow_evg rfl ev_move ?_
  refine ow_cases (decide (y5.2.2 = 0) && decide (y9.2 = 0)) (fun hg12 => ?_) (fun hg12 => ?_)
  ·
    replace hM := (ite_t hg12).symm.trans hM
    refine ow_know 31 hg12 rfl ?_
    refine ow_gtrue rfl hg12 ?_
    refine ow_cons (st_bslice (α := Int) 3 (fun _ => ()) ([1, (-1), (-1)] : List Int) (OkL.flat (fun _ _ _ _ => trivial)) (fun r13 => ?_))
    refine ow_gtrue rfl hg12 ?_
    obtain ⟨y14, hy15, hM⟩ := bind_some hM
    refine ow_cons (st_callv (fun w hm => let ⟨S, hs⟩ := hm; keep_Same_int_spec _ w y5.1 r7.1 ([1, (-1), (-1)] : List Int) r13 y14 hy15 (lend_lt hs) (Kn.lend (Kn.imm (α := List Int) (r := r7.1) (x := y5.1) (by repeat (first | exact Has.head | apply Has.tail))) hs) (Kn.lend (Kn.trow (e := 3) (r := r13) (by repeat (first | exact Has.head | apply Has.tail))) hs)) ?_)
    refine ow_ev ev_and ?_
    refine ow_ev ev_move ?_
    refine ow_evg rfl ev_move ?_
    refine ow_evg rfl (ev_load_all (b := b4)) ?_
    refine ow_evg rfl ev_move ?_
    refine ow_evg rfl (ev_load_all (b := b8)) ?_
    obtain ⟨y16, hy17, hM⟩ := bind_some hM
    refine ow_callg rfl (fun hg w hm => let ⟨S, hs⟩ := hm; ref24_VerifyCover_spec _ w y1.1 r3.1 y1.2 r3.2 y5.1 r7.1 y5.2.1 r7.2 y16 (whn_some hy17 hg) (lend_lt hs) (Kn.lend (Kn.trow (e := 60) (r := r3.1) (by repeat (first | exact Has.head | apply Has.tail))) hs) ⟨(Kn.lend (Kn.trow (e := 58) (r := r3.2.1) (by repeat (first | exact Has.head | apply Has.tail))) hs), (Kn.lend (Kn.trow (e := 3) (r := r3.2.2) (by repeat (first | exact Has.head | apply Has.tail))) hs)⟩ (Kn.lend (Kn.imm (α := List Int) (r := r7.1) (x := y5.1) (by repeat (first | exact Has.head | apply Has.tail))) hs) ⟨(Kn.lend (Kn.trow (e := 3) (r := r7.2.1) (by repeat (first | exact Has.head | apply Has.tail))) hs), (Kn.lend (Kn.trow (e := 3) (r := r7.2.2) (by repeat (first | exact Has.head | apply Has.tail))) hs)⟩) ?_
    refine ow_ev ev_and ?_
    refine ow_ev ev_move ?_
    refine ow_evg rfl ev_move ?_
    refine ow_cases (((decide (y5.2.2 = 0) && decide (y9.2 = 0)) && y14) && y16) (fun hg18 => ?_) (fun hg18 => ?_)
    ·
      replace hM := (ite_t hg18).symm.trans hM
      refine ow_know 43 hg18 rfl ?_
      refine ow_gtrue rfl hg18 ?_
      refine ow_cons (st_bslice (α := Int) 3 (fun _ => ()) ([0, 1] : List Int) (OkL.flat (fun _ _ _ _ => trivial)) (fun r19 => ?_))
      refine ow_gtrue rfl hg18 ?_
      refine ow_cons (st_bslice (α := Int) 3 (fun _ => ()) ([2] : List Int) (OkL.flat (fun _ _ _ _ => trivial)) (fun r20 => ?_))
      refine ow_gtrue rfl hg18 ?_
      refine ow_imp (fun w hm => hm.freeze (r := r19) (by repeat (first | exact Upd.head | apply Upd.tail))) ?_
      refine ow_imp (fun w hm => hm.freeze (r := r20) (by repeat (first | exact Upd.head | apply Upd.tail))) ?_
      refine ow_cons (st_bslice (α := List Int) 22 (fun i => match i with | 0 => r19 | _ => r20) ([([0, 1] : List Int), ([2] : List Int)] : List (List Int)) (OkL.cons (fun S w hs => ((Sk.imm (α := List Int) (r := r19) (x := ([0, 1] : List Int)) (by repeat (first | exact Has.head | apply Has.tail))) S w hs)) (OkL.cons (fun S w hs => ((Sk.imm (α := List Int) (r := r20) (x := ([2] : List Int)) (by repeat (first | exact Has.head | apply Has.tail))) S w hs)) OkL.nil)) (fun r21 => ?_))
      refine ow_gtrue rfl hg18 ?_
      obtain ⟨y22, hy23, hM⟩ := bind_some hM
      refine ow_cons (st_callv (fun w hm => let ⟨S, hs⟩ := hm; keep_SameLists_int_spec _ w y9.1 r11 ([([0, 1] : List Int), ([2] : List Int)] : List (List Int)) r21 y22 hy23 (lend_lt hs) (Kn.lend (Kn.trow (e := 22) (r := r11) (by repeat (first | exact Has.head | apply Has.tail))) hs) (Kn.lend (Kn.trow (e := 22) (r := r21) (by repeat (first | exact Has.head | apply Has.tail))) hs)) ?_)
      refine ow_ev ev_and ?_
      refine ow_ev ev_assign ?_
      refine ow_nil (hK5 _ _ ?_); clear hK5
      obtain rfl := some_inj hM
      refine cw_ret (kw_retc1 (fun w hm => ret_of hm rfl))
    ·
      replace hM := (ite_f hg18).symm.trans hM
      refine ow_gskip rfl hg18 ?_
      refine ow_gskip rfl hg18 ?_
      refine ow_gskip rfl hg18 ?_
      refine ow_gskip rfl hg18 ?_
      refine ow_ev (ev_andF hg18) ?_
      refine ow_ev ev_assign ?_
      refine ow_nil (hK5 _ _ ?_); clear hK5
      obtain rfl := some_inj hM
      refine cw_ret (kw_retc1 (fun w hm => ret_of hm rfl))
  ·
    replace hM := (ite_f hg12).symm.trans hM
    refine ow_gskip rfl hg12 ?_
    refine ow_gskip rfl hg12 ?_
    refine ow_ev (ev_andF hg12) ?_
    refine ow_ev ev_move ?_
    refine ow_evg rfl ev_move ?_
    refine ow_evg rfl (ev_load_all (b := b4)) ?_
    refine ow_evg rfl ev_move ?_
    refine ow_evg rfl (ev_load_all (b := b8)) ?_
    obtain ⟨y24, hy25, hM⟩ := bind_some hM
    refine ow_callg rfl (fun hg w hm => let ⟨S, hs⟩ := hm; ref24_VerifyCover_spec _ w y1.1 r3.1 y1.2 r3.2 y5.1 r7.1 y5.2.1 r7.2 y24 (whn_some hy25 hg) (lend_lt hs) (Kn.lend (Kn.trow (e := 60) (r := r3.1) (by repeat (first | exact Has.head | apply Has.tail))) hs) ⟨(Kn.lend (Kn.trow (e := 58) (r := r3.2.1) (by repeat (first | exact Has.head | apply Has.tail))) hs), (Kn.lend (Kn.trow (e := 3) (r := r3.2.2) (by repeat (first | exact Has.head | apply Has.tail))) hs)⟩ (Kn.lend (Kn.imm (α := List Int) (r := r7.1) (x := y5.1) (by repeat (first | exact Has.head | apply Has.tail))) hs) ⟨(Kn.lend (Kn.trow (e := 3) (r := r7.2.1) (by repeat (first | exact Has.head | apply Has.tail))) hs), (Kn.lend (Kn.trow (e := 3) (r := r7.2.2) (by repeat (first | exact Has.head | apply Has.tail))) hs)⟩) ?_
    refine ow_ev ev_and ?_
    refine ow_ev ev_move ?_
    refine ow_evg rfl ev_move ?_
    refine ow_cases (false && y24) (fun hg26 => ?_) (fun hg26 => ?_)
    ·
      replace hM := (ite_t hg26).symm.trans hM
      refine ow_know 43 hg26 rfl ?_
      refine ow_gtrue rfl hg26 ?_
      refine ow_cons (st_bslice (α := Int) 3 (fun _ => ()) ([0, 1] : List Int) (OkL.flat (fun _ _ _ _ => trivial)) (fun r27 => ?_))
      refine ow_gtrue rfl hg26 ?_
      refine ow_cons (st_bslice (α := Int) 3 (fun _ => ()) ([2] : List Int) (OkL.flat (fun _ _ _ _ => trivial)) (fun r28 => ?_))
      refine ow_gtrue rfl hg26 ?_
      refine ow_imp (fun w hm => hm.freeze (r := r27) (by repeat (first | exact Upd.head | apply Upd.tail))) ?_
      refine ow_imp (fun w hm => hm.freeze (r := r28) (by repeat (first | exact Upd.head | apply Upd.tail))) ?_
      refine ow_cons (st_bslice (α := List Int) 22 (fun i => match i with | 0 => r27 | _ => r28) ([([0, 1] : List Int), ([2] : List Int)] : List (List Int)) (OkL.cons (fun S w hs => ((Sk.imm (α := List Int) (r := r27) (x := ([0, 1] : List Int)) (by repeat (first | exact Has.head | apply Has.tail))) S w hs)) (OkL.cons (fun S w hs => ((Sk.imm (α := List Int) (r := r28) (x := ([2] : List Int)) (by repeat (first | exact Has.head | apply Has.tail))) S w hs)) OkL.nil)) (fun r29 => ?_))
      refine ow_gtrue rfl hg26 ?_
      obtain ⟨y30, hy31, hM⟩ := bind_some hM
      refine ow_cons (st_callv (fun w hm => let ⟨S, hs⟩ := hm; keep_SameLists_int_spec _ w y9.1 r11 ([([0, 1] : List Int), ([2] : List Int)] : List (List Int)) r29 y30 hy31 (lend_lt hs) (Kn.lend (Kn.trow (e := 22) (r := r11) (by repeat (first | exact Has.head | apply Has.tail))) hs) (Kn.lend (Kn.trow (e := 22) (r := r29) (by repeat (first | exact Has.head | apply Has.tail))) hs)) ?_)
      refine ow_ev ev_and ?_
      refine ow_ev ev_assign ?_
      refine ow_nil (hK5 _ _ ?_); clear hK5
      obtain rfl := some_inj hM
      refine cw_ret (kw_retc1 (fun w hm => ret_of hm rfl))
    ·
      replace hM := (ite_f hg26).symm.trans hM
      refine ow_gskip rfl hg26 ?_
      refine ow_gskip rfl hg26 ?_
      refine ow_gskip rfl hg26 ?_
      refine ow_gskip rfl hg26 ?_
      refine ow_ev (ev_andF hg26) ?_
      refine ow_ev ev_assign ?_
      refine ow_nil (hK5 _ _ ?_); clear hK5
      obtain rfl := some_inj hM
      refine cw_ret (kw_retc1 (fun w hm => ret_of hm rfl))

end Go.Proofs.Ytedocibniankjaa
