/- Models of functions, and that the code computes them. -/
import Derived.Test.YtedocibniankjaaCc
namespace Go.Proofs.Ytedocibniankjaa
open Go.Dc Go.RowKit
set_option maxRecDepth 10000
set_option linter.unusedVariables false
def circulation_proper_k2 (cont1 : ((List Bool) × Nat) → Option Bool) (t22_1 : Nat) : (List Bool) → Option Bool := fun lused_j2 =>
  cont1 (lused_j2, t22_1 + 1)
def circulation_proper_k1 : Unit → Option Bool := fun _ =>
  some true
def circulation_proper_b1 (next0 : List Int) (tasks0 : List Task) (r0 : Rules) (cont1 : ((List Bool) × Nat) → Option Bool) : ((List Bool) × Nat) → Option Bool := fun (lused_1, t22_1) =>
  if decide ((t22_1 : Int) < (next0.length : Int)) then
    ((idx next0 (t22_1 : Int)).bind fun x8 =>
    if decide (x8 = (-1)) then
      (circulation_proper_k2 cont1 t22_1 lused_1)
    else
      ((whn (!(decide (x8 < 0) || decide ((tasks0.length : Int) ≤ x8))) default (idx lused_1 x8)).bind fun x11 =>
      if ((decide (x8 < 0) || decide ((tasks0.length : Int) ≤ x8)) || x11) then
        (some false)
      else
        ((idx tasks0 (t22_1 : Int)).bind fun x14 =>
        (idx tasks0 x8).bind fun x16 =>
        (circulation_Follows_m r0 x14 x16).bind fun y18 =>
        if (!y18.2) then
          (some false)
        else
          ((idx lused_1 x8).bind fun x21 =>
          circulation_proper_k2 cont1 t22_1 (lused_1.set x8.toNat true)))))
  else
    (circulation_proper_k1 ())
def circulation_proper_m (tasks0 : List Task) (r0 : Rules) (next0 : List Int) : Option Bool :=
  if decide ((next0.length : Int) ≠ (tasks0.length : Int)) then
    (some false)
  else
    ((mk (α := Bool) false (tasks0.length : Int)).bind fun m3 =>
    iter (circulation_proper_b1 next0 tasks0 r0) FUEL (m3, 0))
theorem circulation_proper_spec (S : Soup) (w : World) (tasks0 : List Task) (r_tasks0 : GoRep.R (List Task)) (r0 : Rules) (r_r0 : GoRep.R Rules) (next0 : List Int) (r_next0 : GoRep.R (List Int)) (y : Bool) (hM : circulation_proper_m tasks0 r0 next0 = some y) (hS : ∀ k, S k → k < w.heap.size) (h_tasks0 : GoRep.ok S w r_tasks0 tasks0) (h_r0 : GoRep.ok S w r_r0 r0) (h_next0 : GoRep.ok S w r_next0 next0) :
    Calls Try.prog 71 #[.slice r_tasks0.a tasks0.length r_tasks0.cap, .agg #[.int .i64 r0.Turn, .slice r_r0.1.a r0.Empties.length r_r0.1.cap, .slice r_r0.2.a r0.Shops.length r_r0.2.cap, .int .i64 r0.Service, .int .i64 r0.Limit], .slice r_next0.a next0.length r_next0.cap] w (Ret w (.bool y)) := by
  refine calls_cw (args := [_, _, _]) Try.func71 rfl ((pre_nil hS).start |>.immP (α := List Task) (r := r_tasks0) (x := tasks0) h_tasks0|>.immP (α := List EmptyT) (r := r_r0.1) (x := r0.Empties) h_r0.1|>.immP (α := List Int) (r := r_r0.2) (x := r0.Shops) h_r0.2|>.immP (α := List Int) (r := r_next0) (x := next0) h_next0) rfl ?_
  unfold circulation_proper_m at hM
  refine cw_seq fun K1 hK1 => ?_
  refine cw_region ?_
  refine ow_cons (st_box (l := [.int .i64 r0.Turn, .slice r_r0.1.a r0.Empties.length r_r0.1.cap, .slice r_r0.2.a r0.Shops.length r_r0.2.cap, .int .i64 r0.Service, .int .i64 r0.Limit]) (k := fun b1 => ?_))
  refine ow_ev ev_assign ?_
  refine ow_nil (hK1 _ _ ?_); clear hK1
  refine cw_seq fun K2 hK2 => ?_
  refine cw_seq fun K3 hK3 => ?_
  refine cw_region ?_
  refine ow_ev ev_move ?_
  refine ow_ev ev_len ?_
  refine ow_ev ev_move ?_
  refine ow_ev ev_len ?_
  refine ow_ev ev_neq ?_
  refine ow_nil (hK3 _ _ ?_); clear hK3
  refine cw_cond rfl (fun hc2 => ?_) (fun hc2 => ?_)
  ·
    replace hM := (ite_t hc2).symm.trans hM
    refine cw_seq fun K4 hK4 => ?_
    refine cw_region ?_
    refine ow_ev ev_assign ?_
    refine ow_nil (hK4 _ _ ?_); clear hK4
    obtain rfl := some_inj hM
    refine cw_ret (kw_retc1 (fun w hm => ret_of hm rfl))
  ·
    replace hM := (ite_f hc2).symm.trans hM
    refine cw_skip (hK2 _ _ ?_); clear hK2
    refine cw_seq fun K5 hK5 => ?_
    refine cw_region ?_
    refine ow_ev ev_move ?_
    refine ow_ev ev_len ?_
    obtain ⟨m3, hm4, hM⟩ := bind_some hM
    refine ow_cons (st_make (α := Bool) (e := 4) false () hm4 (fun _ _ => trivial) (fun r5 hr5 => ?_))
    refine ow_ev ev_assign ?_
    refine ow_nil (hK5 _ _ ?_); clear hK5
    refine cw_seq fun K6 hK6 => ?_
    refine cw_seq fun K7 hK7 => ?_
    refine cw_region ?_
    refine ow_ev ev_move ?_
    refine ow_have (fun w hm => Kn.len (Kn.imm (α := List Int) (r := r_next0) (x := next0) (by repeat (first | exact Has.head | apply Has.tail))) hm) fun hl6 => ?_
    refine ow_ev ev_len ?_
    refine ow_ev ev_move ?_
    refine ow_nil (hK7 _ _ ?_); clear hK7
    refine cw_block ?_
    refine cw_loop (γ := Nat × ((List Bool) × Nat) × Unit) (env := fun (_, (lused_1, t22_1), _) => [(0, .v (.slice r_tasks0.a tasks0.length r_tasks0.cap)), (4, .v (.pointer (some ⟨b1, 0, none⟩))), (7, .v (.slice r5.a lused_1.length r5.cap)), (20, .v (.slice r_next0.a next0.length r_next0.cap)), (21, .v (.int .i64 (next0.length : Int))), (22, .v (.int .i64 (t22_1 : Int)))]) (mem := fun (_, (lused_1, t22_1), _) => [imm (α := (List Task)) r_tasks0 tasks0, imm (α := (List EmptyT)) r_r0.1 r0.Empties, imm (α := (List Int)) r_r0.2 r0.Shops, own b1 53 [.int .i64 r0.Turn, .slice r_r0.1.a r0.Empties.length r_r0.1.cap, .slice r_r0.2.a r0.Shops.length r_r0.2.cap, .int .i64 r0.Service, .int .i64 r0.Limit], trow 4 r5 lused_1, imm (α := (List Int)) r_next0 next0]) (R := fun g => iter (circulation_proper_b1 next0 tasks0 r0) g.1 g.2.1 = some y) (μ := fun g => g.1) (FUEL, (m3, 0), ()) hM ⟨rfl, rfl, rfl, rfl, rfl, rfl, trivial⟩ (fun w hm => hm.reord) ?_
    clear hM
    intro g hM KL1 hL1
    obtain ⟨nn1, ⟨lused_1, t22_1⟩, ⟨⟩⟩ := g
    dsimp only at hM ⊢
    obtain ⟨nn1, cont1, rfl, hcont1, hM⟩ := iter_open' hM
    dsimp only [circulation_proper_b1] at hM
    refine cw_seq fun K8 hK8 => ?_
    refine cw_region ?_
    refine ow_ev ev_lss ?_
    refine ow_nil (hK8 _ _ ?_); clear hK8
    refine cw_seq fun K9 hK9 => ?_
    refine cw_cond rfl (fun hc7 => ?_) (fun hc7 => ?_)
    ·
      replace hM := (ite_t hc7).symm.trans hM
      have hc7d := of_decide_eq_true hc7
      refine cw_skip (hK9 _ _ ?_); clear hK9
      refine cw_cut (γ := (List Bool) × Unit) (env := fun (lused_j2, _) => [(0, .v (.slice r_tasks0.a tasks0.length r_tasks0.cap)), (4, .v (.pointer (some ⟨b1, 0, none⟩))), (7, .v (.slice r5.a lused_j2.length r5.cap)), (20, .v (.slice r_next0.a next0.length r_next0.cap)), (21, .v (.int .i64 (next0.length : Int))), (22, .v (.int .i64 (t22_1 : Int)))]) (mem := fun (lused_j2, _) => [imm (α := (List Task)) r_tasks0 tasks0, imm (α := (List EmptyT)) r_r0.1 r0.Empties, imm (α := (List Int)) r_r0.2 r0.Shops, own b1 53 [.int .i64 r0.Turn, .slice r_r0.1.a r0.Empties.length r_r0.1.cap, .slice r_r0.2.a r0.Shops.length r_r0.2.cap, .int .i64 r0.Service, .int .i64 r0.Limit], trow 4 r5 lused_j2, imm (α := (List Int)) r_next0 next0]) (R := fun g => circulation_proper_k2 cont1 t22_1 g.1 = some y) ?_ ?_
      · intro KJ2 hJ2
        refine cw_block ?_
        refine cw_seq fun K10 hK10 => ?_
        refine cw_region ?_
        refine ow_ev ev_move ?_
        obtain ⟨x8, hx9, hM⟩ := bind_some hM
        refine ow_ev (ev_idx (xs := next0) 1 (Kn.imm (α := List Int) (r := r_next0) (x := next0) (by repeat (first | exact Has.head | apply Has.tail))) (fun hg => let h := idx_some hx9; ⟨h.1, h.2.1⟩)) ?_
        refine ow_ev (ev_ld (i := (t22_1 : Int)) (xs := next0) (y := x8) 0 (Kn.imm (α := List Int) (r := r_next0) (x := next0) (by repeat (first | exact Has.head | apply Has.tail))) (fun _ => hx9)) ?_
        refine ow_ev ev_assign ?_
        refine ow_ev ev_assign ?_
        refine ow_nil (hK10 _ _ ?_); clear hK10
        refine cw_seq fun K11 hK11 => ?_
        refine cw_seq fun K12 hK12 => ?_
        refine cw_region ?_
        refine ow_ev ev_move ?_
        refine ow_ev ev_eql ?_
        refine ow_nil (hK12 _ _ ?_); clear hK12
        refine cw_cond rfl (fun hc10 => ?_) (fun hc10 => ?_)
        ·
          replace hM := (ite_t hc10).symm.trans hM
          refine cw_exit (hJ2 (lused_1, ()) _ _ hM ⟨rfl, rfl, rfl, rfl, rfl, rfl, trivial⟩ (fun w hm => hm.reord))
        ·
          replace hM := (ite_f hc10).symm.trans hM
          refine cw_skip (hK11 _ _ ?_); clear hK11
          refine cw_seq fun K13 hK13 => ?_
          refine cw_seq fun K14 hK14 => ?_
          refine cw_region ?_
          refine ow_ev ev_move ?_
          refine ow_ev ev_lss ?_
          refine ow_ev ev_move ?_
          refine ow_evg rfl ev_move ?_
          refine ow_evg rfl ev_move ?_
          refine ow_evg rfl ev_len ?_
          refine ow_evg rfl ev_geq ?_
          refine ow_ev ev_or ?_
          refine ow_ev ev_move ?_
          refine ow_evg rfl ev_move ?_
          refine ow_evg rfl ev_move ?_
          obtain ⟨x11, hx12, hM⟩ := bind_some hM
          refine ow_evg rfl (ev_idx (xs := lused_1) 1 (Kn.trow (e := 4) (r := r5) (by repeat (first | exact Has.head | apply Has.tail))) (fun hg => let h := idx_some (whn_some hx12 hg); ⟨h.1, h.2.1⟩)) ?_
          refine ow_evg rfl (ev_ld (i := x8) (xs := lused_1) (y := x11) 0 (Kn.trow (e := 4) (r := r5) (by repeat (first | exact Has.head | apply Has.tail))) (fun hg => whn_some hx12 hg)) ?_
          refine ow_ev ev_or ?_
          refine ow_nil (hK14 _ _ ?_); clear hK14
          refine cw_cond rfl (fun hc13 => ?_) (fun hc13 => ?_)
          ·
            replace hM := (ite_t hc13).symm.trans hM
            refine cw_seq fun K15 hK15 => ?_
            refine cw_region ?_
            refine ow_ev ev_assign ?_
            refine ow_nil (hK15 _ _ ?_); clear hK15
            obtain rfl := some_inj hM
            refine cw_ret (kw_retc1 (fun w hm => ret_of hm rfl))
          ·
            replace hM := (ite_f hc13).symm.trans hM
            refine cw_skip (hK13 _ _ ?_); clear hK13
            refine cw_seq fun K16 hK16 => ?_
            refine cw_seq fun K17 hK17 => ?_
            refine cw_region_any _ (List.Sublist.refl _) ?_
            refine aw_ev 0 rfl (ev_load_all (b := b1)) ?_
            refine aw_ev 1 rfl ev_move ?_
            refine aw_ev 2 rfl ev_move ?_
            obtain ⟨x14, hx15, hM⟩ := bind_some hM
            refine aw_ev 3 rfl (ev_idx (xs := tasks0) 5 (Kn.imm (α := List Task) (r := r_tasks0) (x := tasks0) (by repeat (first | exact Has.head | apply Has.tail))) (fun hg => let h := idx_some hx15; ⟨h.1, h.2.1⟩)) ?_
            refine aw_ev 4 rfl (ev_lds (m := 5) (i := (t22_1 : Int)) (xs := tasks0) (y := x14) (l := [.int .i64 x14.Type_, .int .i64 x14.From, .int .i64 x14.To, .int .i64 x14.Start, .int .i64 x14.End]) 0 (Kn.imm (α := List Task) (r := r_tasks0) (x := tasks0) (by repeat (first | exact Has.head | apply Has.tail))) (fun _ => hx15)) ?_
            refine aw_ev 5 rfl ev_move ?_
            refine aw_ev 6 rfl ev_move ?_
            obtain ⟨x16, hx17, hM⟩ := bind_some hM
            refine aw_ev 7 rfl (ev_idx (xs := tasks0) 5 (Kn.imm (α := List Task) (r := r_tasks0) (x := tasks0) (by repeat (first | exact Has.head | apply Has.tail))) (fun hg => let h := idx_some hx17; ⟨h.1, h.2.1⟩)) ?_
            refine aw_ev 8 rfl (ev_lds (m := 5) (i := x8) (xs := tasks0) (y := x16) (l := [.int .i64 x16.Type_, .int .i64 x16.From, .int .i64 x16.To, .int .i64 x16.Start, .int .i64 x16.End]) 0 (Kn.imm (α := List Task) (r := r_tasks0) (x := tasks0) (by repeat (first | exact Has.head | apply Has.tail))) (fun _ => hx17)) ?_
            obtain ⟨y18, hy19, hM⟩ := bind_some hM
            refine aw_one 9 rfl (st_callv (fun w hm => let ⟨S, hs⟩ := hm; circulation_Follows_spec _ w r0 r_r0 x14 x16 y18 hy19 (lend_lt hs) ⟨(Kn.lend (Kn.imm (α := List EmptyT) (r := r_r0.1) (x := r0.Empties) (by repeat (first | exact Has.head | apply Has.tail))) hs), (Kn.lend (Kn.imm (α := List Int) (r := r_r0.2) (x := r0.Shops) (by repeat (first | exact Has.head | apply Has.tail))) hs)⟩) ⟨fun w hm => hm.sub (by repeat (first | exact List.Sublist.refl _ | apply List.Sublist.cons_cons | apply List.Sublist.cons)), ?_⟩)
            refine aw_ev 10 rfl ev_move ?_
            refine aw_ev 11 rfl (ev_extract (vs := [.int .i64 y18.1, .bool y18.2])) ?_
            refine aw_ev 12 rfl (ev_extract (vs := [.int .i64 y18.1, .bool y18.2])) ?_
            refine aw_ev 13 rfl ev_assign ?_
            refine aw_ev 14 rfl ev_assign ?_
            refine aw_done (hK17 _ _ ?_); clear hK17
            refine cw_seq fun K18 hK18 => ?_
            refine cw_region ?_
            refine ow_ev ev_move ?_
            refine ow_ev ev_not ?_
            refine ow_nil (hK18 _ _ ?_); clear hK18
            refine cw_cond rfl (fun hc20 => ?_) (fun hc20 => ?_)
            ·
              replace hM := (ite_t hc20).symm.trans hM
              refine cw_seq fun K19 hK19 => ?_
              refine cw_region ?_
              refine ow_ev ev_assign ?_
              refine ow_nil (hK19 _ _ ?_); clear hK19
              obtain rfl := some_inj hM
              refine cw_ret (kw_retc1 (fun w hm => ret_of hm rfl))
            ·
              replace hM := (ite_f hc20).symm.trans hM
              refine cw_skip (hK16 _ _ ?_); clear hK16
              refine cw_region ?_
              refine ow_ev ev_move ?_
              refine ow_ev ev_move ?_
              obtain ⟨x21, hx22, hM⟩ := bind_some hM
              refine ow_ev (ev_idx (xs := lused_1) 1 (Kn.trow (e := 4) (r := r5) (by repeat (first | exact Has.head | apply Has.tail))) (fun hg => let h := idx_some hx22; ⟨h.1, h.2.1⟩)) ?_
              refine ow_cons (st_set (r := r5) (i := x8) (xs := lused_1) (u := x21) (vs := [.bool true]) 0 true hx22 rfl (fun _ _ h => h) (by repeat (first | exact Upd.head | apply Upd.tail)) ?_)
              refine ow_nil (hJ2 ((lused_1.set x8.toNat true), ()) _ _ hM ⟨rfl, rfl, (by simp only [List.length_set]; rfl), rfl, rfl, rfl, trivial⟩ (fun w hm => hm.reord))
      ·
        clear hM
        intro g hM
        obtain ⟨lused_j2, ⟨⟩⟩ := g
        dsimp only at hM ⊢
        dsimp only [circulation_proper_k2] at hM
        refine cw_region ?_
        refine ow_ev (ev_add (hr := fun _ => by unfold I64; omega)) ?_
        refine ow_ev ev_move ?_
        refine ow_nil (hL1 (nn1, (lused_j2, t22_1 + 1), ()) _ _ (eqc hcont1 hM) (Nat.lt_succ_self _) ⟨rfl, rfl, rfl, rfl, rfl, rfl, trivial⟩ (fun w hm => hm.reord))
    ·
      replace hM := (ite_f hc7).symm.trans hM
      refine cw_exit (hK6 _ _ ?_); clear hK6
      dsimp only [circulation_proper_k1] at hM
      refine cw_seq fun K20 hK20 => ?_
      refine cw_region ?_
      refine ow_ev ev_assign ?_
      refine ow_nil (hK20 _ _ ?_); clear hK20
      obtain rfl := some_inj hM
      refine cw_ret (kw_retc1 (fun w hm => ret_of hm rfl))

def circulation_Empty_k2 (cont1 : (Int × Nat) → Option (Int × Int)) (t26_1 : Nat) : Int → Option (Int × Int) := fun sum_j2 =>
  cont1 (sum_j2, t26_1 + 1)
def circulation_Empty_k1 (sum_1 : Int) : Unit → Option (Int × Int) := fun _ =>
  some (sum_1, 0)
def circulation_Empty_b1 (next0 : List Int) (tasks0 : List Task) (r0 : Rules) (cont1 : (Int × Nat) → Option (Int × Int)) : (Int × Nat) → Option (Int × Int) := fun (sum_1, t26_1) =>
  if decide ((t26_1 : Int) < (next0.length : Int)) then
    ((idx next0 (t26_1 : Int)).bind fun x9 =>
    if decide (0 ≤ x9) then
      ((idx tasks0 (t26_1 : Int)).bind fun x12 =>
      (idx tasks0 x9).bind fun x14 =>
      (circulation_Follows_m r0 x12 x14).bind fun y16 =>
      chk (i64b (sum_1 + y16.1)) <|
      circulation_Empty_k2 cont1 t26_1 (sum_1 + y16.1))
    else
      (circulation_Empty_k2 cont1 t26_1 sum_1))
  else
    (circulation_Empty_k1 sum_1 ())
def circulation_Empty_m (tasks0 : List Task) (r0 : Rules) (next0 : List Int) : Option (Int × Int) :=
  (circulation_Check_m tasks0 r0).bind fun y2 =>
  (whn (!(!y2)) default (circulation_proper_m tasks0 r0 next0)).bind fun y4 =>
  if ((!y2) || (!y4)) then
    (some (0, 1))
  else
    (iter (circulation_Empty_b1 next0 tasks0 r0) FUEL (0, 0))
theorem circulation_Empty_spec (S : Soup) (w : World) (tasks0 : List Task) (r_tasks0 : GoRep.R (List Task)) (r0 : Rules) (r_r0 : GoRep.R Rules) (next0 : List Int) (r_next0 : GoRep.R (List Int)) (y : Int × Int) (hM : circulation_Empty_m tasks0 r0 next0 = some y) (hS : ∀ k, S k → k < w.heap.size) (h_tasks0 : GoRep.ok S w r_tasks0 tasks0) (h_r0 : GoRep.ok S w r_r0 r0) (h_next0 : GoRep.ok S w r_next0 next0) :
    Calls Try.prog 48 #[.slice r_tasks0.a tasks0.length r_tasks0.cap, .agg #[.int .i64 r0.Turn, .slice r_r0.1.a r0.Empties.length r_r0.1.cap, .slice r_r0.2.a r0.Shops.length r_r0.2.cap, .int .i64 r0.Service, .int .i64 r0.Limit], .slice r_next0.a next0.length r_next0.cap] w (Ret w (.tuple #[.int .i64 y.1, .int .i64 y.2])) := by
  refine calls_cw (args := [_, _, _]) Try.func48 rfl ((pre_nil hS).start |>.immP (α := List Task) (r := r_tasks0) (x := tasks0) h_tasks0|>.immP (α := List EmptyT) (r := r_r0.1) (x := r0.Empties) h_r0.1|>.immP (α := List Int) (r := r_r0.2) (x := r0.Shops) h_r0.2|>.immP (α := List Int) (r := r_next0) (x := next0) h_next0) rfl ?_
  unfold circulation_Empty_m at hM
  refine cw_seq fun K1 hK1 => ?_
  refine cw_region ?_
  refine ow_cons (st_box (l := [.int .i64 r0.Turn, .slice r_r0.1.a r0.Empties.length r_r0.1.cap, .slice r_r0.2.a r0.Shops.length r_r0.2.cap, .int .i64 r0.Service, .int .i64 r0.Limit]) (k := fun b1 => ?_))
  refine ow_ev ev_assign ?_
  refine ow_ev ev_assign ?_
  refine ow_nil (hK1 _ _ ?_); clear hK1
  refine cw_seq fun K2 hK2 => ?_
  refine cw_seq fun K3 hK3 => ?_
  refine cw_region ?_
  refine ow_ev ev_move ?_
  refine ow_ev (ev_load_all (b := b1)) ?_
  obtain ⟨y2, hy3, hM⟩ := bind_some hM
  refine ow_cons (st_callv (fun w hm => let ⟨S, hs⟩ := hm; circulation_Check_spec _ w tasks0 r_tasks0 r0 r_r0 y2 hy3 (lend_lt hs) (Kn.lend (Kn.imm (α := List Task) (r := r_tasks0) (x := tasks0) (by repeat (first | exact Has.head | apply Has.tail))) hs) ⟨(Kn.lend (Kn.imm (α := List EmptyT) (r := r_r0.1) (x := r0.Empties) (by repeat (first | exact Has.head | apply Has.tail))) hs), (Kn.lend (Kn.imm (α := List Int) (r := r_r0.2) (x := r0.Shops) (by repeat (first | exact Has.head | apply Has.tail))) hs)⟩) ?_)
  refine ow_ev ev_not ?_
  refine ow_ev ev_move ?_
  refine ow_evg rfl ev_move ?_
  refine ow_evg rfl (ev_load_all (b := b1)) ?_
  refine ow_evg rfl ev_move ?_
  obtain ⟨y4, hy5, hM⟩ := bind_some hM
  refine ow_callg rfl (fun hg w hm => let ⟨S, hs⟩ := hm; circulation_proper_spec _ w tasks0 r_tasks0 r0 r_r0 next0 r_next0 y4 (whn_some hy5 hg) (lend_lt hs) (Kn.lend (Kn.imm (α := List Task) (r := r_tasks0) (x := tasks0) (by repeat (first | exact Has.head | apply Has.tail))) hs) ⟨(Kn.lend (Kn.imm (α := List EmptyT) (r := r_r0.1) (x := r0.Empties) (by repeat (first | exact Has.head | apply Has.tail))) hs), (Kn.lend (Kn.imm (α := List Int) (r := r_r0.2) (x := r0.Shops) (by repeat (first | exact Has.head | apply Has.tail))) hs)⟩ (Kn.lend (Kn.imm (α := List Int) (r := r_next0) (x := next0) (by repeat (first | exact Has.head | apply Has.tail))) hs)) ?_
  refine ow_evg rfl ev_not ?_
  refine ow_ev ev_or ?_
  refine ow_nil (hK3 _ _ ?_); clear hK3
  refine cw_cond rfl (fun hc6 => ?_) (fun hc6 => ?_)
  ·
    replace hM := (ite_t hc6).symm.trans hM
    refine cw_seq fun K4 hK4 => ?_
    refine cw_region ?_
    refine ow_ev ev_assign ?_
    refine ow_ev ev_assign ?_
    refine ow_nil (hK4 _ _ ?_); clear hK4
    obtain rfl := some_inj hM
    refine cw_ret (kw_retc2 (fun w hm => ret_of hm rfl))
  ·
    replace hM := (ite_f hc6).symm.trans hM
    refine cw_skip (hK2 _ _ ?_); clear hK2
    refine cw_seq fun K5 hK5 => ?_
    refine cw_region ?_
    refine ow_ev ev_assign ?_
    refine ow_nil (hK5 _ _ ?_); clear hK5
    refine cw_seq fun K6 hK6 => ?_
    refine cw_seq fun K7 hK7 => ?_
    refine cw_region ?_
    refine ow_ev ev_move ?_
    refine ow_have (fun w hm => Kn.len (Kn.imm (α := List Int) (r := r_next0) (x := next0) (by repeat (first | exact Has.head | apply Has.tail))) hm) fun hl7 => ?_
    refine ow_ev ev_len ?_
    refine ow_ev ev_move ?_
    refine ow_nil (hK7 _ _ ?_); clear hK7
    refine cw_block ?_
    refine cw_loop (γ := Nat × (Int × Nat) × Unit) (env := fun (_, (sum_1, t26_1), _) => [(0, .v (.slice r_tasks0.a tasks0.length r_tasks0.cap)), (4, .v (.pointer (some ⟨b1, 0, none⟩))), (8, .v (.int .i64 sum_1)), (24, .v (.slice r_next0.a next0.length r_next0.cap)), (25, .v (.int .i64 (next0.length : Int))), (26, .v (.int .i64 (t26_1 : Int)))]) (mem := fun (_, (sum_1, t26_1), _) => [imm (α := (List Task)) r_tasks0 tasks0, imm (α := (List EmptyT)) r_r0.1 r0.Empties, imm (α := (List Int)) r_r0.2 r0.Shops, own b1 53 [.int .i64 r0.Turn, .slice r_r0.1.a r0.Empties.length r_r0.1.cap, .slice r_r0.2.a r0.Shops.length r_r0.2.cap, .int .i64 r0.Service, .int .i64 r0.Limit], imm (α := (List Int)) r_next0 next0]) (R := fun g => iter (circulation_Empty_b1 next0 tasks0 r0) g.1 g.2.1 = some y) (μ := fun g => g.1) (FUEL, (0, 0), ()) hM ⟨rfl, rfl, rfl, rfl, rfl, rfl, trivial⟩ (fun w hm => hm.reord) ?_
    clear hM
    intro g hM KL1 hL1
    obtain ⟨nn1, ⟨sum_1, t26_1⟩, ⟨⟩⟩ := g
    dsimp only at hM ⊢
    obtain ⟨nn1, cont1, rfl, hcont1, hM⟩ := iter_open' hM
    dsimp only [circulation_Empty_b1] at hM
    refine cw_seq fun K8 hK8 => ?_
    refine cw_region ?_
    refine ow_ev ev_lss ?_
    refine ow_nil (hK8 _ _ ?_); clear hK8
    refine cw_seq fun K9 hK9 => ?_
    refine cw_cond rfl (fun hc8 => ?_) (fun hc8 => ?_)
    ·
      replace hM := (ite_t hc8).symm.trans hM
      have hc8d := of_decide_eq_true hc8
      refine cw_skip (hK9 _ _ ?_); clear hK9
      refine cw_cut (γ := Int × Unit) (env := fun (sum_j2, _) => [(0, .v (.slice r_tasks0.a tasks0.length r_tasks0.cap)), (4, .v (.pointer (some ⟨b1, 0, none⟩))), (8, .v (.int .i64 sum_j2)), (24, .v (.slice r_next0.a next0.length r_next0.cap)), (25, .v (.int .i64 (next0.length : Int))), (26, .v (.int .i64 (t26_1 : Int)))]) (mem := fun (sum_j2, _) => [imm (α := (List Task)) r_tasks0 tasks0, imm (α := (List EmptyT)) r_r0.1 r0.Empties, imm (α := (List Int)) r_r0.2 r0.Shops, own b1 53 [.int .i64 r0.Turn, .slice r_r0.1.a r0.Empties.length r_r0.1.cap, .slice r_r0.2.a r0.Shops.length r_r0.2.cap, .int .i64 r0.Service, .int .i64 r0.Limit], imm (α := (List Int)) r_next0 next0]) (R := fun g => circulation_Empty_k2 cont1 t26_1 g.1 = some y) ?_ ?_
      · intro KJ2 hJ2
        refine cw_block ?_
        refine cw_seq fun K10 hK10 => ?_
        refine cw_region ?_
        refine ow_ev ev_move ?_
        obtain ⟨x9, hx10, hM⟩ := bind_some hM
        refine ow_ev (ev_idx (xs := next0) 1 (Kn.imm (α := List Int) (r := r_next0) (x := next0) (by repeat (first | exact Has.head | apply Has.tail))) (fun hg => let h := idx_some hx10; ⟨h.1, h.2.1⟩)) ?_
        refine ow_ev (ev_ld (i := (t26_1 : Int)) (xs := next0) (y := x9) 0 (Kn.imm (α := List Int) (r := r_next0) (x := next0) (by repeat (first | exact Has.head | apply Has.tail))) (fun _ => hx10)) ?_
        refine ow_ev ev_assign ?_
        refine ow_ev ev_assign ?_
        refine ow_nil (hK10 _ _ ?_); clear hK10
        refine cw_seq fun K11 hK11 => ?_
        refine cw_region ?_
        refine ow_ev ev_move ?_
        refine ow_ev ev_geq ?_
        refine ow_nil (hK11 _ _ ?_); clear hK11
        refine cw_cond rfl (fun hc11 => ?_) (fun hc11 => ?_)
        ·
          replace hM := (ite_t hc11).symm.trans hM
          refine cw_seq fun K12 hK12 => ?_
          refine cw_region_any _ (List.Sublist.refl _) ?_
          refine aw_ev 0 rfl (ev_load_all (b := b1)) ?_
          refine aw_ev 1 rfl ev_move ?_
          refine aw_ev 2 rfl ev_move ?_
          obtain ⟨x12, hx13, hM⟩ := bind_some hM
          refine aw_ev 3 rfl (ev_idx (xs := tasks0) 5 (Kn.imm (α := List Task) (r := r_tasks0) (x := tasks0) (by repeat (first | exact Has.head | apply Has.tail))) (fun hg => let h := idx_some hx13; ⟨h.1, h.2.1⟩)) ?_
          refine aw_ev 4 rfl (ev_lds (m := 5) (i := (t26_1 : Int)) (xs := tasks0) (y := x12) (l := [.int .i64 x12.Type_, .int .i64 x12.From, .int .i64 x12.To, .int .i64 x12.Start, .int .i64 x12.End]) 0 (Kn.imm (α := List Task) (r := r_tasks0) (x := tasks0) (by repeat (first | exact Has.head | apply Has.tail))) (fun _ => hx13)) ?_
          refine aw_ev 5 rfl ev_move ?_
          refine aw_ev 6 rfl ev_move ?_
          obtain ⟨x14, hx15, hM⟩ := bind_some hM
          refine aw_ev 7 rfl (ev_idx (xs := tasks0) 5 (Kn.imm (α := List Task) (r := r_tasks0) (x := tasks0) (by repeat (first | exact Has.head | apply Has.tail))) (fun hg => let h := idx_some hx15; ⟨h.1, h.2.1⟩)) ?_
          refine aw_ev 8 rfl (ev_lds (m := 5) (i := x9) (xs := tasks0) (y := x14) (l := [.int .i64 x14.Type_, .int .i64 x14.From, .int .i64 x14.To, .int .i64 x14.Start, .int .i64 x14.End]) 0 (Kn.imm (α := List Task) (r := r_tasks0) (x := tasks0) (by repeat (first | exact Has.head | apply Has.tail))) (fun _ => hx15)) ?_
          obtain ⟨y16, hy17, hM⟩ := bind_some hM
          refine aw_one 9 rfl (st_callv (fun w hm => let ⟨S, hs⟩ := hm; circulation_Follows_spec _ w r0 r_r0 x12 x14 y16 hy17 (lend_lt hs) ⟨(Kn.lend (Kn.imm (α := List EmptyT) (r := r_r0.1) (x := r0.Empties) (by repeat (first | exact Has.head | apply Has.tail))) hs), (Kn.lend (Kn.imm (α := List Int) (r := r_r0.2) (x := r0.Shops) (by repeat (first | exact Has.head | apply Has.tail))) hs)⟩) ⟨fun w hm => hm.sub (by repeat (first | exact List.Sublist.refl _ | apply List.Sublist.cons_cons | apply List.Sublist.cons)), ?_⟩)
          refine aw_ev 10 rfl ev_move ?_
          refine aw_ev 11 rfl (ev_extract (vs := [.int .i64 y16.1, .bool y16.2])) ?_
          refine aw_ev 12 rfl (ev_extract (vs := [.int .i64 y16.1, .bool y16.2])) ?_
          refine aw_ev 13 rfl ev_assign ?_
          refine aw_ev 14 rfl ev_assign ?_
          refine aw_done (hK12 _ _ ?_); clear hK12
          refine cw_region ?_
          refine ow_ev ev_move ?_
          refine ow_ev ev_move ?_
          obtain ⟨hI18, hM⟩ := chk_some hM
          refine ow_ev (ev_add (hr := fun hg => i64b_I64 hI18)) ?_
          refine ow_ev ev_assign ?_
          refine ow_nil (hJ2 ((sum_1 + y16.1), ()) _ _ hM ⟨rfl, rfl, rfl, rfl, rfl, rfl, trivial⟩ (fun w hm => hm.reord))
        ·
          replace hM := (ite_f hc11).symm.trans hM
          refine cw_skip (hJ2 (sum_1, ()) _ _ hM ⟨rfl, rfl, rfl, rfl, rfl, rfl, trivial⟩ (fun w hm => hm.reord))
      ·
        clear hM
        intro g hM
        obtain ⟨sum_j2, ⟨⟩⟩ := g
        dsimp only at hM ⊢
        dsimp only [circulation_Empty_k2] at hM
        refine cw_region ?_
        refine ow_ev (ev_add (hr := fun _ => by unfold I64; omega)) ?_
        refine ow_ev ev_move ?_
        refine ow_nil (hL1 (nn1, (sum_j2, t26_1 + 1), ()) _ _ (eqc hcont1 hM) (Nat.lt_succ_self _) ⟨rfl, rfl, rfl, rfl, rfl, rfl, trivial⟩ (fun w hm => hm.reord))
    ·
      replace hM := (ite_f hc8).symm.trans hM
      refine cw_exit (hK6 _ _ ?_); clear hK6
      dsimp only [circulation_Empty_k1] at hM
      refine cw_seq fun K13 hK13 => ?_
      refine cw_region ?_
      refine ow_ev ev_move ?_
      refine ow_ev ev_assign ?_
      refine ow_ev ev_assign ?_
      refine ow_nil (hK13 _ _ ?_); clear hK13
      obtain rfl := some_inj hM
      refine cw_ret (kw_retc2 (fun w hm => ret_of hm rfl))

end Go.Proofs.Ytedocibniankjaa
