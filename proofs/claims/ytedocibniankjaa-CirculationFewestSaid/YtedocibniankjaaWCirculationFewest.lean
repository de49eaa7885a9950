/- Models of functions, and that the code computes them. -/
import Derived.Test.YtedocibniankjaaCr
namespace Go.Proofs.Ytedocibniankjaa
open Go.Dc Go.RowKit
set_option maxRecDepth 10000
set_option linter.unusedVariables false
def law28_CirculationFewest_k6 (i_4 : Nat) (cont4 : (Int × Int × Bool × Nat) → Option Bool) : (Int × Int × Bool) → Option Bool := fun (n_j6, from_j6, good_j6) =>
  chk (i64b ((i_4 : Int) + 1)) <|
  cont4 (n_j6, from_j6, good_j6, i_4 + 1)
def law28_CirculationFewest_k4 (cuts_3 : Nat) (cont3 : Nat → Option Bool) : Unit → Option Bool := fun _ =>
  chk (i64b ((cuts_3 : Int) + 1)) <|
  cont3 (cuts_3 + 1)
def law28_CirculationFewest_k5 (good_4 : Bool) (x18 : List Int) (from_4 : Int) (y1 : (List Task) × Rules) (y5 : Int) (n_4 : Int) (y20 : (List (List Int)) × Int) (cuts_3 : Nat) (cont3 : Nat → Option Bool) : Unit → Option Bool := fun _ =>
  if good_4 then
  ((sub x18 from_4 (x18.length : Int)).bind fun l48 =>
  (ref24_Permissible_m y1.1 (Rules.mk y1.2.Turn y1.2.Empties y1.2.Shops y1.2.Service (31 + y5)) l48).bind fun y51 =>
  if ((good_4 && y51) && decide (n_4 < (y20.1.length : Int))) then
    (some false)
  else
    (law28_CirculationFewest_k4 cuts_3 cont3 ()))
  else
  (if (false && decide (n_4 < (y20.1.length : Int))) then
    (some false)
  else
    (law28_CirculationFewest_k4 cuts_3 cont3 ()))
def law28_CirculationFewest_b4 (x18 : List Int) (cuts_3 : Nat) (y1 : (List Task) × Rules) (y5 : Int) (y20 : (List (List Int)) × Int) (cont3 : Nat → Option Bool) (cont4 : (Int × Int × Bool × Nat) → Option Bool) : (Int × Int × Bool × Nat) → Option Bool := fun (n_4, from_4, good_4, i_4) =>
  if decide ((i_4 : Int) < (x18.length : Int)) then
    (chk (i64b ((i_4 : Int) - 1)) <|
    chk (decide (0 ≤ ((i_4 : Int) - 1))) <|
    if decide ((bitsAnd .i64 (shrI .i64 (cuts_3 : Int) ((i_4 : Int) - 1)) 1) = 1) then
      (if good_4 then
      ((sub x18 from_4 (i_4 : Int)).bind fun l40 =>
      (ref24_Permissible_m y1.1 (Rules.mk y1.2.Turn y1.2.Empties y1.2.Shops y1.2.Service (31 + y5)) l40).bind fun y43 =>
      chk (i64b (n_4 + 1)) <|
      law28_CirculationFewest_k6 i_4 cont4 ((n_4 + 1), (i_4 : Int), (good_4 && y43)))
      else
      (chk (i64b (n_4 + 1)) <|
      law28_CirculationFewest_k6 i_4 cont4 ((n_4 + 1), (i_4 : Int), false)))
    else
      (law28_CirculationFewest_k6 i_4 cont4 (n_4, from_4, good_4)))
  else
    (law28_CirculationFewest_k5 good_4 x18 from_4 y1 y5 n_4 y20 cuts_3 cont3 ())
def law28_CirculationFewest_k2 (cont1 : Nat → Option Bool) (t55_1 : Nat) : Unit → Option Bool := fun _ =>
  cont1 (t55_1 + 1)
def law28_CirculationFewest_b3 (x18 : List Int) (y1 : (List Task) × Rules) (y5 : Int) (y20 : (List (List Int)) × Int) (cont1 : Nat → Option Bool) (t55_1 : Nat) (cont3 : Nat → Option Bool) : Nat → Option Bool := fun cuts_3 =>
  chk (i64b ((x18.length : Int) - 1)) <|
  chk (decide (0 ≤ ((x18.length : Int) - 1))) <|
  if decide ((cuts_3 : Int) < (shlI .i64 1 ((x18.length : Int) - 1))) then
    (iter (law28_CirculationFewest_b4 x18 cuts_3 y1 y5 y20 cont3) FUEL (1, 0, true, 1))
  else
    (law28_CirculationFewest_k2 cont1 t55_1 ())
def law28_CirculationFewest_k3 (x18 : List Int) (y1 : (List Task) × Rules) (y5 : Int) (y20 : (List (List Int)) × Int) (cont1 : Nat → Option Bool) (t55_1 : Nat) : Unit → Option Bool := fun _ =>
  iter (law28_CirculationFewest_b3 x18 y1 y5 y20 cont1 t55_1) FUEL 0
def law28_CirculationFewest_b2 (y20 : (List (List Int)) × Int) (y1 : (List Task) × Rules) (y5 : Int) (x18 : List Int) (cont1 : Nat → Option Bool) (t55_1 : Nat) (cont2 : Nat → Option Bool) : Nat → Option Bool := fun t70_2 =>
  if decide ((t70_2 : Int) < (y20.1.length : Int)) then
    ((idx y20.1 (t70_2 : Int)).bind fun x26 =>
    (whn (!(decide ((x26.length : Int) = 0))) default (ref24_Permissible_m y1.1 (Rules.mk y1.2.Turn y1.2.Empties y1.2.Shops y1.2.Service (31 + y5)) x26)).bind fun y28 =>
    if (decide ((x26.length : Int) = 0) || (!y28)) then
      (some false)
    else
      (cont2 (t70_2 + 1)))
  else
    (law28_CirculationFewest_k3 x18 y1 y5 y20 cont1 t55_1 ())
def law28_CirculationFewest_k1 : Unit → Option Bool := fun _ =>
  (law28_awake_m).bind fun y57 =>
  some y57
def law28_CirculationFewest_b1 (y12 : (List (List Int)) × Int) (y1 : (List Task) × Rules) (y5 : Int) (cont1 : Nat → Option Bool) : Nat → Option Bool := fun t55_1 =>
  if decide ((t55_1 : Int) < (y12.1.length : Int)) then
    ((idx y12.1 (t55_1 : Int)).bind fun x18 =>
    (circulation_Split_m y1.1 (Rules.mk y1.2.Turn y1.2.Empties y1.2.Shops y1.2.Service (31 + y5)) x18).bind fun y20 =>
    if decide (y20.2 ≠ 0) then
      (some false)
    else
      (iter (law28_CirculationFewest_b2 y20 y1 y5 x18 cont1 t55_1) FUEL 0))
  else
    (law28_CirculationFewest_k1 ())
def law28_CirculationFewest_m (l0 : List Int) (limit0 : Int) : Option Bool :=
  (keep2_Tasks_m l0).bind fun y1 =>
  (keep_Pick_m limit0 60).bind fun y5 =>
  chk (i64b (31 + y5)) <|
  (circulation_Build_m y1.1 (Rules.mk y1.2.Turn y1.2.Empties y1.2.Shops y1.2.Service (31 + y5))).bind fun y8 =>
  (ref24_Chains_m y8.1).bind fun y12 =>
  if (decide (y12.2 ≠ 0) || decide ((y8.1.length : Int) ≠ (y1.1.length : Int))) then
    (some false)
  else
    (iter (law28_CirculationFewest_b1 y12 y1 y5) FUEL 0)
theorem law28_CirculationFewest_spec (S : Soup) (w : World) (l0 : List Int) (r_l0 : GoRep.R (List Int)) (limit0 : Int) (y : Bool) (hM : law28_CirculationFewest_m l0 limit0 = some y) (hS : ∀ k, S k → k < w.heap.size) (h_l0 : GoRep.ok S w r_l0 l0) :
    Calls Try.prog 17 #[.slice r_l0.a l0.length r_l0.cap, .int .i64 limit0] w (Ret w (.bool y)) := by
  refine calls_cw (args := [_, _]) Try.func17 rfl ((pre_nil hS).start |>.immP (α := List Int) (r := r_l0) (x := l0) h_l0) rfl ?_
  unfold law28_CirculationFewest_m at hM
  refine cw_seq fun K1 hK1 => ?_
  refine cw_region ?_
  refine ow_ev ev_assign ?_
  refine ow_nil (hK1 _ _ ?_); clear hK1
  refine cw_seq fun K2 hK2 => ?_
  refine cw_region ?_
  refine ow_ev ev_move ?_
  obtain ⟨y1, hy2, hM⟩ := bind_some hM
  refine ow_cons (st_callF SelL.nil (fun S w hs hP => keep2_Tasks_spec _ w l0 r_l0 y1 hy2 (lend_lt hs) (Kn.lend (Kn.imm (α := List Int) (r := r_l0) (x := l0) (by repeat (first | exact Has.head | apply Has.tail))) hs)) (by intro r c hc; simp only [List.mem_cons, List.not_mem_nil, or_false] at hc; rcases hc with rfl | rfl | rfl <;> first | exact flatC_own | exact flatC_trow (fun _ _ _ _ => trivial)) (fun r3 => ?_))
  dsimp only [List.cons_append, List.nil_append]
  refine ow_ev ev_move ?_
  refine ow_ev (ev_extract (vs := [.slice r3.1.a y1.1.length r3.1.cap, .agg #[.int .i64 y1.2.Turn, .slice r3.2.1.a y1.2.Empties.length r3.2.1.cap, .slice r3.2.2.a y1.2.Shops.length r3.2.2.cap, .int .i64 y1.2.Service, .int .i64 y1.2.Limit]])) ?_
  refine ow_ev (ev_extract (vs := [.slice r3.1.a y1.1.length r3.1.cap, .agg #[.int .i64 y1.2.Turn, .slice r3.2.1.a y1.2.Empties.length r3.2.1.cap, .slice r3.2.2.a y1.2.Shops.length r3.2.2.cap, .int .i64 y1.2.Service, .int .i64 y1.2.Limit]])) ?_
  refine ow_cons (st_alloc rfl (k := fun b4 => ?_))
  refine ow_ev ev_assign ?_
  refine ow_cons (st_store_all (b := b4) (vs := [.int .i64 y1.2.Turn, .slice r3.2.1.a y1.2.Empties.length r3.2.1.cap, .slice r3.2.2.a y1.2.Shops.length r3.2.2.cap, .int .i64 y1.2.Service, .int .i64 y1.2.Limit]) (k := ?_))
  refine ow_nil (hK2 _ _ ?_); clear hK2
  refine cw_seq fun K3 hK3 => ?_
  refine cw_region ?_
  refine ow_ev ev_move ?_
  obtain ⟨y5, hy6, hM⟩ := bind_some hM
  refine ow_cons (st_callv (fun w hm => let ⟨S, hs⟩ := hm; keep_Pick_spec _ w limit0 60 y5 hy6 (lend_lt hs) ) ?_)
  obtain ⟨hI7, hM⟩ := chk_some hM
  refine ow_ev (ev_add (hr := fun hg => i64b_I64 hI7)) ?_
  refine ow_ev (ev_field_addr 4) ?_
  refine ow_cons (st_store_own (b := b4) (l' := [.int .i64 y1.2.Turn, .slice r3.2.1.a y1.2.Empties.length r3.2.1.cap, .slice r3.2.2.a y1.2.Shops.length r3.2.2.cap, .int .i64 y1.2.Service, .int .i64 (31 + y5)]) (k := ?_))
  refine ow_nil (hK3 _ _ ?_); clear hK3
  refine cw_seq fun K4 hK4 => ?_
  refine cw_region ?_
  refine ow_ev ev_move ?_
  refine ow_ev (ev_load_all (b := b4)) ?_
  obtain ⟨y8, hy9, hM⟩ := bind_some hM
  refine ow_cons (st_callF SelL.nil (fun S w hs hP => circulation_Build_spec _ w y1.1 r3.1 (Rules.mk y1.2.Turn y1.2.Empties y1.2.Shops y1.2.Service (31 + y5)) r3.2 y8 hy9 (lend_lt hs) (Kn.lend (Kn.trow (e := 60) (r := r3.1) (by repeat (first | exact Has.head | apply Has.tail))) hs) ⟨(Kn.lend (Kn.trow (e := 58) (r := r3.2.1) (by repeat (first | exact Has.head | apply Has.tail))) hs), (Kn.lend (Kn.trow (e := 3) (r := r3.2.2) (by repeat (first | exact Has.head | apply Has.tail))) hs)⟩) (by intro r c hc; simp only [List.mem_cons, List.not_mem_nil, or_false] at hc; rcases hc with rfl | rfl | rfl <;> first | exact flatC_own | exact flatC_trow (fun _ _ _ _ => trivial)) (fun r10 => ?_))
  dsimp only [List.cons_append, List.nil_append]
  refine ow_ev ev_move ?_
  refine ow_ev (ev_extract (vs := [.slice r10.1.a y8.1.length r10.1.cap, .agg #[.slice r10.2.1.a y8.2.1.Left.length r10.2.1.cap, .slice r10.2.2.a y8.2.1.Right.length r10.2.2.cap], .int .i64 y8.2.2])) ?_
  refine ow_ev (ev_extract (vs := [.slice r10.1.a y8.1.length r10.1.cap, .agg #[.slice r10.2.1.a y8.2.1.Left.length r10.2.1.cap, .slice r10.2.2.a y8.2.1.Right.length r10.2.2.cap], .int .i64 y8.2.2])) ?_
  refine ow_ev (ev_extract (vs := [.slice r10.1.a y8.1.length r10.1.cap, .agg #[.slice r10.2.1.a y8.2.1.Left.length r10.2.1.cap, .slice r10.2.2.a y8.2.1.Right.length r10.2.2.cap], .int .i64 y8.2.2])) ?_
  refine ow_cons (st_alloc rfl (k := fun b11 => ?_))
  refine ow_ev ev_assign ?_
  refine ow_cons (st_store_all (b := b11) (vs := [.slice r10.2.1.a y8.2.1.Left.length r10.2.1.cap, .slice r10.2.2.a y8.2.1.Right.length r10.2.2.cap]) (k := ?_))
  refine ow_ev ev_assign ?_
  refine ow_nil (hK4 _ _ ?_); clear hK4
  refine cw_seq fun K5 hK5 => ?_
  refine cw_region ?_
  refine ow_ev ev_move ?_
  refine ow_imp (fun w hm => hm.freeze (r := r10.1) (by repeat (first | exact Upd.head | apply Upd.tail))) ?_
  obtain ⟨y12, hy13, hM⟩ := bind_some hM
  refine ow_cons (st_callS SelL.nil (fun S w hs hP => ref24_Chains_spec _ w y8.1 r10.1 y12 hy13 hs.lt ((Sk.imm (α := List Int) (r := r10.1) (x := y8.1) (by repeat (first | exact Has.head | apply Has.tail))) S w hs))  (fun r14 => ?_))
  dsimp only [List.cons_append, List.nil_append]
  refine ow_ev ev_move ?_
  refine ow_ev (ev_extract (vs := [.slice r14.a y12.1.length r14.cap, .int .i64 y12.2])) ?_
  refine ow_ev (ev_extract (vs := [.slice r14.a y12.1.length r14.cap, .int .i64 y12.2])) ?_
  refine ow_ev ev_assign ?_
  refine ow_ev ev_assign ?_
  refine ow_nil (hK5 _ _ ?_); clear hK5
  refine cw_seq fun K6 hK6 => ?_
  refine cw_seq fun K7 hK7 => ?_
  refine cw_region ?_
  refine ow_ev ev_move ?_
  refine ow_ev ev_neq ?_
  refine ow_ev ev_move ?_
  refine ow_evg rfl ev_move ?_
  refine ow_evg rfl ev_len ?_
  refine ow_evg rfl ev_move ?_
  refine ow_evg rfl ev_len ?_
  refine ow_evg rfl ev_neq ?_
  refine ow_ev ev_or ?_
  refine ow_nil (hK7 _ _ ?_); clear hK7
  refine cw_cond rfl (fun hc15 => ?_) (fun hc15 => ?_)
  ·
    replace hM := (ite_t hc15).symm.trans hM
    refine cw_seq fun K8 hK8 => ?_
    refine cw_region ?_
    refine ow_ev ev_assign ?_
    refine ow_nil (hK8 _ _ ?_); clear hK8
    obtain rfl := some_inj hM
    refine cw_ret (kw_retc1 (fun w hm => ret_of hm rfl))
  ·
    replace hM := (ite_f hc15).symm.trans hM
    refine cw_skip (hK6 _ _ ?_); clear hK6
    refine cw_seq fun K9 hK9 => ?_
    refine cw_seq fun K10 hK10 => ?_
    refine cw_region ?_
    refine ow_ev ev_move ?_
    refine ow_have (fun w hm => Kn.len (Kn.trow (e := 22) (r := r14) (by repeat (first | exact Has.head | apply Has.tail))) hm) fun hl16 => ?_
    refine ow_ev ev_len ?_
    refine ow_ev ev_move ?_
    refine ow_nil (hK10 _ _ ?_); clear hK10
    refine cw_block ?_
    refine cw_imp (fun w hm => hm.freeze (r := r3.1) (by repeat (first | exact Upd.head | apply Upd.tail))) ?_
    refine cw_imp (fun w hm => hm.freeze (r := r3.2.1) (by repeat (first | exact Upd.head | apply Upd.tail))) ?_
    refine cw_imp (fun w hm => hm.freeze (r := r3.2.2) (by repeat (first | exact Upd.head | apply Upd.tail))) ?_
    refine cw_loop (γ := Nat × Nat × Unit) (env := fun (_, t55_1, _) => [(5, .v (.slice r3.1.a y1.1.length r3.1.cap)), (6, .v (.pointer (some ⟨b4, 0, none⟩))), (53, .v (.slice r14.a y12.1.length r14.cap)), (54, .v (.int .i64 (y12.1.length : Int))), (55, .v (.int .i64 (t55_1 : Int)))]) (mem := fun (_, t55_1, _) => [imm (α := (List Task)) r3.1 y1.1, imm (α := (List EmptyT)) r3.2.1 y1.2.Empties, imm (α := (List Int)) r3.2.2 y1.2.Shops, own b4 53 [.int .i64 y1.2.Turn, .slice r3.2.1.a y1.2.Empties.length r3.2.1.cap, .slice r3.2.2.a y1.2.Shops.length r3.2.2.cap, .int .i64 y1.2.Service, .int .i64 (31 + y5)], trow 22 r14 y12.1]) (R := fun g => iter (law28_CirculationFewest_b1 y12 y1 y5) g.1 g.2.1 = some y) (μ := fun g => g.1) (FUEL, 0, ()) hM ⟨rfl, rfl, rfl, rfl, rfl, trivial⟩ (fun w hm => hm.reord) ?_
    clear hM
    intro g hM KL1 hL1
    obtain ⟨nn1, t55_1, ⟨⟩⟩ := g
    dsimp only at hM ⊢
    obtain ⟨nn1, cont1, rfl, hcont1, hM⟩ := iter_open' hM
    dsimp only [law28_CirculationFewest_b1] at hM
    refine cw_seq fun K11 hK11 => ?_
    refine cw_region ?_
    refine ow_ev ev_lss ?_
    refine ow_nil (hK11 _ _ ?_); clear hK11
    refine cw_seq fun K12 hK12 => ?_
    refine cw_cond rfl (fun hc17 => ?_) (fun hc17 => ?_)
    ·
      replace hM := (ite_t hc17).symm.trans hM
      have hc17d := of_decide_eq_true hc17
      refine cw_skip (hK12 _ _ ?_); clear hK12
      refine cw_seq fun K13 hK13 => ?_
      refine cw_block ?_
      refine cw_seq fun K14 hK14 => ?_
      refine cw_region ?_
      obtain ⟨x18, hx19, hM⟩ := bind_some hM
      refine ow_ev (ev_idx (xs := y12.1) 1 (Kn.trow (e := 22) (r := r14) (by repeat (first | exact Has.head | apply Has.tail))) (fun hg => let h := idx_some hx19; ⟨h.1, h.2.1⟩)) ?_
      refine ow_ev (ev_ld (i := (t55_1 : Int)) (xs := y12.1) (y := x18) 0 (Kn.trow (e := 22) (r := r14) (by repeat (first | exact Has.head | apply Has.tail))) (fun _ => hx19)) ?_
      refine ow_ev ev_assign ?_
      refine ow_nil (hK14 _ _ ?_); clear hK14
      refine cw_seq fun K15 hK15 => ?_
      refine cw_region ?_
      refine ow_ev ev_move ?_
      refine ow_ev (ev_load_all (b := b4)) ?_
      refine ow_ev ev_move ?_
      obtain ⟨y20, hy21, hM⟩ := bind_some hM
      refine ow_cons (st_callS SelL.nil (fun S w hs hP => circulation_Split_spec _ w y1.1 r3.1 (Rules.mk y1.2.Turn y1.2.Empties y1.2.Shops y1.2.Service (31 + y5)) r3.2 x18 (r14.es (t55_1 : Int).toNat) y20 hy21 hs.lt ((Sk.imm (α := List Task) (r := r3.1) (x := y1.1) (by repeat (first | exact Has.head | apply Has.tail))) S w hs) ⟨((Sk.imm (α := List EmptyT) (r := r3.2.1) (x := y1.2.Empties) (by repeat (first | exact Has.head | apply Has.tail))) S w hs), ((Sk.imm (α := List Int) (r := r3.2.2) (x := y1.2.Shops) (by repeat (first | exact Has.head | apply Has.tail))) S w hs)⟩ ((Sk.row (e := 22) (r := r14) (by repeat (first | exact Has.head | apply Has.tail)) hx19) S w hs))  (fun r22 => ?_))
      dsimp only [List.cons_append, List.nil_append]
      refine ow_ev ev_move ?_
      refine ow_ev (ev_extract (vs := [.slice r22.a y20.1.length r22.cap, .int .i64 y20.2])) ?_
      refine ow_ev (ev_extract (vs := [.slice r22.a y20.1.length r22.cap, .int .i64 y20.2])) ?_
      refine ow_ev ev_assign ?_
      refine ow_ev ev_assign ?_
      refine ow_nil (hK15 _ _ ?_); clear hK15
      refine cw_seq fun K16 hK16 => ?_
      refine cw_seq fun K17 hK17 => ?_
      refine cw_region ?_
      refine ow_ev ev_move ?_
      refine ow_ev ev_neq ?_
      refine ow_nil (hK17 _ _ ?_); clear hK17
      refine cw_cond rfl (fun hc23 => ?_) (fun hc23 => ?_)
      ·
        replace hM := (ite_t hc23).symm.trans hM
        refine cw_seq fun K18 hK18 => ?_
        refine cw_region ?_
        refine ow_ev ev_assign ?_
        refine ow_nil (hK18 _ _ ?_); clear hK18
        obtain rfl := some_inj hM
        refine cw_ret (kw_retc1 (fun w hm => ret_of hm rfl))
      ·
        replace hM := (ite_f hc23).symm.trans hM
        refine cw_skip (hK16 _ _ ?_); clear hK16
        refine cw_seq fun K19 hK19 => ?_
        refine cw_seq fun K20 hK20 => ?_
        refine cw_region ?_
        refine ow_ev ev_move ?_
        refine ow_have (fun w hm => Kn.len (Kn.trow (e := 22) (r := r22) (by repeat (first | exact Has.head | apply Has.tail))) hm) fun hl24 => ?_
        refine ow_ev ev_len ?_
        refine ow_ev ev_move ?_
        refine ow_nil (hK20 _ _ ?_); clear hK20
        refine cw_block ?_
        refine cw_loop (γ := Nat × Nat × Unit) (env := fun (_, t70_2, _) => [(5, .v (.slice r3.1.a y1.1.length r3.1.cap)), (6, .v (.pointer (some ⟨b4, 0, none⟩))), (13, .v (.slice (r14.es (t55_1 : Int).toNat).a x18.length (r14.es (t55_1 : Int).toNat).cap)), (14, .v (.slice r22.a y20.1.length r22.cap)), (53, .v (.slice r14.a y12.1.length r14.cap)), (54, .v (.int .i64 (y12.1.length : Int))), (55, .v (.int .i64 (t55_1 : Int))), (68, .v (.slice r22.a y20.1.length r22.cap)), (69, .v (.int .i64 (y20.1.length : Int))), (70, .v (.int .i64 (t70_2 : Int)))]) (mem := fun (_, t70_2, _) => [imm (α := (List Task)) r3.1 y1.1, imm (α := (List EmptyT)) r3.2.1 y1.2.Empties, imm (α := (List Int)) r3.2.2 y1.2.Shops, own b4 53 [.int .i64 y1.2.Turn, .slice r3.2.1.a y1.2.Empties.length r3.2.1.cap, .slice r3.2.2.a y1.2.Shops.length r3.2.2.cap, .int .i64 y1.2.Service, .int .i64 (31 + y5)], trow 22 r22 y20.1, trow 22 r14 y12.1]) (R := fun g => iter (law28_CirculationFewest_b2 y20 y1 y5 x18 cont1 t55_1) g.1 g.2.1 = some y) (μ := fun g => g.1) (FUEL, 0, ()) hM ⟨rfl, rfl, rfl, rfl, rfl, rfl, rfl, rfl, rfl, rfl, trivial⟩ (fun w hm => hm.reord) ?_
        clear hM
        intro g hM KL2 hL2
        obtain ⟨nn2, t70_2, ⟨⟩⟩ := g
        dsimp only at hM ⊢
        obtain ⟨nn2, cont2, rfl, hcont2, hM⟩ := iter_open' hM
        dsimp only [law28_CirculationFewest_b2] at hM
        refine cw_seq fun K21 hK21 => ?_
        refine cw_region ?_
        refine ow_ev ev_lss ?_
        refine ow_nil (hK21 _ _ ?_); clear hK21
        refine cw_seq fun K22 hK22 => ?_
        refine cw_cond rfl (fun hc25 => ?_) (fun hc25 => ?_)
        ·
          replace hM := (ite_t hc25).symm.trans hM
          have hc25d := of_decide_eq_true hc25
          refine cw_skip (hK22 _ _ ?_); clear hK22
          refine cw_seq fun K23 hK23 => ?_
          refine cw_block ?_
          refine cw_seq fun K24 hK24 => ?_
          refine cw_region ?_
          obtain ⟨x26, hx27, hM⟩ := bind_some hM
          refine ow_ev (ev_idx (xs := y20.1) 1 (Kn.trow (e := 22) (r := r22) (by repeat (first | exact Has.head | apply Has.tail))) (fun hg => let h := idx_some hx27; ⟨h.1, h.2.1⟩)) ?_
          refine ow_ev (ev_ld (i := (t70_2 : Int)) (xs := y20.1) (y := x26) 0 (Kn.trow (e := 22) (r := r22) (by repeat (first | exact Has.head | apply Has.tail))) (fun _ => hx27)) ?_
          refine ow_ev ev_assign ?_
          refine ow_nil (hK24 _ _ ?_); clear hK24
          refine cw_seq fun K25 hK25 => ?_
          refine cw_region ?_
          refine ow_ev ev_move ?_
          refine ow_ev ev_len ?_
          refine ow_ev ev_eql ?_
          refine ow_ev ev_move ?_
          refine ow_evg rfl ev_move ?_
          refine ow_evg rfl (ev_load_all (b := b4)) ?_
          refine ow_evg rfl ev_move ?_
          obtain ⟨y28, hy29, hM⟩ := bind_some hM
          refine ow_callg rfl (fun hg w hm => let ⟨S, hs⟩ := hm; ref24_Permissible_spec _ w y1.1 r3.1 (Rules.mk y1.2.Turn y1.2.Empties y1.2.Shops y1.2.Service (31 + y5)) r3.2 x26 (r22.es (t70_2 : Int).toNat) y28 (whn_some hy29 hg) (lend_lt hs) (Kn.lend (Kn.imm (α := List Task) (r := r3.1) (x := y1.1) (by repeat (first | exact Has.head | apply Has.tail))) hs) ⟨(Kn.lend (Kn.imm (α := List EmptyT) (r := r3.2.1) (x := y1.2.Empties) (by repeat (first | exact Has.head | apply Has.tail))) hs), (Kn.lend (Kn.imm (α := List Int) (r := r3.2.2) (x := y1.2.Shops) (by repeat (first | exact Has.head | apply Has.tail))) hs)⟩ (Kn.lend ((Sk.row (e := 22) (r := r22) (by repeat (first | exact Has.head | apply Has.tail)) hx27)).kn hs)) ?_
          refine ow_evg rfl ev_not ?_
          refine ow_ev ev_or ?_
          refine ow_nil (hK25 _ _ ?_); clear hK25
          refine cw_cond rfl (fun hc30 => ?_) (fun hc30 => ?_)
          ·
            replace hM := (ite_t hc30).symm.trans hM
            refine cw_seq fun K26 hK26 => ?_
            refine cw_region ?_
            refine ow_ev ev_assign ?_
            refine ow_nil (hK26 _ _ ?_); clear hK26
            obtain rfl := some_inj hM
            refine cw_ret (kw_retc1 (fun w hm => ret_of hm rfl))
          ·
            replace hM := (ite_f hc30).symm.trans hM
            refine cw_skip (hK23 _ _ ?_); clear hK23
            refine cw_region ?_
            refine ow_ev (ev_add (hr := fun _ => by unfold I64; omega)) ?_
            refine ow_ev ev_move ?_
            refine ow_nil (hL2 (nn2, (t70_2 + 1), ()) _ _ (eqc hcont2 hM) (Nat.lt_succ_self _) ⟨rfl, rfl, rfl, rfl, rfl, rfl, rfl, rfl, rfl, rfl, trivial⟩ (fun w hm => hm.reord))
        ·
          replace hM := (ite_f hc25).symm.trans hM
          refine cw_exit (hK19 _ _ ?_); clear hK19
          dsimp only [law28_CirculationFewest_k3] at hM
          refine cw_seq fun K27 hK27 => ?_
          refine cw_region ?_
          refine ow_ev ev_assign ?_
          refine ow_nil (hK27 _ _ ?_); clear hK27
          refine cw_block ?_
          refine cw_loop (γ := Nat × Nat × Unit) (env := fun (_, cuts_3, _) => [(5, .v (.slice r3.1.a y1.1.length r3.1.cap)), (6, .v (.pointer (some ⟨b4, 0, none⟩))), (13, .v (.slice (r14.es (t55_1 : Int).toNat).a x18.length (r14.es (t55_1 : Int).toNat).cap)), (14, .v (.slice r22.a y20.1.length r22.cap)), (18, .v (.int .i64 (cuts_3 : Int))), (53, .v (.slice r14.a y12.1.length r14.cap)), (54, .v (.int .i64 (y12.1.length : Int))), (55, .v (.int .i64 (t55_1 : Int)))]) (mem := fun (_, cuts_3, _) => [imm (α := (List Task)) r3.1 y1.1, imm (α := (List EmptyT)) r3.2.1 y1.2.Empties, imm (α := (List Int)) r3.2.2 y1.2.Shops, own b4 53 [.int .i64 y1.2.Turn, .slice r3.2.1.a y1.2.Empties.length r3.2.1.cap, .slice r3.2.2.a y1.2.Shops.length r3.2.2.cap, .int .i64 y1.2.Service, .int .i64 (31 + y5)], trow 22 r22 y20.1, trow 22 r14 y12.1]) (R := fun g => iter (law28_CirculationFewest_b3 x18 y1 y5 y20 cont1 t55_1) g.1 g.2.1 = some y) (μ := fun g => g.1) (FUEL, 0, ()) hM ⟨rfl, rfl, rfl, rfl, rfl, rfl, rfl, rfl, trivial⟩ (fun w hm => hm.reord) ?_
          clear hM
          intro g hM KL3 hL3
          obtain ⟨nn3, cuts_3, ⟨⟩⟩ := g
          dsimp only at hM ⊢
          obtain ⟨nn3, cont3, rfl, hcont3, hM⟩ := iter_open' hM
          dsimp only [law28_CirculationFewest_b3] at hM
          refine cw_seq fun K28 hK28 => ?_
          refine cw_seq fun K29 hK29 => ?_
          refine cw_region ?_
          refine ow_ev ev_move ?_
          refine ow_ev ev_move ?_
          refine ow_ev ev_len ?_
          obtain ⟨hI31, hM⟩ := chk_some hM
          refine ow_ev (ev_sub (hr := fun hg => i64b_I64 hI31)) ?_
          obtain ⟨hI32, hM⟩ := chk_some hM
          refine ow_ev (ev_shl' (fun hg => of_decide_eq_true hI32)) ?_
          refine ow_ev ev_lss ?_
          refine ow_nil (hK29 _ _ ?_); clear hK29
          refine cw_cond rfl (fun hc33 => ?_) (fun hc33 => ?_)
          ·
            replace hM := (ite_t hc33).symm.trans hM
            refine cw_skip (hK28 _ _ ?_); clear hK28
            refine cw_seq fun K30 hK30 => ?_
            refine cw_block ?_
            refine cw_seq fun K31 hK31 => ?_
            refine cw_region ?_
            refine ow_ev ev_assign ?_
            refine ow_ev ev_assign ?_
            refine ow_ev ev_assign ?_
            refine ow_nil (hK31 _ _ ?_); clear hK31
            refine cw_seq fun K32 hK32 => ?_
            refine cw_seq fun K33 hK33 => ?_
            refine cw_region ?_
            refine ow_ev ev_assign ?_
            refine ow_nil (hK33 _ _ ?_); clear hK33
            refine cw_block ?_
            refine cw_loop (γ := Nat × (Int × Int × Bool × Nat) × Unit) (env := fun (_, (n_4, from_4, good_4, i_4), _) => [(5, .v (.slice r3.1.a y1.1.length r3.1.cap)), (6, .v (.pointer (some ⟨b4, 0, none⟩))), (13, .v (.slice (r14.es (t55_1 : Int).toNat).a x18.length (r14.es (t55_1 : Int).toNat).cap)), (14, .v (.slice r22.a y20.1.length r22.cap)), (18, .v (.int .i64 (cuts_3 : Int))), (19, .v (.int .i64 n_4)), (20, .v (.int .i64 from_4)), (21, .v (.bool good_4)), (22, .v (.int .i64 (i_4 : Int))), (53, .v (.slice r14.a y12.1.length r14.cap)), (54, .v (.int .i64 (y12.1.length : Int))), (55, .v (.int .i64 (t55_1 : Int)))]) (mem := fun (_, (n_4, from_4, good_4, i_4), _) => [imm (α := (List Task)) r3.1 y1.1, imm (α := (List EmptyT)) r3.2.1 y1.2.Empties, imm (α := (List Int)) r3.2.2 y1.2.Shops, own b4 53 [.int .i64 y1.2.Turn, .slice r3.2.1.a y1.2.Empties.length r3.2.1.cap, .slice r3.2.2.a y1.2.Shops.length r3.2.2.cap, .int .i64 y1.2.Service, .int .i64 (31 + y5)], trow 22 r22 y20.1, trow 22 r14 y12.1]) (R := fun g => iter (law28_CirculationFewest_b4 x18 cuts_3 y1 y5 y20 cont3) g.1 g.2.1 = some y) (μ := fun g => g.1) (FUEL, (1, 0, true, 1), ()) hM ⟨rfl, rfl, rfl, rfl, rfl, rfl, rfl, rfl, rfl, rfl, rfl, rfl, trivial⟩ (fun w hm => hm.reord) ?_
            clear hM
            intro g hM KL4 hL4
            obtain ⟨nn4, ⟨n_4, from_4, good_4, i_4⟩, ⟨⟩⟩ := g
            dsimp only at hM ⊢
            obtain ⟨nn4, cont4, rfl, hcont4, hM⟩ := iter_open' hM
            dsimp only [law28_CirculationFewest_b4] at hM
            refine cw_seq fun K34 hK34 => ?_
            refine cw_seq fun K35 hK35 => ?_
            refine cw_region ?_
            refine ow_ev ev_move ?_
            refine ow_ev ev_move ?_
            refine ow_ev ev_len ?_
            refine ow_ev ev_lss ?_
            refine ow_nil (hK35 _ _ ?_); clear hK35
            refine cw_cond rfl (fun hc34 => ?_) (fun hc34 => ?_)
            ·
              replace hM := (ite_t hc34).symm.trans hM
              refine cw_skip (hK34 _ _ ?_); clear hK34
              refine cw_cut (γ := (Int × Int × Bool) × Unit) (env := fun ((n_j6, from_j6, good_j6), _) => [(5, .v (.slice r3.1.a y1.1.length r3.1.cap)), (6, .v (.pointer (some ⟨b4, 0, none⟩))), (13, .v (.slice (r14.es (t55_1 : Int).toNat).a x18.length (r14.es (t55_1 : Int).toNat).cap)), (14, .v (.slice r22.a y20.1.length r22.cap)), (18, .v (.int .i64 (cuts_3 : Int))), (19, .v (.int .i64 n_j6)), (20, .v (.int .i64 from_j6)), (21, .v (.bool good_j6)), (22, .v (.int .i64 (i_4 : Int))), (53, .v (.slice r14.a y12.1.length r14.cap)), (54, .v (.int .i64 (y12.1.length : Int))), (55, .v (.int .i64 (t55_1 : Int)))]) (mem := fun ((n_j6, from_j6, good_j6), _) => [imm (α := (List Task)) r3.1 y1.1, imm (α := (List EmptyT)) r3.2.1 y1.2.Empties, imm (α := (List Int)) r3.2.2 y1.2.Shops, own b4 53 [.int .i64 y1.2.Turn, .slice r3.2.1.a y1.2.Empties.length r3.2.1.cap, .slice r3.2.2.a y1.2.Shops.length r3.2.2.cap, .int .i64 y1.2.Service, .int .i64 (31 + y5)], trow 22 r22 y20.1, trow 22 r14 y12.1]) (R := fun g => law28_CirculationFewest_k6 i_4 cont4 g.1 = some y) ?_ ?_
              · intro KJ6 hJ6
                refine cw_block ?_
                refine cw_seq fun K36 hK36 => ?_
                refine cw_region ?_
                refine ow_ev ev_move ?_
                refine ow_ev ev_move ?_
                obtain ⟨hI36, hM⟩ := chk_some hM
                refine ow_ev (ev_sub (hr := fun hg => i64b_I64 hI36)) ?_
                obtain ⟨hI37, hM⟩ := chk_some hM
                refine ow_ev (ev_shr' (fun hg => of_decide_eq_true hI37)) ?_
                refine ow_ev ev_and' ?_
                refine ow_ev ev_eql ?_
                refine ow_nil (hK36 _ _ ?_); clear hK36
                refine cw_cond rfl (fun hc38 => ?_) (fun hc38 => ?_)
                ·
                  replace hM := (ite_t hc38).symm.trans hM
                  refine cw_seq fun K37 hK37 => ?_
                  refine cw_region_any _ (List.Sublist.refl _) ?_
                  refine aw_ev 0 rfl ev_move ?_
                  refine aw_ev 1 rfl ev_move ?_
                  refine aw_evg 2 rfl rfl ev_move ?_
                  refine aw_evg 3 rfl rfl (ev_load_all (b := b4)) ?_
                  refine aw_evg 4 rfl rfl ev_move ?_
                  refine aw_evg 5 rfl rfl ev_move ?_
                  refine aw_evg 6 rfl rfl ev_move ?_
                  refine aw_cases good_4 (fun hg39 => ?_) (fun hg39 => ?_)
                  ·
                    replace hM := (ite_t hg39).symm.trans hM
                    refine aw_know 107 hg39 rfl ?_
                    refine aw_know 108 hg39 rfl ?_
                    refine aw_know 109 hg39 rfl ?_
                    refine aw_know 110 hg39 rfl ?_
                    refine aw_know 111 hg39 rfl ?_
                    obtain ⟨l40, hl41, hM⟩ := bind_some hM
                    refine aw_gtrue 7 rfl rfl hg39 (st_sub (r := (r14.es (t55_1 : Int).toNat)) (xs := x18) (ol := some (.i64, from_4)) (oh := some (.i64, (i_4 : Int))) (Sk.row (e := 22) (r := r14) (by repeat (first | exact Has.head | apply Has.tail)) hx19) hl41 (fun r42 => ⟨fun w hm => hm.sub (by repeat (first | exact List.Sublist.refl _ | apply List.Sublist.cons_cons | apply List.Sublist.cons)), ?_⟩))
                    obtain ⟨y43, hy44, hM⟩ := bind_some hM
                    refine aw_gtrue 8 rfl rfl hg39 (st_callv (fun w hm => let ⟨S, hs⟩ := hm; ref24_Permissible_spec _ w y1.1 r3.1 (Rules.mk y1.2.Turn y1.2.Empties y1.2.Shops y1.2.Service (31 + y5)) r3.2 l40 r42 y43 hy44 (lend_lt hs) (Kn.lend (Kn.imm (α := List Task) (r := r3.1) (x := y1.1) (by repeat (first | exact Has.head | apply Has.tail))) hs) ⟨(Kn.lend (Kn.imm (α := List EmptyT) (r := r3.2.1) (x := y1.2.Empties) (by repeat (first | exact Has.head | apply Has.tail))) hs), (Kn.lend (Kn.imm (α := List Int) (r := r3.2.2) (x := y1.2.Shops) (by repeat (first | exact Has.head | apply Has.tail))) hs)⟩ (Kn.lend (Kn.imm (α := List Int) (r := r42) (x := l40) (by repeat (first | exact Has.head | apply Has.tail))) hs)) ⟨fun w hm => hm.sub (by repeat (first | exact List.Sublist.refl _ | apply List.Sublist.cons_cons | apply List.Sublist.cons)), ?_⟩)
                    refine aw_ev 9 rfl ev_and ?_
                    refine aw_ev 10 rfl ev_assign ?_
                    refine aw_done (hK37 _ _ ?_); clear hK37
                    refine cw_region ?_
                    refine ow_ev ev_move ?_
                    obtain ⟨hI45, hM⟩ := chk_some hM
                    refine ow_ev (ev_add (hr := fun hg => i64b_I64 hI45)) ?_
                    refine ow_ev ev_move ?_
                    refine ow_ev ev_assign ?_
                    refine ow_ev ev_assign ?_
                    refine ow_nil (hJ6 (((n_4 + 1), (i_4 : Int), (good_4 && y43)), ()) _ _ hM ⟨rfl, rfl, rfl, rfl, rfl, rfl, rfl, rfl, rfl, rfl, rfl, rfl, trivial⟩ (fun w hm => hm.reord))
                  ·
                    replace hM := (ite_f hg39).symm.trans hM
                    refine aw_gskip 7 rfl rfl hg39 ?_
                    refine aw_gskip 8 rfl rfl hg39 ?_
                    refine aw_ev 9 rfl (ev_andF hg39) ?_
                    refine aw_ev 10 rfl ev_assign ?_
                    refine aw_done (hK37 _ _ ?_); clear hK37
                    refine cw_region ?_
                    refine ow_ev ev_move ?_
                    obtain ⟨hI46, hM⟩ := chk_some hM
                    refine ow_ev (ev_add (hr := fun hg => i64b_I64 hI46)) ?_
                    refine ow_ev ev_move ?_
                    refine ow_ev ev_assign ?_
                    refine ow_ev ev_assign ?_
                    refine ow_nil (hJ6 (((n_4 + 1), (i_4 : Int), false), ()) _ _ hM ⟨rfl, rfl, rfl, rfl, rfl, rfl, rfl, rfl, rfl, rfl, rfl, rfl, trivial⟩ (fun w hm => hm.reord))
                ·
                  replace hM := (ite_f hc38).symm.trans hM
                  refine cw_skip (hJ6 ((n_4, from_4, good_4), ()) _ _ hM ⟨rfl, rfl, rfl, rfl, rfl, rfl, rfl, rfl, rfl, rfl, rfl, rfl, trivial⟩ (fun w hm => hm.reord))
              ·
                clear hM
                intro g hM
                obtain ⟨⟨n_j6, from_j6, good_j6⟩, ⟨⟩⟩ := g
                dsimp only at hM ⊢
                dsimp only [law28_CirculationFewest_k6] at hM
                refine cw_region ?_
                refine ow_ev ev_move ?_
                obtain ⟨hI35, hM⟩ := chk_some hM
                refine ow_ev (ev_add (hr := fun hg => i64b_I64 hI35)) ?_
                refine ow_ev ev_assign ?_
                refine ow_nil (hL4 (nn4, (n_j6, from_j6, good_j6, i_4 + 1), ()) _ _ (eqc hcont4 hM) (Nat.lt_succ_self _) ⟨rfl, rfl, rfl, rfl, rfl, rfl, rfl, rfl, rfl, rfl, rfl, rfl, trivial⟩ (fun w hm => hm.reord))
            ·
              replace hM := (ite_f hc34).symm.trans hM
              refine cw_exit (hK32 _ _ ?_); clear hK32
              dsimp only [law28_CirculationFewest_k5] at hM
              refine cw_seq fun K38 hK38 => ?_
              refine cw_region_any _ (List.Sublist.refl _) ?_
              refine aw_ev 0 rfl ev_move ?_
              refine aw_ev 1 rfl ev_move ?_
              refine aw_evg 2 rfl rfl ev_move ?_
              refine aw_evg 3 rfl rfl (ev_load_all (b := b4)) ?_
              refine aw_evg 4 rfl rfl ev_move ?_
              refine aw_evg 5 rfl rfl ev_move ?_
              refine aw_cases good_4 (fun hg47 => ?_) (fun hg47 => ?_)
              ·
                replace hM := (ite_t hg47).symm.trans hM
                refine aw_know 120 hg47 rfl ?_
                refine aw_know 121 hg47 rfl ?_
                refine aw_know 122 hg47 rfl ?_
                refine aw_know 123 hg47 rfl ?_
                obtain ⟨l48, hl49, hM⟩ := bind_some hM
                refine aw_gtrue 6 rfl rfl hg47 (st_sub (r := (r14.es (t55_1 : Int).toNat)) (xs := x18) (ol := some (.i64, from_4)) (oh := none) (Sk.row (e := 22) (r := r14) (by repeat (first | exact Has.head | apply Has.tail)) hx19) hl49 (fun r50 => ⟨fun w hm => hm.sub (by repeat (first | exact List.Sublist.refl _ | apply List.Sublist.cons_cons | apply List.Sublist.cons)), ?_⟩))
                obtain ⟨y51, hy52, hM⟩ := bind_some hM
                refine aw_gtrue 7 rfl rfl hg47 (st_callv (fun w hm => let ⟨S, hs⟩ := hm; ref24_Permissible_spec _ w y1.1 r3.1 (Rules.mk y1.2.Turn y1.2.Empties y1.2.Shops y1.2.Service (31 + y5)) r3.2 l48 r50 y51 hy52 (lend_lt hs) (Kn.lend (Kn.imm (α := List Task) (r := r3.1) (x := y1.1) (by repeat (first | exact Has.head | apply Has.tail))) hs) ⟨(Kn.lend (Kn.imm (α := List EmptyT) (r := r3.2.1) (x := y1.2.Empties) (by repeat (first | exact Has.head | apply Has.tail))) hs), (Kn.lend (Kn.imm (α := List Int) (r := r3.2.2) (x := y1.2.Shops) (by repeat (first | exact Has.head | apply Has.tail))) hs)⟩ (Kn.lend (Kn.imm (α := List Int) (r := r50) (x := l48) (by repeat (first | exact Has.head | apply Has.tail))) hs)) ⟨fun w hm => hm.sub (by repeat (first | exact List.Sublist.refl _ | apply List.Sublist.cons_cons | apply List.Sublist.cons)), ?_⟩)
                refine aw_ev 8 rfl ev_and ?_
                refine aw_ev 9 rfl ev_move ?_
                refine aw_evg 10 rfl rfl ev_move ?_
                refine aw_evg 11 rfl rfl ev_move ?_
                refine aw_evg 12 rfl rfl ev_len ?_
                refine aw_evg 13 rfl rfl ev_lss ?_
                refine aw_ev 14 rfl ev_and ?_
                refine aw_done (hK38 _ _ ?_); clear hK38
                refine cw_cond rfl (fun hc53 => ?_) (fun hc53 => ?_)
                ·
                  replace hM := (ite_t hc53).symm.trans hM
                  refine cw_seq fun K39 hK39 => ?_
                  refine cw_region ?_
                  refine ow_ev ev_assign ?_
                  refine ow_nil (hK39 _ _ ?_); clear hK39
                  obtain rfl := some_inj hM
                  refine cw_ret (kw_retc1 (fun w hm => ret_of hm rfl))
                ·
                  replace hM := (ite_f hc53).symm.trans hM
                  refine cw_skip (hK30 _ _ ?_); clear hK30
                  dsimp only [law28_CirculationFewest_k4] at hM
                  refine cw_region ?_
                  refine ow_ev ev_move ?_
                  obtain ⟨hI54, hM⟩ := chk_some hM
                  refine ow_ev (ev_add (hr := fun hg => i64b_I64 hI54)) ?_
                  refine ow_ev ev_assign ?_
                  refine ow_nil (hL3 (nn3, (cuts_3 + 1), ()) _ _ (eqc hcont3 hM) (Nat.lt_succ_self _) ⟨rfl, rfl, rfl, rfl, rfl, rfl, rfl, rfl, trivial⟩ (fun w hm => hm.reord))
              ·
                replace hM := (ite_f hg47).symm.trans hM
                refine aw_gskip 6 rfl rfl hg47 ?_
                refine aw_gskip 7 rfl rfl hg47 ?_
                refine aw_ev 8 rfl (ev_andF hg47) ?_
                refine aw_ev 9 rfl ev_move ?_
                refine aw_evg 10 rfl rfl ev_move ?_
                refine aw_evg 11 rfl rfl ev_move ?_
                refine aw_evg 12 rfl rfl ev_len ?_
                refine aw_evg 13 rfl rfl ev_lss ?_
                refine aw_ev 14 rfl ev_and ?_
                refine aw_done (hK38 _ _ ?_); clear hK38
                refine cw_cond rfl (fun hc55 => ?_) (fun hc55 => ?_)
                ·
                  replace hM := (ite_t hc55).symm.trans hM
                  refine cw_seq fun K40 hK40 => ?_
                  refine cw_region ?_
                  refine ow_ev ev_assign ?_
                  refine ow_nil (hK40 _ _ ?_); clear hK40
                  obtain rfl := some_inj hM
                  refine cw_ret (kw_retc1 (fun w hm => ret_of hm rfl))
                ·
                  replace hM := (ite_f hc55).symm.trans hM
                  refine cw_skip (hK30 _ _ ?_); clear hK30
                  dsimp only [law28_CirculationFewest_k4] at hM
                  refine cw_region ?_
                  refine ow_ev ev_move ?_
                  obtain ⟨hI56, hM⟩ := chk_some hM
                  refine ow_ev (ev_add (hr := fun hg => i64b_I64 hI56)) ?_
                  refine ow_ev ev_assign ?_
                  refine ow_nil (hL3 (nn3, (cuts_3 + 1), ()) _ _ (eqc hcont3 hM) (Nat.lt_succ_self _) ⟨rfl, rfl, rfl, rfl, rfl, rfl, rfl, rfl, trivial⟩ (fun w hm => hm.reord))
          ·
            replace hM := (ite_f hc33).symm.trans hM
            refine cw_exit (hK13 _ _ ?_); clear hK13
            dsimp only [law28_CirculationFewest_k2] at hM
            refine cw_region ?_
            refine ow_ev (ev_add (hr := fun _ => by unfold I64; omega)) ?_
            refine ow_ev ev_move ?_
            refine ow_nil (hL1 (nn1, (t55_1 + 1), ()) _ _ (eqc hcont1 hM) (Nat.lt_succ_self _) ⟨rfl, rfl, rfl, rfl, rfl, trivial⟩ (fun w hm => hm.reord))
    ·
      replace hM := (ite_f hc17).symm.trans hM
      refine cw_exit (hK9 _ _ ?_); clear hK9
      dsimp only [law28_CirculationFewest_k1] at hM
      refine cw_seq fun K41 hK41 => ?_
      refine cw_region ?_
      obtain ⟨y57, hy58, hM⟩ := bind_some hM
      refine ow_cons (st_callv (fun w hm => let ⟨S, hs⟩ := hm; law28_awake_spec _ w  y57 hy58 (lend_lt hs) ) ?_)
      refine ow_ev ev_assign ?_
      refine ow_nil (hK41 _ _ ?_); clear hK41
      obtain rfl := some_inj hM
      refine cw_ret (kw_retc1 (fun w hm => ret_of hm rfl))

end Go.Proofs.Ytedocibniankjaa
