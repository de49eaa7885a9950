/- Models of functions, and that the code computes them. -/
import Derived.Test.YtedocibniankjaaFe
namespace Go.Proofs.Ytedocibniankjaa
open Go.Dc Go.RowKit
set_option maxRecDepth 10000
set_option linter.unusedVariables false
def law27_FlowScale_k2 (y1 : Graph) (lwide_1_0 : List Int) (lwide_2_1 : List Arc) (ldear_2_1 : List Arc) (y5 : Int) : Unit → Option Bool := fun _ =>
  (ref24_LeastFlow_m y1).bind fun y34 =>
  (flow_Solve_m (Graph.mk lwide_1_0 lwide_2_1)).bind fun y36 =>
  (flow_Solve_m (Graph.mk y1.Supply ldear_2_1)).bind fun y40 =>
  if (!y34.2) then
    ((law27_awake_m).bind fun y45 =>
    some ((y45 && decide (y36.2 = 14)) && decide (y40.2 = 14)))
  else
    ((law27_awake_m).bind fun y47 =>
    chk (!((y47 && decide (y36.2 = 0)) && decide (y40.2 = 0)) || i64b (y34.1 * (2 + y5))) <|
    chk (!(((y47 && decide (y36.2 = 0)) && decide (y40.2 = 0)) && decide (y36.1.Cost = (y34.1 * (2 + y5)))) || i64b (y34.1 * (2 + y5))) <|
    some ((((y47 && decide (y36.2 = 0)) && decide (y40.2 = 0)) && decide (y36.1.Cost = (y34.1 * (2 + y5)))) && decide (y40.1.Cost = (y34.1 * (2 + y5)))))
def law27_FlowScale_b2 (y1 : Graph) (y5 : Int) (lwide_1_0 : List Int) (cont2 : ((List Arc) × (List Arc) × Nat) → Option Bool) : ((List Arc) × (List Arc) × Nat) → Option Bool := fun (lwide_2_1, ldear_2_1, t47_2) =>
  if decide ((t47_2 : Int) < (y1.Arcs.length : Int)) then
    ((idx y1.Arcs (t47_2 : Int)).bind fun x23 =>
    chk (i64b (x23.Cap * (2 + y5))) <|
    chk (decide ((lwide_2_1.length + ([(Arc.mk x23.From x23.To (x23.Cap * (2 + y5)) x23.Cost)] : List Arc).length) * 32 ≤ 140737488355328)) <|
    chk (i64b (x23.Cost * (2 + y5))) <|
    chk (decide ((ldear_2_1.length + ([(Arc.mk x23.From x23.To x23.Cap (x23.Cost * (2 + y5)))] : List Arc).length) * 32 ≤ 140737488355328)) <|
    cont2 ((lwide_2_1 ++ ([(Arc.mk x23.From x23.To (x23.Cap * (2 + y5)) x23.Cost)] : List Arc)), (ldear_2_1 ++ ([(Arc.mk x23.From x23.To x23.Cap (x23.Cost * (2 + y5)))] : List Arc)), t47_2 + 1))
  else
    (law27_FlowScale_k2 y1 lwide_1_0 lwide_2_1 ldear_2_1 y5 ())
def law27_FlowScale_k1 (y1 : Graph) (y5 : Int) (lwide_1_0 : List Int) : Unit → Option Bool := fun _ =>
  iter (law27_FlowScale_b2 y1 y5 lwide_1_0) FUEL (([] : List Arc), ([] : List Arc), 0)
def law27_FlowScale_b1 (y1 : Graph) (y5 : Int) (cont1 : ((List Int) × Nat) → Option Bool) : ((List Int) × Nat) → Option Bool := fun (lwide_1_0, t31_1) =>
  if decide ((t31_1 : Int) < (y1.Supply.length : Int)) then
    ((idx y1.Supply (t31_1 : Int)).bind fun x15 =>
    chk (i64b (x15 * (2 + y5))) <|
    chk (decide ((lwide_1_0.length + ([(x15 * (2 + y5))] : List Int).length) * 8 ≤ 140737488355328)) <|
    cont1 ((lwide_1_0 ++ ([(x15 * (2 + y5))] : List Int)), t31_1 + 1))
  else
    (law27_FlowScale_k1 y1 y5 lwide_1_0 ())
def law27_FlowScale_m (l0 : List Int) (by0 : Int) : Option Bool :=
  (keep2_Graph_m l0).bind fun y1 =>
  (keep_Pick_m by0 1000).bind fun y5 =>
  chk (i64b (2 + y5)) <|
  iter (law27_FlowScale_b1 y1 y5) FUEL (([] : List Int), 0)
theorem law27_FlowScale_spec (S : Soup) (w : World) (l0 : List Int) (r_l0 : GoRep.R (List Int)) (by0 : Int) (y : Bool) (hM : law27_FlowScale_m l0 by0 = some y) (hS : ∀ k, S k → k < w.heap.size) (h_l0 : GoRep.ok S w r_l0 l0) :
    Calls Try.prog 5 #[.slice r_l0.a l0.length r_l0.cap, .int .i64 by0] w (Ret w (.bool y)) := by
  refine calls_cw (args := [_, _]) Try.func5 rfl ((pre_nil hS).start |>.immP (α := List Int) (r := r_l0) (x := l0) h_l0) rfl ?_
  unfold law27_FlowScale_m at hM
  refine cw_seq fun K1 hK1 => ?_
  refine cw_region ?_
  refine ow_ev ev_assign ?_
  refine ow_nil (hK1 _ _ ?_); clear hK1
  refine cw_seq fun K2 hK2 => ?_
  refine cw_region ?_
  refine ow_ev ev_move ?_
  obtain ⟨y1, hy2, hM⟩ := bind_some hM
  refine ow_cons (st_callF SelL.nil (fun S w hs hP => keep2_Graph_spec _ w l0 r_l0 y1 hy2 (lend_lt hs) (Kn.lend (Kn.imm (α := List Int) (r := r_l0) (x := l0) (by repeat (first | exact Has.head | apply Has.tail))) hs)) (by intro r c hc; simp only [List.mem_cons, List.not_mem_nil, or_false] at hc; rcases hc with rfl | rfl <;> first | exact flatC_own | exact flatC_trow (fun _ _ _ _ => trivial)) (fun r3 => ?_))
  dsimp only [List.cons_append, List.nil_append]
  refine ow_cons (st_alloc rfl (k := fun b4 => ?_))
  refine ow_cons (st_store_all (b := b4) (vs := [.slice r3.1.a y1.Supply.length r3.1.cap, .slice r3.2.a y1.Arcs.length r3.2.cap]) (k := ?_))
  refine ow_nil (hK2 _ _ ?_); clear hK2
  refine cw_seq fun K3 hK3 => ?_
  refine cw_region ?_
  refine ow_ev ev_move ?_
  obtain ⟨y5, hy6, hM⟩ := bind_some hM
  refine ow_cons (st_callv (fun w hm => let ⟨S, hs⟩ := hm; keep_Pick_spec _ w by0 1000 y5 hy6 (lend_lt hs) ) ?_)
  obtain ⟨hI7, hM⟩ := chk_some hM
  refine ow_ev (ev_add (hr := fun hg => i64b_I64 hI7)) ?_
  refine ow_ev ev_assign ?_
  refine ow_nil (hK3 _ _ ?_); clear hK3
  refine cw_seq fun K4 hK4 => ?_
  refine cw_region ?_
  refine ow_ev (ev_build [.slice none 0 0, .slice none 0 0]) ?_
  refine ow_cons (st_alloc rfl (k := fun b8 => ?_))
  refine ow_cons (st_store_all (b := b8) (vs := [.slice none 0 0, .slice none 0 0]) (k := ?_))
  refine ow_nil (hK4 _ _ ?_); clear hK4
  refine cw_seq fun K5 hK5 => ?_
  refine cw_region ?_
  refine ow_ev (ev_field_addr 0) ?_
  refine ow_ev (ev_load_own (b := b4)) ?_
  refine ow_ev (ev_build [.slice r3.1.a y1.Supply.length r3.1.cap, .slice none 0 0]) ?_
  refine ow_cons (st_alloc rfl (k := fun b9 => ?_))
  refine ow_cons (st_store_all (b := b9) (vs := [.slice r3.1.a y1.Supply.length r3.1.cap, .slice none 0 0]) (k := ?_))
  refine ow_nil (hK5 _ _ ?_); clear hK5
  refine cw_seq fun K6 hK6 => ?_
  refine cw_seq fun K7 hK7 => ?_
  refine cw_region ?_
  refine ow_ev (ev_field_addr 0) ?_
  refine ow_ev (ev_load_own (b := b4)) ?_
  refine ow_have (fun w hm => Kn.len (Kn.trow (e := 3) (r := r3.1) (by repeat (first | exact Has.head | apply Has.tail))) hm) fun hl10 => ?_
  refine ow_ev ev_len ?_
  refine ow_ev ev_move ?_
  refine ow_nil (hK7 _ _ ?_); clear hK7
  refine cw_block ?_
  refine cw_imp (fun w hm => hm.row_nil (α := Arc) 40 (fun _ => ())) ?_
  refine cw_imp (fun w hm => hm.row_nil (α := Int) 3 (fun _ => ())) ?_
  refine cw_imp (fun w hm => hm.row_nil (α := Arc) 40 (fun _ => ())) ?_
  refine cw_loop (γ := Nat × ((List Int) × Nat) × (SR (GoRep.R Int))) (env := fun (_, (lwide_1_0, t31_1), rwide_1_0) => [(5, .v (.pointer (some ⟨b4, 0, none⟩))), (6, .v (.int .i64 (2 + y5))), (7, .v (.pointer (some ⟨b8, 0, none⟩))), (8, .v (.pointer (some ⟨b9, 0, none⟩))), (29, .v (.slice r3.1.a y1.Supply.length r3.1.cap)), (30, .v (.int .i64 (y1.Supply.length : Int))), (31, .v (.int .i64 (t31_1 : Int)))]) (mem := fun (_, (lwide_1_0, t31_1), rwide_1_0) => [trow 3 r3.1 y1.Supply, trow 40 r3.2 y1.Arcs, own b4 25 [.slice r3.1.a y1.Supply.length r3.1.cap, .slice r3.2.a y1.Arcs.length r3.2.cap], trow 3 rwide_1_0 lwide_1_0, trow 40 (⟨none, 0, (fun _ => ())⟩ : SR (GoRep.R Arc)   ) ([] : List Arc), own b8 25 [.slice rwide_1_0.a lwide_1_0.length rwide_1_0.cap, .slice (⟨none, 0, (fun _ => ())⟩ : SR (GoRep.R Arc)   ).a (([] : List Arc).length) (⟨none, 0, (fun _ => ())⟩ : SR (GoRep.R Arc)   ).cap], trow 40 (⟨none, 0, (fun _ => ())⟩ : SR (GoRep.R Arc) ) ([] : List Arc), own b9 25 [.slice r3.1.a y1.Supply.length r3.1.cap, .slice (⟨none, 0, (fun _ => ())⟩ : SR (GoRep.R Arc) ).a (([] : List Arc).length) (⟨none, 0, (fun _ => ())⟩ : SR (GoRep.R Arc) ).cap]]) (R := fun g => iter (law27_FlowScale_b1 y1 y5) g.1 g.2.1 = some y) (μ := fun g => g.1) (FUEL, (([] : List Int), 0), (⟨none, 0, (fun _ => ())⟩ : SR (GoRep.R Int)  )) hM ⟨rfl, rfl, rfl, rfl, rfl, rfl, rfl, trivial⟩ (fun w hm => hm.reord) ?_
  clear hM
  intro g hM KL1 hL1
  obtain ⟨nn1, ⟨lwide_1_0, t31_1⟩, rwide_1_0⟩ := g
  dsimp only at hM ⊢
  obtain ⟨nn1, cont1, rfl, hcont1, hM⟩ := iter_open' hM
  dsimp only [law27_FlowScale_b1] at hM
  refine cw_seq fun K8 hK8 => ?_
  refine cw_region ?_
  refine ow_ev ev_lss ?_
  refine ow_nil (hK8 _ _ ?_); clear hK8
  refine cw_seq fun K9 hK9 => ?_
  refine cw_cond rfl (fun hc14 => ?_) (fun hc14 => ?_)
  ·
    replace hM := (ite_t hc14).symm.trans hM
    have hc14d := of_decide_eq_true hc14
    refine cw_skip (hK9 _ _ ?_); clear hK9
    refine cw_seq fun K10 hK10 => ?_
    refine cw_block ?_
    refine cw_seq fun K11 hK11 => ?_
    refine cw_region ?_
    obtain ⟨x15, hx16, hM⟩ := bind_some hM
    refine ow_ev (ev_idx (xs := y1.Supply) 1 (Kn.trow (e := 3) (r := r3.1) (by repeat (first | exact Has.head | apply Has.tail))) (fun hg => let h := idx_some hx16; ⟨h.1, h.2.1⟩)) ?_
    refine ow_ev (ev_ld (i := (t31_1 : Int)) (xs := y1.Supply) (y := x15) 0 (Kn.trow (e := 3) (r := r3.1) (by repeat (first | exact Has.head | apply Has.tail))) (fun _ => hx16)) ?_
    refine ow_ev ev_assign ?_
    refine ow_nil (hK11 _ _ ?_); clear hK11
    refine cw_region ?_
    refine ow_ev (ev_field_addr 0) ?_
    refine ow_ev (ev_load_own (b := b8)) ?_
    refine ow_ev ev_move ?_
    refine ow_ev ev_move ?_
    obtain ⟨hI17, hM⟩ := chk_some hM
    refine ow_ev (ev_mul (hr := fun hg => i64b_I64 hI17)) ?_
    refine ow_cons (st_bslice (α := Int) 3 (fun _ => ()) ([(x15 * (2 + y5))] : List Int) (OkL.flat (fun _ _ _ _ => trivial)) (fun r18 => ?_))
    obtain ⟨hb19, hM⟩ := chk_some hM
    refine ow_cons (st_append (r := rwide_1_0) (r2 := r18) (by intro r'; repeat (first | exact Upd.head | apply Upd.tail)) (Kn.trow (e := 3) (r := r18) (by repeat (first | exact Has.head | apply Has.tail))) (OkL.flat (fun _ _ _ _ => trivial)) (of_decide_eq_true hb19) (fun r20 => ?_))
    refine ow_ev (ev_field_addr 0) ?_
    refine ow_cons (st_store_own (b := b8) (l' := [.slice r20.a ((lwide_1_0 ++ ([(x15 * (2 + y5))] : List Int)).length) r20.cap, .slice (⟨none, 0, (fun _ => ())⟩ : SR (GoRep.R Arc)   ).a (([] : List Arc).length) (⟨none, 0, (fun _ => ())⟩ : SR (GoRep.R Arc)   ).cap]) (k := ?_))
    refine ow_nil (hK10 _ _ ?_); clear hK10
    refine cw_region ?_
    refine ow_ev (ev_add (hr := fun _ => by unfold I64; omega)) ?_
    refine ow_ev ev_move ?_
    refine ow_nil (hL1 (nn1, ((lwide_1_0 ++ ([(x15 * (2 + y5))] : List Int)), t31_1 + 1), r20) _ _ (eqc hcont1 hM) (Nat.lt_succ_self _) ⟨rfl, rfl, rfl, rfl, rfl, rfl, rfl, trivial⟩ (fun w hm => hm.reord))
  ·
    replace hM := (ite_f hc14).symm.trans hM
    refine cw_exit (hK6 _ _ ?_); clear hK6
    dsimp only [law27_FlowScale_k1] at hM
    refine cw_seq fun K12 hK12 => ?_
    refine cw_seq fun K13 hK13 => ?_
    refine cw_region ?_
    refine ow_ev (ev_field_addr 1) ?_
    refine ow_ev (ev_load_own (b := b4)) ?_
    refine ow_have (fun w hm => Kn.len (Kn.trow (e := 40) (r := r3.2) (by repeat (first | exact Has.head | apply Has.tail))) hm) fun hl21 => ?_
    refine ow_ev ev_len ?_
    refine ow_ev ev_move ?_
    refine ow_nil (hK13 _ _ ?_); clear hK13
    refine cw_block ?_
    refine cw_loop (γ := Nat × ((List Arc) × (List Arc) × Nat) × ((SR (GoRep.R Arc)) × (SR (GoRep.R Arc)))) (env := fun (_, (lwide_2_1, ldear_2_1, t47_2), (rwide_2_1, rdear_2_1)) => [(5, .v (.pointer (some ⟨b4, 0, none⟩))), (6, .v (.int .i64 (2 + y5))), (7, .v (.pointer (some ⟨b8, 0, none⟩))), (8, .v (.pointer (some ⟨b9, 0, none⟩))), (45, .v (.slice r3.2.a y1.Arcs.length r3.2.cap)), (46, .v (.int .i64 (y1.Arcs.length : Int))), (47, .v (.int .i64 (t47_2 : Int)))]) (mem := fun (_, (lwide_2_1, ldear_2_1, t47_2), (rwide_2_1, rdear_2_1)) => [trow 3 r3.1 y1.Supply, trow 40 r3.2 y1.Arcs, own b4 25 [.slice r3.1.a y1.Supply.length r3.1.cap, .slice r3.2.a y1.Arcs.length r3.2.cap], trow 3 rwide_1_0 lwide_1_0, trow 40 rwide_2_1 lwide_2_1, own b8 25 [.slice rwide_1_0.a lwide_1_0.length rwide_1_0.cap, .slice rwide_2_1.a lwide_2_1.length rwide_2_1.cap], trow 40 rdear_2_1 ldear_2_1, own b9 25 [.slice r3.1.a y1.Supply.length r3.1.cap, .slice rdear_2_1.a ldear_2_1.length rdear_2_1.cap]]) (R := fun g => iter (law27_FlowScale_b2 y1 y5 lwide_1_0) g.1 g.2.1 = some y) (μ := fun g => g.1) (FUEL, (([] : List Arc), ([] : List Arc), 0), ((⟨none, 0, (fun _ => ())⟩ : SR (GoRep.R Arc)   ), (⟨none, 0, (fun _ => ())⟩ : SR (GoRep.R Arc) ))) hM ⟨rfl, rfl, rfl, rfl, rfl, rfl, rfl, trivial⟩ (fun w hm => hm.reord) ?_
    clear hM
    intro g hM KL2 hL2
    obtain ⟨nn2, ⟨lwide_2_1, ldear_2_1, t47_2⟩, ⟨rwide_2_1, rdear_2_1⟩⟩ := g
    dsimp only at hM ⊢
    obtain ⟨nn2, cont2, rfl, hcont2, hM⟩ := iter_open' hM
    dsimp only [law27_FlowScale_b2] at hM
    refine cw_seq fun K14 hK14 => ?_
    refine cw_region ?_
    refine ow_ev ev_lss ?_
    refine ow_nil (hK14 _ _ ?_); clear hK14
    refine cw_seq fun K15 hK15 => ?_
    refine cw_cond rfl (fun hc22 => ?_) (fun hc22 => ?_)
    ·
      replace hM := (ite_t hc22).symm.trans hM
      have hc22d := of_decide_eq_true hc22
      refine cw_skip (hK15 _ _ ?_); clear hK15
      refine cw_seq fun K16 hK16 => ?_
      refine cw_block ?_
      refine cw_seq fun K17 hK17 => ?_
      refine cw_region ?_
      obtain ⟨x23, hx24, hM⟩ := bind_some hM
      refine ow_ev (ev_idx (xs := y1.Arcs) 4 (Kn.trow (e := 40) (r := r3.2) (by repeat (first | exact Has.head | apply Has.tail))) (fun hg => let h := idx_some hx24; ⟨h.1, h.2.1⟩)) ?_
      refine ow_ev (ev_lds (m := 4) (i := (t47_2 : Int)) (xs := y1.Arcs) (y := x23) (l := [.int .i64 x23.From, .int .i64 x23.To, .int .i64 x23.Cap, .int .i64 x23.Cost]) 0 (Kn.trow (e := 40) (r := r3.2) (by repeat (first | exact Has.head | apply Has.tail))) (fun _ => hx24)) ?_
      refine ow_cons (st_alloc rfl (k := fun b25 => ?_))
      refine ow_cons (st_store_all (b := b25) (vs := [.int .i64 x23.From, .int .i64 x23.To, .int .i64 x23.Cap, .int .i64 x23.Cost]) (k := ?_))
      refine ow_nil (hK17 _ _ ?_); clear hK17
      refine cw_seq fun K18 hK18 => ?_
      refine cw_region ?_
      refine ow_ev (ev_field_addr 1) ?_
      refine ow_ev (ev_load_own (b := b8)) ?_
      refine ow_ev (ev_field_addr 0) ?_
      refine ow_ev (ev_load_own (b := b25)) ?_
      refine ow_ev (ev_field_addr 1) ?_
      refine ow_ev (ev_load_own (b := b25)) ?_
      refine ow_ev (ev_field_addr 2) ?_
      refine ow_ev (ev_load_own (b := b25)) ?_
      refine ow_ev ev_move ?_
      obtain ⟨hI26, hM⟩ := chk_some hM
      refine ow_ev (ev_mul (hr := fun hg => i64b_I64 hI26)) ?_
      refine ow_ev (ev_field_addr 3) ?_
      refine ow_ev (ev_load_own (b := b25)) ?_
      refine ow_ev (ev_build [.int .i64 x23.From, .int .i64 x23.To, .int .i64 (x23.Cap * (2 + y5)), .int .i64 x23.Cost]) ?_
      refine ow_cons (st_bslice (α := Arc) 40 (fun _ => ()) ([(Arc.mk x23.From x23.To (x23.Cap * (2 + y5)) x23.Cost)] : List Arc) (OkL.flat (fun _ _ _ _ => trivial)) (fun r27 => ?_))
      obtain ⟨hb28, hM⟩ := chk_some hM
      refine ow_cons (st_append (r := rwide_2_1) (r2 := r27) (by intro r'; repeat (first | exact Upd.head | apply Upd.tail)) (Kn.trow (e := 40) (r := r27) (by repeat (first | exact Has.head | apply Has.tail))) (OkL.flat (fun _ _ _ _ => trivial)) (of_decide_eq_true hb28) (fun r29 => ?_))
      refine ow_ev (ev_field_addr 1) ?_
      refine ow_cons (st_store_own (b := b8) (l' := [.slice rwide_1_0.a lwide_1_0.length rwide_1_0.cap, .slice r29.a ((lwide_2_1 ++ ([(Arc.mk x23.From x23.To (x23.Cap * (2 + y5)) x23.Cost)] : List Arc)).length) r29.cap]) (k := ?_))
      refine ow_nil (hK18 _ _ ?_); clear hK18
      refine cw_region ?_
      refine ow_ev (ev_field_addr 1) ?_
      refine ow_ev (ev_load_own (b := b9)) ?_
      refine ow_ev (ev_field_addr 0) ?_
      refine ow_ev (ev_load_own (b := b25)) ?_
      refine ow_ev (ev_field_addr 1) ?_
      refine ow_ev (ev_load_own (b := b25)) ?_
      refine ow_ev (ev_field_addr 2) ?_
      refine ow_ev (ev_load_own (b := b25)) ?_
      refine ow_ev (ev_field_addr 3) ?_
      refine ow_ev (ev_load_own (b := b25)) ?_
      refine ow_ev ev_move ?_
      obtain ⟨hI30, hM⟩ := chk_some hM
      refine ow_ev (ev_mul (hr := fun hg => i64b_I64 hI30)) ?_
      refine ow_ev (ev_build [.int .i64 x23.From, .int .i64 x23.To, .int .i64 x23.Cap, .int .i64 (x23.Cost * (2 + y5))]) ?_
      refine ow_cons (st_bslice (α := Arc) 40 (fun _ => ()) ([(Arc.mk x23.From x23.To x23.Cap (x23.Cost * (2 + y5)))] : List Arc) (OkL.flat (fun _ _ _ _ => trivial)) (fun r31 => ?_))
      obtain ⟨hb32, hM⟩ := chk_some hM
      refine ow_cons (st_append (r := rdear_2_1) (r2 := r31) (by intro r'; repeat (first | exact Upd.head | apply Upd.tail)) (Kn.trow (e := 40) (r := r31) (by repeat (first | exact Has.head | apply Has.tail))) (OkL.flat (fun _ _ _ _ => trivial)) (of_decide_eq_true hb32) (fun r33 => ?_))
      refine ow_ev (ev_field_addr 1) ?_
      refine ow_cons (st_store_own (b := b9) (l' := [.slice r3.1.a y1.Supply.length r3.1.cap, .slice r33.a ((ldear_2_1 ++ ([(Arc.mk x23.From x23.To x23.Cap (x23.Cost * (2 + y5)))] : List Arc)).length) r33.cap]) (k := ?_))
      refine ow_nil (hK16 _ _ ?_); clear hK16
      refine cw_region ?_
      refine ow_ev (ev_add (hr := fun _ => by unfold I64; omega)) ?_
      refine ow_ev ev_move ?_
      refine ow_nil (hL2 (nn2, ((lwide_2_1 ++ ([(Arc.mk x23.From x23.To (x23.Cap * (2 + y5)) x23.Cost)] : List Arc)), (ldear_2_1 ++ ([(Arc.mk x23.From x23.To x23.Cap (x23.Cost * (2 + y5)))] : List Arc)), t47_2 + 1), (r29, r33)) _ _ (eqc hcont2 hM) (Nat.lt_succ_self _) ⟨rfl, rfl, rfl, rfl, rfl, rfl, rfl, trivial⟩ (fun w hm => hm.reord))
    ·
      replace hM := (ite_f hc22).symm.trans hM
      refine cw_exit (hK12 _ _ ?_); clear hK12
      dsimp only [law27_FlowScale_k2] at hM
      refine cw_seq fun K19 hK19 => ?_
      refine cw_region ?_
      refine ow_ev (ev_load_all (b := b4)) ?_
      obtain ⟨y34, hy35, hM⟩ := bind_some hM
      refine ow_cons (st_callv (fun w hm => let ⟨S, hs⟩ := hm; ref24_LeastFlow_spec _ w y1 r3 y34 hy35 (lend_lt hs) ⟨(Kn.lend (Kn.trow (e := 3) (r := r3.1) (by repeat (first | exact Has.head | apply Has.tail))) hs), (Kn.lend (Kn.trow (e := 40) (r := r3.2) (by repeat (first | exact Has.head | apply Has.tail))) hs)⟩) ?_)
      refine ow_ev ev_move ?_
      refine ow_ev (ev_extract (vs := [.int .i64 y34.1, .bool y34.2])) ?_
      refine ow_ev (ev_extract (vs := [.int .i64 y34.1, .bool y34.2])) ?_
      refine ow_ev ev_assign ?_
      refine ow_ev ev_assign ?_
      refine ow_nil (hK19 _ _ ?_); clear hK19
      refine cw_seq fun K20 hK20 => ?_
      refine cw_region ?_
      refine ow_ev (ev_load_all (b := b8)) ?_
      obtain ⟨y36, hy37, hM⟩ := bind_some hM
      refine ow_cons (st_callF SelL.nil (fun S w hs hP => flow_Solve_spec _ w (Graph.mk lwide_1_0 lwide_2_1) (rwide_1_0, rwide_2_1) y36 hy37 (lend_lt hs) ⟨(Kn.lend (Kn.trow (e := 3) (r := rwide_1_0) (by repeat (first | exact Has.head | apply Has.tail))) hs), (Kn.lend (Kn.trow (e := 40) (r := rwide_2_1) (by repeat (first | exact Has.head | apply Has.tail))) hs)⟩) (by intro r c hc; simp only [List.mem_cons, List.not_mem_nil, or_false] at hc; rcases hc with rfl | rfl <;> first | exact flatC_own | exact flatC_trow (fun _ _ _ _ => trivial)) (fun r38 => ?_))
      dsimp only [List.cons_append, List.nil_append]
      refine ow_ev ev_move ?_
      refine ow_ev (ev_extract (vs := [.agg #[.slice r38.1.a y36.1.X.length r38.1.cap, .slice r38.2.a y36.1.Price.length r38.2.cap, .int .i64 y36.1.Cost], .int .i64 y36.2])) ?_
      refine ow_ev (ev_extract (vs := [.agg #[.slice r38.1.a y36.1.X.length r38.1.cap, .slice r38.2.a y36.1.Price.length r38.2.cap, .int .i64 y36.1.Cost], .int .i64 y36.2])) ?_
      refine ow_cons (st_alloc rfl (k := fun b39 => ?_))
      refine ow_cons (st_store_all (b := b39) (vs := [.slice r38.1.a y36.1.X.length r38.1.cap, .slice r38.2.a y36.1.Price.length r38.2.cap, .int .i64 y36.1.Cost]) (k := ?_))
      refine ow_ev ev_assign ?_
      refine ow_nil (hK20 _ _ ?_); clear hK20
      refine cw_seq fun K21 hK21 => ?_
      refine cw_region ?_
      refine ow_ev (ev_load_all (b := b9)) ?_
      obtain ⟨y40, hy41, hM⟩ := bind_some hM
      refine ow_cons (st_callF SelL.nil (fun S w hs hP => flow_Solve_spec _ w (Graph.mk y1.Supply ldear_2_1) (r3.1, rdear_2_1) y40 hy41 (lend_lt hs) ⟨(Kn.lend (Kn.trow (e := 3) (r := r3.1) (by repeat (first | exact Has.head | apply Has.tail))) hs), (Kn.lend (Kn.trow (e := 40) (r := rdear_2_1) (by repeat (first | exact Has.head | apply Has.tail))) hs)⟩) (by intro r c hc; simp only [List.mem_cons, List.not_mem_nil, or_false] at hc; rcases hc with rfl | rfl <;> first | exact flatC_own | exact flatC_trow (fun _ _ _ _ => trivial)) (fun r42 => ?_))
      dsimp only [List.cons_append, List.nil_append]
      refine ow_ev ev_move ?_
      refine ow_ev (ev_extract (vs := [.agg #[.slice r42.1.a y40.1.X.length r42.1.cap, .slice r42.2.a y40.1.Price.length r42.2.cap, .int .i64 y40.1.Cost], .int .i64 y40.2])) ?_
      refine ow_ev (ev_extract (vs := [.agg #[.slice r42.1.a y40.1.X.length r42.1.cap, .slice r42.2.a y40.1.Price.length r42.2.cap, .int .i64 y40.1.Cost], .int .i64 y40.2])) ?_
      refine ow_cons (st_alloc rfl (k := fun b43 => ?_))
      refine ow_cons (st_store_all (b := b43) (vs := [.slice r42.1.a y40.1.X.length r42.1.cap, .slice r42.2.a y40.1.Price.length r42.2.cap, .int .i64 y40.1.Cost]) (k := ?_))
      refine ow_ev ev_assign ?_
      refine ow_nil (hK21 _ _ ?_); clear hK21
      refine cw_seq fun K22 hK22 => ?_
      refine cw_seq fun K23 hK23 => ?_
      refine cw_region ?_
      refine ow_ev ev_move ?_
      refine ow_ev ev_not ?_
      refine ow_nil (hK23 _ _ ?_); clear hK23
      refine cw_cond rfl (fun hc44 => ?_) (fun hc44 => ?_)
      ·
        replace hM := (ite_t hc44).symm.trans hM
        refine cw_seq fun K24 hK24 => ?_
        refine cw_region ?_
        obtain ⟨y45, hy46, hM⟩ := bind_some hM
        refine ow_cons (st_callv (fun w hm => let ⟨S, hs⟩ := hm; law27_awake_spec _ w  y45 hy46 (lend_lt hs) ) ?_)
        refine ow_ev ev_move ?_
        refine ow_evg rfl ev_move ?_
        refine ow_evg rfl ev_eql ?_
        refine ow_ev ev_and ?_
        refine ow_ev ev_move ?_
        refine ow_evg rfl ev_move ?_
        refine ow_evg rfl ev_eql ?_
        refine ow_ev ev_and ?_
        refine ow_ev ev_assign ?_
        refine ow_nil (hK24 _ _ ?_); clear hK24
        obtain rfl := some_inj hM
        refine cw_ret (kw_retc1 (fun w hm => ret_of hm rfl))
      ·
        replace hM := (ite_f hc44).symm.trans hM
        refine cw_skip (hK22 _ _ ?_); clear hK22
        refine cw_seq fun K25 hK25 => ?_
        refine cw_region ?_
        obtain ⟨y47, hy48, hM⟩ := bind_some hM
        refine ow_cons (st_callv (fun w hm => let ⟨S, hs⟩ := hm; law27_awake_spec _ w  y47 hy48 (lend_lt hs) ) ?_)
        refine ow_ev ev_move ?_
        refine ow_evg rfl ev_move ?_
        refine ow_evg rfl ev_eql ?_
        refine ow_ev ev_and ?_
        refine ow_ev ev_move ?_
        refine ow_evg rfl ev_move ?_
        refine ow_evg rfl ev_eql ?_
        refine ow_ev ev_and ?_
        refine ow_ev ev_move ?_
        refine ow_evg rfl (ev_field_addr 2) ?_
        refine ow_evg rfl (ev_load_own (b := b39)) ?_
        refine ow_evg rfl ev_move ?_
        refine ow_evg rfl ev_move ?_
        obtain ⟨hI49, hM⟩ := chk_some hM
        refine ow_evg rfl (ev_mul (hr := fun hg => i64b_I64 (gor hI49 hg))) ?_
        refine ow_evg rfl ev_eql ?_
        refine ow_ev ev_and ?_
        refine ow_ev ev_move ?_
        refine ow_evg rfl (ev_field_addr 2) ?_
        refine ow_evg rfl (ev_load_own (b := b43)) ?_
        refine ow_evg rfl ev_move ?_
        refine ow_evg rfl ev_move ?_
        obtain ⟨hI50, hM⟩ := chk_some hM
        refine ow_evg rfl (ev_mul (hr := fun hg => i64b_I64 (gor hI50 hg))) ?_
        refine ow_evg rfl ev_eql ?_
        refine ow_ev ev_and ?_
        refine ow_ev ev_assign ?_
        refine ow_nil (hK25 _ _ ?_); clear hK25
        obtain rfl := some_inj hM
        refine cw_ret (kw_retc1 (fun w hm => ret_of hm rfl))

end Go.Proofs.Ytedocibniankjaa
