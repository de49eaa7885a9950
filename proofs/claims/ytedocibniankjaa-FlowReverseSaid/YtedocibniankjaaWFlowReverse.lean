/- Models of functions, and that the code computes them. -/
import Derived.Test.YtedocibniankjaaFe
namespace Go.Proofs.Ytedocibniankjaa
open Go.Dc Go.RowKit
set_option maxRecDepth 10000
set_option linter.unusedVariables false
def law27_FlowReverse_k2 (y1 : Graph) (lh_1_0 : List Int) (lh_2_1 : List Arc) : Unit → Option Bool := fun _ =>
  (ref24_LeastFlow_m y1).bind fun y24 =>
  (flow_Solve_m (Graph.mk lh_1_0 lh_2_1)).bind fun y26 =>
  if (!y24.2) then
    ((law27_awake_m).bind fun y31 =>
    some (y31 && decide (y26.2 = 14)))
  else
    ((law27_awake_m).bind fun y33 =>
    (whn ((y33 && decide (y26.2 = 0)) && decide (y26.1.Cost = y24.1)) default (ref24_VerifyFlow_m (Graph.mk lh_1_0 lh_2_1) y26.1)).bind fun y35 =>
    some (((y33 && decide (y26.2 = 0)) && decide (y26.1.Cost = y24.1)) && y35))
def law27_FlowReverse_b2 (y1 : Graph) (lh_1_0 : List Int) (cont2 : ((List Arc) × Nat) → Option Bool) : ((List Arc) × Nat) → Option Bool := fun (lh_2_1, t34_2) =>
  if decide ((t34_2 : Int) < (y1.Arcs.length : Int)) then
    ((idx y1.Arcs (t34_2 : Int)).bind fun x18 =>
    chk (decide ((lh_2_1.length + ([(Arc.mk x18.To x18.From x18.Cap x18.Cost)] : List Arc).length) * 32 ≤ 140737488355328)) <|
    cont2 ((lh_2_1 ++ ([(Arc.mk x18.To x18.From x18.Cap x18.Cost)] : List Arc)), t34_2 + 1))
  else
    (law27_FlowReverse_k2 y1 lh_1_0 lh_2_1 ())
def law27_FlowReverse_k1 (y1 : Graph) (lh_1_0 : List Int) : Unit → Option Bool := fun _ =>
  iter (law27_FlowReverse_b2 y1 lh_1_0) FUEL (([] : List Arc), 0)
def law27_FlowReverse_b1 (y1 : Graph) (cont1 : ((List Int) × Nat) → Option Bool) : ((List Int) × Nat) → Option Bool := fun (lh_1_0, t19_1) =>
  if decide ((t19_1 : Int) < (y1.Supply.length : Int)) then
    ((idx y1.Supply (t19_1 : Int)).bind fun x10 =>
    chk (i64b (-x10)) <|
    chk (decide ((lh_1_0.length + ([(-x10)] : List Int).length) * 8 ≤ 140737488355328)) <|
    cont1 ((lh_1_0 ++ ([(-x10)] : List Int)), t19_1 + 1))
  else
    (law27_FlowReverse_k1 y1 lh_1_0 ())
def law27_FlowReverse_m (l0 : List Int) : Option Bool :=
  (keep2_Graph_m l0).bind fun y1 =>
  iter (law27_FlowReverse_b1 y1) FUEL (([] : List Int), 0)
theorem law27_FlowReverse_spec (S : Soup) (w : World) (l0 : List Int) (r_l0 : GoRep.R (List Int)) (y : Bool) (hM : law27_FlowReverse_m l0 = some y) (hS : ∀ k, S k → k < w.heap.size) (h_l0 : GoRep.ok S w r_l0 l0) :
    Calls Try.prog 6 #[.slice r_l0.a l0.length r_l0.cap] w (Ret w (.bool y)) := by
  refine calls_cw (args := [_]) Try.func6 rfl ((pre_nil hS).start |>.immP (α := List Int) (r := r_l0) (x := l0) h_l0) rfl ?_
  unfold law27_FlowReverse_m at hM
  refine cw_seq fun K1 hK1 => ?_
  refine cw_region ?_
  refine ow_ev ev_assign ?_
  refine ow_nil (hK1 _ _ ?_); clear hK1
  refine cw_seq fun K2 hK2 => ?_
  refine cw_region ?_
  refine ow_ev ev_move ?_
  obtain ⟨y1, hy2, hM⟩ := bind_some hM
  refine ow_cons (st_callF SelL.nil (fun S w hs hP => keep2_Graph_spec _ w l0 r_l0 y1 hy2 (lend_lt hs) (Kn.lend (Kn.imm (α := List Int) (r := r_l0) (x := l0) (by repeat (first | exact Has.head | apply Has.tail))) hs)) (by intro r c hc; simp only [List.mem_cons, List.not_mem_nil, or_false] at hc; rcases hc with rfl | rfl <;> first | exact flatC_own | exact flatC_trow (fun _ _ _ _ => trivial)) (fun r3 => ?_))
  dsimp only [List.cons_append, List.nil_append]
  refine ow_cons (st_alloc rfl (k := fun b4 => ?_))
  refine ow_cons (st_store_all (b := b4) (vs := [.slice r3.1.a y1.Supply.length r3.1.cap, .slice r3.2.a y1.Arcs.length r3.2.cap]) (k := ?_))
  refine ow_nil (hK2 _ _ ?_); clear hK2
  refine cw_seq fun K3 hK3 => ?_
  refine cw_region ?_
  refine ow_ev (ev_build [.slice none 0 0, .slice none 0 0]) ?_
  refine ow_cons (st_alloc rfl (k := fun b5 => ?_))
  refine ow_cons (st_store_all (b := b5) (vs := [.slice none 0 0, .slice none 0 0]) (k := ?_))
  refine ow_nil (hK3 _ _ ?_); clear hK3
  refine cw_seq fun K4 hK4 => ?_
  refine cw_seq fun K5 hK5 => ?_
  refine cw_region ?_
  refine ow_ev (ev_field_addr 0) ?_
  refine ow_ev (ev_load_own (b := b4)) ?_
  refine ow_have (fun w hm => Kn.len (Kn.trow (e := 3) (r := r3.1) (by repeat (first | exact Has.head | apply Has.tail))) hm) fun hl6 => ?_
  refine ow_ev ev_len ?_
  refine ow_ev ev_move ?_
  refine ow_nil (hK5 _ _ ?_); clear hK5
  refine cw_block ?_
  refine cw_imp (fun w hm => hm.row_nil (α := Int) 3 (fun _ => ())) ?_
  refine cw_imp (fun w hm => hm.row_nil (α := Arc) 40 (fun _ => ())) ?_
  refine cw_loop (γ := Nat × ((List Int) × Nat) × (SR (GoRep.R Int))) (env := fun (_, (lh_1_0, t19_1), rh_1_0) => [(3, .v (.pointer (some ⟨b4, 0, none⟩))), (4, .v (.pointer (some ⟨b5, 0, none⟩))), (17, .v (.slice r3.1.a y1.Supply.length r3.1.cap)), (18, .v (.int .i64 (y1.Supply.length : Int))), (19, .v (.int .i64 (t19_1 : Int)))]) (mem := fun (_, (lh_1_0, t19_1), rh_1_0) => [trow 3 r3.1 y1.Supply, trow 40 r3.2 y1.Arcs, own b4 25 [.slice r3.1.a y1.Supply.length r3.1.cap, .slice r3.2.a y1.Arcs.length r3.2.cap], trow 3 rh_1_0 lh_1_0, trow 40 (⟨none, 0, (fun _ => ())⟩ : SR (GoRep.R Arc)  ) ([] : List Arc), own b5 25 [.slice rh_1_0.a lh_1_0.length rh_1_0.cap, .slice (⟨none, 0, (fun _ => ())⟩ : SR (GoRep.R Arc)  ).a (([] : List Arc).length) (⟨none, 0, (fun _ => ())⟩ : SR (GoRep.R Arc)  ).cap]]) (R := fun g => iter (law27_FlowReverse_b1 y1) g.1 g.2.1 = some y) (μ := fun g => g.1) (FUEL, (([] : List Int), 0), (⟨none, 0, (fun _ => ())⟩ : SR (GoRep.R Int) )) hM ⟨rfl, rfl, rfl, rfl, rfl, trivial⟩ (fun w hm => hm.reord) ?_
  clear hM
  intro g hM KL1 hL1
  obtain ⟨nn1, ⟨lh_1_0, t19_1⟩, rh_1_0⟩ := g
  dsimp only at hM ⊢
  obtain ⟨nn1, cont1, rfl, hcont1, hM⟩ := iter_open' hM
  dsimp only [law27_FlowReverse_b1] at hM
  refine cw_seq fun K6 hK6 => ?_
  refine cw_region ?_
  refine ow_ev ev_lss ?_
  refine ow_nil (hK6 _ _ ?_); clear hK6
  refine cw_seq fun K7 hK7 => ?_
  refine cw_cond rfl (fun hc9 => ?_) (fun hc9 => ?_)
  ·
    replace hM := (ite_t hc9).symm.trans hM
    have hc9d := of_decide_eq_true hc9
    refine cw_skip (hK7 _ _ ?_); clear hK7
    refine cw_seq fun K8 hK8 => ?_
    refine cw_block ?_
    refine cw_seq fun K9 hK9 => ?_
    refine cw_region ?_
    obtain ⟨x10, hx11, hM⟩ := bind_some hM
    refine ow_ev (ev_idx (xs := y1.Supply) 1 (Kn.trow (e := 3) (r := r3.1) (by repeat (first | exact Has.head | apply Has.tail))) (fun hg => let h := idx_some hx11; ⟨h.1, h.2.1⟩)) ?_
    refine ow_ev (ev_ld (i := (t19_1 : Int)) (xs := y1.Supply) (y := x10) 0 (Kn.trow (e := 3) (r := r3.1) (by repeat (first | exact Has.head | apply Has.tail))) (fun _ => hx11)) ?_
    refine ow_ev ev_assign ?_
    refine ow_nil (hK9 _ _ ?_); clear hK9
    refine cw_region ?_
    refine ow_ev (ev_field_addr 0) ?_
    refine ow_ev (ev_load_own (b := b5)) ?_
    refine ow_ev ev_move ?_
    obtain ⟨hI12, hM⟩ := chk_some hM
    refine ow_ev (ev_neg (hr := fun hg => i64b_I64 hI12)) ?_
    refine ow_cons (st_bslice (α := Int) 3 (fun _ => ()) ([(-x10)] : List Int) (OkL.flat (fun _ _ _ _ => trivial)) (fun r13 => ?_))
    obtain ⟨hb14, hM⟩ := chk_some hM
    refine ow_cons (st_append (r := rh_1_0) (r2 := r13) (by intro r'; repeat (first | exact Upd.head | apply Upd.tail)) (Kn.trow (e := 3) (r := r13) (by repeat (first | exact Has.head | apply Has.tail))) (OkL.flat (fun _ _ _ _ => trivial)) (of_decide_eq_true hb14) (fun r15 => ?_))
    refine ow_ev (ev_field_addr 0) ?_
    refine ow_cons (st_store_own (b := b5) (l' := [.slice r15.a ((lh_1_0 ++ ([(-x10)] : List Int)).length) r15.cap, .slice (⟨none, 0, (fun _ => ())⟩ : SR (GoRep.R Arc)  ).a (([] : List Arc).length) (⟨none, 0, (fun _ => ())⟩ : SR (GoRep.R Arc)  ).cap]) (k := ?_))
    refine ow_nil (hK8 _ _ ?_); clear hK8
    refine cw_region ?_
    refine ow_ev (ev_add (hr := fun _ => by unfold I64; omega)) ?_
    refine ow_ev ev_move ?_
    refine ow_nil (hL1 (nn1, ((lh_1_0 ++ ([(-x10)] : List Int)), t19_1 + 1), r15) _ _ (eqc hcont1 hM) (Nat.lt_succ_self _) ⟨rfl, rfl, rfl, rfl, rfl, trivial⟩ (fun w hm => hm.reord))
  ·
    replace hM := (ite_f hc9).symm.trans hM
    refine cw_exit (hK4 _ _ ?_); clear hK4
    dsimp only [law27_FlowReverse_k1] at hM
    refine cw_seq fun K10 hK10 => ?_
    refine cw_seq fun K11 hK11 => ?_
    refine cw_region ?_
    refine ow_ev (ev_field_addr 1) ?_
    refine ow_ev (ev_load_own (b := b4)) ?_
    refine ow_have (fun w hm => Kn.len (Kn.trow (e := 40) (r := r3.2) (by repeat (first | exact Has.head | apply Has.tail))) hm) fun hl16 => ?_
    refine ow_ev ev_len ?_
    refine ow_ev ev_move ?_
    refine ow_nil (hK11 _ _ ?_); clear hK11
    refine cw_block ?_
    refine cw_loop (γ := Nat × ((List Arc) × Nat) × (SR (GoRep.R Arc))) (env := fun (_, (lh_2_1, t34_2), rh_2_1) => [(3, .v (.pointer (some ⟨b4, 0, none⟩))), (4, .v (.pointer (some ⟨b5, 0, none⟩))), (32, .v (.slice r3.2.a y1.Arcs.length r3.2.cap)), (33, .v (.int .i64 (y1.Arcs.length : Int))), (34, .v (.int .i64 (t34_2 : Int)))]) (mem := fun (_, (lh_2_1, t34_2), rh_2_1) => [trow 3 r3.1 y1.Supply, trow 40 r3.2 y1.Arcs, own b4 25 [.slice r3.1.a y1.Supply.length r3.1.cap, .slice r3.2.a y1.Arcs.length r3.2.cap], trow 3 rh_1_0 lh_1_0, trow 40 rh_2_1 lh_2_1, own b5 25 [.slice rh_1_0.a lh_1_0.length rh_1_0.cap, .slice rh_2_1.a lh_2_1.length rh_2_1.cap]]) (R := fun g => iter (law27_FlowReverse_b2 y1 lh_1_0) g.1 g.2.1 = some y) (μ := fun g => g.1) (FUEL, (([] : List Arc), 0), (⟨none, 0, (fun _ => ())⟩ : SR (GoRep.R Arc)  )) hM ⟨rfl, rfl, rfl, rfl, rfl, trivial⟩ (fun w hm => hm.reord) ?_
    clear hM
    intro g hM KL2 hL2
    obtain ⟨nn2, ⟨lh_2_1, t34_2⟩, rh_2_1⟩ := g
    dsimp only at hM ⊢
    obtain ⟨nn2, cont2, rfl, hcont2, hM⟩ := iter_open' hM
    dsimp only [law27_FlowReverse_b2] at hM
    refine cw_seq fun K12 hK12 => ?_
    refine cw_region ?_
    refine ow_ev ev_lss ?_
    refine ow_nil (hK12 _ _ ?_); clear hK12
    refine cw_seq fun K13 hK13 => ?_
    refine cw_cond rfl (fun hc17 => ?_) (fun hc17 => ?_)
    ·
      replace hM := (ite_t hc17).symm.trans hM
      have hc17d := of_decide_eq_true hc17
      refine cw_skip (hK13 _ _ ?_); clear hK13
      refine cw_seq fun K14 hK14 => ?_
      refine cw_block ?_
      refine cw_seq fun K15 hK15 => ?_
      refine cw_region ?_
      obtain ⟨x18, hx19, hM⟩ := bind_some hM
      refine ow_ev (ev_idx (xs := y1.Arcs) 4 (Kn.trow (e := 40) (r := r3.2) (by repeat (first | exact Has.head | apply Has.tail))) (fun hg => let h := idx_some hx19; ⟨h.1, h.2.1⟩)) ?_
      refine ow_ev (ev_lds (m := 4) (i := (t34_2 : Int)) (xs := y1.Arcs) (y := x18) (l := [.int .i64 x18.From, .int .i64 x18.To, .int .i64 x18.Cap, .int .i64 x18.Cost]) 0 (Kn.trow (e := 40) (r := r3.2) (by repeat (first | exact Has.head | apply Has.tail))) (fun _ => hx19)) ?_
      refine ow_cons (st_alloc rfl (k := fun b20 => ?_))
      refine ow_cons (st_store_all (b := b20) (vs := [.int .i64 x18.From, .int .i64 x18.To, .int .i64 x18.Cap, .int .i64 x18.Cost]) (k := ?_))
      refine ow_nil (hK15 _ _ ?_); clear hK15
      refine cw_region ?_
      refine ow_ev (ev_field_addr 1) ?_
      refine ow_ev (ev_load_own (b := b5)) ?_
      refine ow_ev (ev_field_addr 1) ?_
      refine ow_ev (ev_load_own (b := b20)) ?_
      refine ow_ev (ev_field_addr 0) ?_
      refine ow_ev (ev_load_own (b := b20)) ?_
      refine ow_ev (ev_field_addr 2) ?_
      refine ow_ev (ev_load_own (b := b20)) ?_
      refine ow_ev (ev_field_addr 3) ?_
      refine ow_ev (ev_load_own (b := b20)) ?_
      refine ow_ev (ev_build [.int .i64 x18.To, .int .i64 x18.From, .int .i64 x18.Cap, .int .i64 x18.Cost]) ?_
      refine ow_cons (st_bslice (α := Arc) 40 (fun _ => ()) ([(Arc.mk x18.To x18.From x18.Cap x18.Cost)] : List Arc) (OkL.flat (fun _ _ _ _ => trivial)) (fun r21 => ?_))
      obtain ⟨hb22, hM⟩ := chk_some hM
      refine ow_cons (st_append (r := rh_2_1) (r2 := r21) (by intro r'; repeat (first | exact Upd.head | apply Upd.tail)) (Kn.trow (e := 40) (r := r21) (by repeat (first | exact Has.head | apply Has.tail))) (OkL.flat (fun _ _ _ _ => trivial)) (of_decide_eq_true hb22) (fun r23 => ?_))
      refine ow_ev (ev_field_addr 1) ?_
      refine ow_cons (st_store_own (b := b5) (l' := [.slice rh_1_0.a lh_1_0.length rh_1_0.cap, .slice r23.a ((lh_2_1 ++ ([(Arc.mk x18.To x18.From x18.Cap x18.Cost)] : List Arc)).length) r23.cap]) (k := ?_))
      refine ow_nil (hK14 _ _ ?_); clear hK14
      refine cw_region ?_
      refine ow_ev (ev_add (hr := fun _ => by unfold I64; omega)) ?_
      refine ow_ev ev_move ?_
      refine ow_nil (hL2 (nn2, ((lh_2_1 ++ ([(Arc.mk x18.To x18.From x18.Cap x18.Cost)] : List Arc)), t34_2 + 1), r23) _ _ (eqc hcont2 hM) (Nat.lt_succ_self _) ⟨rfl, rfl, rfl, rfl, rfl, trivial⟩ (fun w hm => hm.reord))
    ·
      replace hM := (ite_f hc17).symm.trans hM
      refine cw_exit (hK10 _ _ ?_); clear hK10
      dsimp only [law27_FlowReverse_k2] at hM
      refine cw_seq fun K16 hK16 => ?_
      refine cw_region ?_
      refine ow_ev (ev_load_all (b := b4)) ?_
      obtain ⟨y24, hy25, hM⟩ := bind_some hM
      refine ow_cons (st_callv (fun w hm => let ⟨S, hs⟩ := hm; ref24_LeastFlow_spec _ w y1 r3 y24 hy25 (lend_lt hs) ⟨(Kn.lend (Kn.trow (e := 3) (r := r3.1) (by repeat (first | exact Has.head | apply Has.tail))) hs), (Kn.lend (Kn.trow (e := 40) (r := r3.2) (by repeat (first | exact Has.head | apply Has.tail))) hs)⟩) ?_)
      refine ow_ev ev_move ?_
      refine ow_ev (ev_extract (vs := [.int .i64 y24.1, .bool y24.2])) ?_
      refine ow_ev (ev_extract (vs := [.int .i64 y24.1, .bool y24.2])) ?_
      refine ow_ev ev_assign ?_
      refine ow_ev ev_assign ?_
      refine ow_nil (hK16 _ _ ?_); clear hK16
      refine cw_seq fun K17 hK17 => ?_
      refine cw_region ?_
      refine ow_ev (ev_load_all (b := b5)) ?_
      obtain ⟨y26, hy27, hM⟩ := bind_some hM
      refine ow_cons (st_callF SelL.nil (fun S w hs hP => flow_Solve_spec _ w (Graph.mk lh_1_0 lh_2_1) (rh_1_0, rh_2_1) y26 hy27 (lend_lt hs) ⟨(Kn.lend (Kn.trow (e := 3) (r := rh_1_0) (by repeat (first | exact Has.head | apply Has.tail))) hs), (Kn.lend (Kn.trow (e := 40) (r := rh_2_1) (by repeat (first | exact Has.head | apply Has.tail))) hs)⟩) (by intro r c hc; simp only [List.mem_cons, List.not_mem_nil, or_false] at hc; rcases hc with rfl | rfl <;> first | exact flatC_own | exact flatC_trow (fun _ _ _ _ => trivial)) (fun r28 => ?_))
      dsimp only [List.cons_append, List.nil_append]
      refine ow_ev ev_move ?_
      refine ow_ev (ev_extract (vs := [.agg #[.slice r28.1.a y26.1.X.length r28.1.cap, .slice r28.2.a y26.1.Price.length r28.2.cap, .int .i64 y26.1.Cost], .int .i64 y26.2])) ?_
      refine ow_ev (ev_extract (vs := [.agg #[.slice r28.1.a y26.1.X.length r28.1.cap, .slice r28.2.a y26.1.Price.length r28.2.cap, .int .i64 y26.1.Cost], .int .i64 y26.2])) ?_
      refine ow_cons (st_alloc rfl (k := fun b29 => ?_))
      refine ow_cons (st_store_all (b := b29) (vs := [.slice r28.1.a y26.1.X.length r28.1.cap, .slice r28.2.a y26.1.Price.length r28.2.cap, .int .i64 y26.1.Cost]) (k := ?_))
      refine ow_ev ev_assign ?_
      refine ow_nil (hK17 _ _ ?_); clear hK17
      refine cw_seq fun K18 hK18 => ?_
      refine cw_seq fun K19 hK19 => ?_
      refine cw_region ?_
      refine ow_ev ev_move ?_
      refine ow_ev ev_not ?_
      refine ow_nil (hK19 _ _ ?_); clear hK19
      refine cw_cond rfl (fun hc30 => ?_) (fun hc30 => ?_)
      ·
        replace hM := (ite_t hc30).symm.trans hM
        refine cw_seq fun K20 hK20 => ?_
        refine cw_region ?_
        obtain ⟨y31, hy32, hM⟩ := bind_some hM
        refine ow_cons (st_callv (fun w hm => let ⟨S, hs⟩ := hm; law27_awake_spec _ w  y31 hy32 (lend_lt hs) ) ?_)
        refine ow_ev ev_move ?_
        refine ow_evg rfl ev_move ?_
        refine ow_evg rfl ev_eql ?_
        refine ow_ev ev_and ?_
        refine ow_ev ev_assign ?_
        refine ow_nil (hK20 _ _ ?_); clear hK20
        obtain rfl := some_inj hM
        refine cw_ret (kw_retc1 (fun w hm => ret_of hm rfl))
      ·
        replace hM := (ite_f hc30).symm.trans hM
        refine cw_skip (hK18 _ _ ?_); clear hK18
        refine cw_seq fun K21 hK21 => ?_
        refine cw_region ?_
        obtain ⟨y33, hy34, hM⟩ := bind_some hM
        refine ow_cons (st_callv (fun w hm => let ⟨S, hs⟩ := hm; law27_awake_spec _ w  y33 hy34 (lend_lt hs) ) ?_)
        refine ow_ev ev_move ?_
        refine ow_evg rfl ev_move ?_
        refine ow_evg rfl ev_eql ?_
        refine ow_ev ev_and ?_
        refine ow_ev ev_move ?_
        refine ow_evg rfl (ev_field_addr 2) ?_
        refine ow_evg rfl (ev_load_own (b := b29)) ?_
        refine ow_evg rfl ev_move ?_
        refine ow_evg rfl ev_eql ?_
        refine ow_ev ev_and ?_
        refine ow_ev ev_move ?_
        refine ow_evg rfl (ev_load_all (b := b5)) ?_
        refine ow_evg rfl (ev_load_all (b := b29)) ?_
        obtain ⟨y35, hy36, hM⟩ := bind_some hM
        refine ow_callg rfl (fun hg w hm => let ⟨S, hs⟩ := hm; ref24_VerifyFlow_spec _ w (Graph.mk lh_1_0 lh_2_1) (rh_1_0, rh_2_1) y26.1 r28 y35 (whn_some hy36 hg) (lend_lt hs) ⟨(Kn.lend (Kn.trow (e := 3) (r := rh_1_0) (by repeat (first | exact Has.head | apply Has.tail))) hs), (Kn.lend (Kn.trow (e := 40) (r := rh_2_1) (by repeat (first | exact Has.head | apply Has.tail))) hs)⟩ ⟨(Kn.lend (Kn.trow (e := 3) (r := r28.1) (by repeat (first | exact Has.head | apply Has.tail))) hs), (Kn.lend (Kn.trow (e := 3) (r := r28.2) (by repeat (first | exact Has.head | apply Has.tail))) hs)⟩) ?_
        refine ow_ev ev_and ?_
        refine ow_ev ev_assign ?_
        refine ow_nil (hK21 _ _ ?_); clear hK21
        obtain rfl := some_inj hM
        refine cw_ret (kw_retc1 (fun w hm => ret_of hm rfl))

end Go.Proofs.Ytedocibniankjaa
