/- Models of functions, and that the code computes them. -/
import Derived.Test.YtedocibniankjaaFe
namespace Go.Proofs.Ytedocibniankjaa
open Go.Dc Go.RowKit
set_option maxRecDepth 10000
set_option linter.unusedVariables false
def law27_FlowLarge_k2 (m10 : List Int) (y4 : Int) (y1 : Int) (lg_1_1 : List Arc) : Int → Option Bool := fun least_j2 =>
  (flow_Solve_m (Graph.mk ((m10.set (0 : Int).toNat y4).set ((2 + y1) - 1).toNat (-y4)) lg_1_1)).bind fun y31 =>
  (law27_awake_m).bind fun y35 =>
  (whn (y35 && decide (y31.2 = 0)) default (ref24_VerifyFlow_m (Graph.mk ((m10.set (0 : Int).toNat y4).set ((2 + y1) - 1).toNat (-y4)) lg_1_1) y31.1)).bind fun y37 =>
  chk (!((y35 && decide (y31.2 = 0)) && y37) || i64b ((2 + y1) - 1)) <|
  chk (!((y35 && decide (y31.2 = 0)) && y37) || i64b (least_j2 * ((2 + y1) - 1))) <|
  some (((y35 && decide (y31.2 = 0)) && y37) && decide (y31.1.Cost = (least_j2 * ((2 + y1) - 1))))
def law27_FlowLarge_k1 (y4 : Int) (y8 : Int) (y6 : Int) (m10 : List Int) (y1 : Int) (lg_1_1 : List Arc) : Unit → Option Bool := fun _ =>
  chk (i64b (y4 * y8)) <|
  if decide (y6 < y8) then
    (chk (decide (2 ≠ 0) && i64b (y4.tdiv 2)) <|
    chk (i64b ((y4.tdiv 2) * y6)) <|
    chk (decide (2 ≠ 0) && i64b (y4.tdiv 2)) <|
    chk (i64b (y4 - (y4.tdiv 2))) <|
    chk (i64b ((y4 - (y4.tdiv 2)) * y8)) <|
    chk (i64b (((y4.tdiv 2) * y6) + ((y4 - (y4.tdiv 2)) * y8))) <|
    law27_FlowLarge_k2 m10 y4 y1 lg_1_1 (((y4.tdiv 2) * y6) + ((y4 - (y4.tdiv 2)) * y8)))
  else
    (law27_FlowLarge_k2 m10 y4 y1 lg_1_1 (y4 * y8))
def law27_FlowLarge_b1 (y1 : Int) (y4 : Int) (y6 : Int) (y8 : Int) (m10 : List Int) (cont1 : ((List Arc) × Nat) → Option Bool) : ((List Arc) × Nat) → Option Bool := fun (lg_1_1, i_1) =>
  chk (i64b ((i_1 : Int) + 1)) <|
  if decide (((i_1 : Int) + 1) < (2 + y1)) then
    (chk (i64b ((i_1 : Int) + 1)) <|
    chk (decide (2 ≠ 0) && i64b (y4.tdiv 2)) <|
    chk (i64b ((i_1 : Int) + 1)) <|
    chk (decide ((lg_1_1.length + ([(Arc.mk (i_1 : Int) ((i_1 : Int) + 1) (y4.tdiv 2) y6), (Arc.mk (i_1 : Int) ((i_1 : Int) + 1) y4 y8)] : List Arc).length) * 32 ≤ 140737488355328)) <|
    chk (i64b ((i_1 : Int) + 1)) <|
    cont1 ((lg_1_1 ++ ([(Arc.mk (i_1 : Int) ((i_1 : Int) + 1) (y4.tdiv 2) y6), (Arc.mk (i_1 : Int) ((i_1 : Int) + 1) y4 y8)] : List Arc)), i_1 + 1))
  else
    (law27_FlowLarge_k1 y4 y8 y6 m10 y1 lg_1_1 ())
def law27_FlowLarge_m (n0 : Int) (supply0 : Int) (a0 : Int) (b0 : Int) : Option Bool :=
  (keep_Pick_m n0 95).bind fun y1 =>
  chk (i64b (2 + y1)) <|
  (keep_Pick_m supply0 1048576).bind fun y4 =>
  (keep_Pick_m a0 1000).bind fun y6 =>
  (keep_Pick_m b0 1000).bind fun y8 =>
  (mk (α := Int) 0 (2 + y1)).bind fun m10 =>
  chk (i64b ((2 + y1) - 1)) <|
  chk (i64b (-y4)) <|
  (idx m10 0).bind fun x16 =>
  (idx (m10.set (0 : Int).toNat y4) ((2 + y1) - 1)).bind fun x18 =>
  iter (law27_FlowLarge_b1 y1 y4 y6 y8 m10) FUEL (([] : List Arc), 0)
theorem law27_FlowLarge_spec (S : Soup) (w : World) (n0 : Int) (supply0 : Int) (a0 : Int) (b0 : Int) (y : Bool) (hM : law27_FlowLarge_m n0 supply0 a0 b0 = some y) (hS : ∀ k, S k → k < w.heap.size)  :
    Calls Try.prog 7 #[.int .i64 n0, .int .i64 supply0, .int .i64 a0, .int .i64 b0] w (Ret w (.bool y)) := by
  refine calls_cw (args := [_, _, _, _]) Try.func7 rfl ((pre_nil hS).start) rfl ?_
  unfold law27_FlowLarge_m at hM
  refine cw_seq fun K1 hK1 => ?_
  refine cw_region ?_
  refine ow_ev ev_assign ?_
  refine ow_nil (hK1 _ _ ?_); clear hK1
  refine cw_seq fun K2 hK2 => ?_
  refine cw_region ?_
  refine ow_ev ev_move ?_
  obtain ⟨y1, hy2, hM⟩ := bind_some hM
  refine ow_cons (st_callv (fun w hm => let ⟨S, hs⟩ := hm; keep_Pick_spec _ w n0 95 y1 hy2 (lend_lt hs) ) ?_)
  obtain ⟨hI3, hM⟩ := chk_some hM
  refine ow_ev (ev_add (hr := fun hg => i64b_I64 hI3)) ?_
  refine ow_ev ev_assign ?_
  refine ow_nil (hK2 _ _ ?_); clear hK2
  refine cw_seq fun K3 hK3 => ?_
  refine cw_region ?_
  refine ow_ev ev_move ?_
  obtain ⟨y4, hy5, hM⟩ := bind_some hM
  refine ow_cons (st_callv (fun w hm => let ⟨S, hs⟩ := hm; keep_Pick_spec _ w supply0 1048576 y4 hy5 (lend_lt hs) ) ?_)
  refine ow_ev ev_assign ?_
  refine ow_nil (hK3 _ _ ?_); clear hK3
  refine cw_seq fun K4 hK4 => ?_
  refine cw_region ?_
  refine ow_ev ev_move ?_
  obtain ⟨y6, hy7, hM⟩ := bind_some hM
  refine ow_cons (st_callv (fun w hm => let ⟨S, hs⟩ := hm; keep_Pick_spec _ w a0 1000 y6 hy7 (lend_lt hs) ) ?_)
  refine ow_ev ev_move ?_
  obtain ⟨y8, hy9, hM⟩ := bind_some hM
  refine ow_cons (st_callv (fun w hm => let ⟨S, hs⟩ := hm; keep_Pick_spec _ w b0 1000 y8 hy9 (lend_lt hs) ) ?_)
  refine ow_ev ev_assign ?_
  refine ow_ev ev_assign ?_
  refine ow_nil (hK4 _ _ ?_); clear hK4
  refine cw_seq fun K5 hK5 => ?_
  refine cw_region ?_
  refine ow_ev ev_move ?_
  obtain ⟨m10, hm11, hM⟩ := bind_some hM
  refine ow_cons (st_make (α := Int) (e := 3) 0 () hm11 (fun _ _ => trivial) (fun r12 hr12 => ?_))
  refine ow_ev (ev_build [.slice r12.a m10.length r12.cap, .slice none 0 0]) ?_
  refine ow_cons (st_alloc rfl (k := fun b13 => ?_))
  refine ow_cons (st_store_all (b := b13) (vs := [.slice r12.a m10.length r12.cap, .slice none 0 0]) (k := ?_))
  refine ow_nil (hK5 _ _ ?_); clear hK5
  refine cw_seq fun K6 hK6 => ?_
  refine cw_region_any [own b13 25 [.slice r12.a m10.length r12.cap, .slice none 0 0]] (by repeat (first | exact List.Sublist.refl _ | apply List.Sublist.cons_cons | apply List.Sublist.cons)) ?_
  refine aw_ev 0 rfl (ev_field_addr 0) ?_
  refine aw_ev 1 rfl (ev_load_own (b := b13)) ?_
  refine aw_ev 2 rfl (ev_field_addr 0) ?_
  refine aw_ev 3 rfl (ev_load_own (b := b13)) ?_
  refine aw_ev 4 rfl ev_move ?_
  obtain ⟨hI14, hM⟩ := chk_some hM
  refine aw_ev 5 rfl (ev_sub (hr := fun hg => i64b_I64 hI14)) ?_
  refine aw_ev 6 rfl ev_move ?_
  refine aw_ev 7 rfl ev_move ?_
  obtain ⟨hI15, hM⟩ := chk_some hM
  refine aw_ev 8 rfl (ev_neg (hr := fun hg => i64b_I64 hI15)) ?_
  obtain ⟨x16, hx17, hM⟩ := bind_some hM
  refine aw_one 9 rfl (st_ev (ev_idx (xs := m10) 1 (Kn.trow (e := 3) (r := r12) (by repeat (first | exact Has.head | apply Has.tail))) (fun hg => let h := idx_some hx17; ⟨h.1, h.2.1⟩)) ⟨fun w hm => hm.sub (by repeat (first | exact List.Sublist.refl _ | apply List.Sublist.cons_cons | apply List.Sublist.cons)), ?_⟩)
  refine aw_one 10 rfl (st_set (r := r12) (i := 0) (xs := m10) (u := x16) (vs := [.int .i64 y4]) 0 y4 hx17 rfl (fun _ _ h => h) (by repeat (first | exact Upd.head | apply Upd.tail)) ⟨fun w hm => hm.sub (by repeat (first | exact List.Sublist.refl _ | apply List.Sublist.cons_cons | apply List.Sublist.cons)), ?_⟩)
  obtain ⟨x18, hx19, hM⟩ := bind_some hM
  refine aw_one 11 rfl (st_ev (ev_idx (xs := (m10.set (0 : Int).toNat y4)) 1 (Kn.trow (e := 3) (r := r12) (by repeat (first | exact Has.head | apply Has.tail))) (fun hg => let h := idx_some hx19; ⟨h.1, h.2.1⟩)) ⟨fun w hm => hm.sub (by repeat (first | exact List.Sublist.refl _ | apply List.Sublist.cons_cons | apply List.Sublist.cons)), ?_⟩)
  refine aw_one 12 rfl (st_set (r := r12) (i := ((2 + y1) - 1)) (xs := (m10.set (0 : Int).toNat y4)) (u := x18) (vs := [.int .i64 (-y4)]) 0 (-y4) hx19 rfl (fun _ _ h => h) (by repeat (first | exact Upd.head | apply Upd.tail)) ⟨fun w hm => hm.sub (by repeat (first | exact List.Sublist.refl _ | apply List.Sublist.cons_cons | apply List.Sublist.cons)), ?_⟩)
  refine aw_done (hK6 _ _ ?_); clear hK6
  refine cw_seq fun K7 hK7 => ?_
  refine cw_seq fun K8 hK8 => ?_
  refine cw_region ?_
  refine ow_ev ev_assign ?_
  refine ow_nil (hK8 _ _ ?_); clear hK8
  refine cw_block ?_
  refine cw_imp (fun w hm => hm.row_nil (α := Arc) 40 (fun _ => ())) ?_
  refine cw_loop (γ := Nat × ((List Arc) × Nat) × (SR (GoRep.R Arc))) (env := fun (_, (lg_1_1, i_1), rg_1_1) => [(9, .v (.int .i64 (2 + y1))), (10, .v (.int .i64 y4)), (11, .v (.int .i64 y6)), (12, .v (.int .i64 y8)), (13, .v (.pointer (some ⟨b13, 0, none⟩))), (14, .v (.int .i64 (i_1 : Int)))]) (mem := fun (_, (lg_1_1, i_1), rg_1_1) => [trow 3 r12 ((m10.set (0 : Int).toNat y4).set ((2 + y1) - 1).toNat (-y4)), trow 40 rg_1_1 lg_1_1, own b13 25 [.slice r12.a (((m10.set (0 : Int).toNat y4).set ((2 + y1) - 1).toNat (-y4)).length) r12.cap, .slice rg_1_1.a lg_1_1.length rg_1_1.cap]]) (R := fun g => iter (law27_FlowLarge_b1 y1 y4 y6 y8 m10) g.1 g.2.1 = some y) (μ := fun g => g.1) (FUEL, (([] : List Arc), 0), (⟨none, 0, (fun _ => ())⟩ : SR (GoRep.R Arc) )) hM ⟨rfl, rfl, rfl, rfl, rfl, rfl, trivial⟩ (fun w hm => by simp only [List.length_set]; exact hm.reord) ?_
  clear hM
  intro g hM KL1 hL1
  obtain ⟨nn1, ⟨lg_1_1, i_1⟩, rg_1_1⟩ := g
  dsimp only at hM ⊢
  obtain ⟨nn1, cont1, rfl, hcont1, hM⟩ := iter_open' hM
  dsimp only [law27_FlowLarge_b1] at hM
  refine cw_seq fun K9 hK9 => ?_
  refine cw_seq fun K10 hK10 => ?_
  refine cw_region ?_
  refine ow_ev ev_move ?_
  obtain ⟨hI21, hM⟩ := chk_some hM
  refine ow_ev (ev_add (hr := fun hg => i64b_I64 hI21)) ?_
  refine ow_ev ev_move ?_
  refine ow_ev ev_lss ?_
  refine ow_nil (hK10 _ _ ?_); clear hK10
  refine cw_cond rfl (fun hc22 => ?_) (fun hc22 => ?_)
  ·
    replace hM := (ite_t hc22).symm.trans hM
    refine cw_skip (hK9 _ _ ?_); clear hK9
    refine cw_seq fun K11 hK11 => ?_
    refine cw_block ?_
    refine cw_region ?_
    refine ow_ev (ev_field_addr 1) ?_
    refine ow_ev (ev_load_own (b := b13)) ?_
    refine ow_ev ev_move ?_
    refine ow_ev ev_move ?_
    obtain ⟨hI23, hM⟩ := chk_some hM
    refine ow_ev (ev_add (hr := fun hg => i64b_I64 hI23)) ?_
    refine ow_ev ev_move ?_
    obtain ⟨hI24, hM⟩ := chk_some hM
    refine ow_ev (ev_quo' (hr := fun hg => quo_ok hI24)) ?_
    refine ow_ev ev_move ?_
    refine ow_ev (ev_build [.int .i64 (i_1 : Int), .int .i64 ((i_1 : Int) + 1), .int .i64 (y4.tdiv 2), .int .i64 y6]) ?_
    refine ow_ev ev_move ?_
    refine ow_ev ev_move ?_
    obtain ⟨hI25, hM⟩ := chk_some hM
    refine ow_ev (ev_add (hr := fun hg => i64b_I64 hI25)) ?_
    refine ow_ev ev_move ?_
    refine ow_ev ev_move ?_
    refine ow_ev (ev_build [.int .i64 (i_1 : Int), .int .i64 ((i_1 : Int) + 1), .int .i64 y4, .int .i64 y8]) ?_
    refine ow_cons (st_bslice (α := Arc) 40 (fun _ => ()) ([(Arc.mk (i_1 : Int) ((i_1 : Int) + 1) (y4.tdiv 2) y6), (Arc.mk (i_1 : Int) ((i_1 : Int) + 1) y4 y8)] : List Arc) (OkL.flat (fun _ _ _ _ => trivial)) (fun r26 => ?_))
    obtain ⟨hb27, hM⟩ := chk_some hM
    refine ow_cons (st_append (r := rg_1_1) (r2 := r26) (by intro r'; repeat (first | exact Upd.head | apply Upd.tail)) (Kn.trow (e := 40) (r := r26) (by repeat (first | exact Has.head | apply Has.tail))) (OkL.flat (fun _ _ _ _ => trivial)) (of_decide_eq_true hb27) (fun r28 => ?_))
    refine ow_ev (ev_field_addr 1) ?_
    refine ow_cons (st_store_own (b := b13) (l' := [.slice r12.a (((m10.set (0 : Int).toNat y4).set ((2 + y1) - 1).toNat (-y4)).length) r12.cap, .slice r28.a ((lg_1_1 ++ ([(Arc.mk (i_1 : Int) ((i_1 : Int) + 1) (y4.tdiv 2) y6), (Arc.mk (i_1 : Int) ((i_1 : Int) + 1) y4 y8)] : List Arc)).length) r28.cap]) (k := ?_))
    refine ow_nil (hK11 _ _ ?_); clear hK11
    refine cw_region ?_
    refine ow_ev ev_move ?_
    obtain ⟨hI29, hM⟩ := chk_some hM
    refine ow_ev (ev_add (hr := fun hg => i64b_I64 hI29)) ?_
    refine ow_ev ev_assign ?_
    refine ow_nil (hL1 (nn1, ((lg_1_1 ++ ([(Arc.mk (i_1 : Int) ((i_1 : Int) + 1) (y4.tdiv 2) y6), (Arc.mk (i_1 : Int) ((i_1 : Int) + 1) y4 y8)] : List Arc)), i_1 + 1), r28) _ _ (eqc hcont1 hM) (Nat.lt_succ_self _) ⟨rfl, rfl, rfl, rfl, rfl, rfl, trivial⟩ (fun w hm => hm.reord))
  ·
    replace hM := (ite_f hc22).symm.trans hM
    refine cw_exit (hK7 _ _ ?_); clear hK7
    dsimp only [law27_FlowLarge_k1] at hM
    refine cw_seq fun K12 hK12 => ?_
    refine cw_region ?_
    refine ow_ev ev_move ?_
    refine ow_ev ev_move ?_
    obtain ⟨hI30, hM⟩ := chk_some hM
    refine ow_ev (ev_mul (hr := fun hg => i64b_I64 hI30)) ?_
    refine ow_ev ev_assign ?_
    refine ow_nil (hK12 _ _ ?_); clear hK12
    refine cw_cut (γ := Int × Unit) (env := fun (least_j2, _) => [(9, .v (.int .i64 (2 + y1))), (13, .v (.pointer (some ⟨b13, 0, none⟩))), (15, .v (.int .i64 least_j2))]) (mem := fun (least_j2, _) => [trow 3 r12 ((m10.set (0 : Int).toNat y4).set ((2 + y1) - 1).toNat (-y4)), trow 40 rg_1_1 lg_1_1, own b13 25 [.slice r12.a (((m10.set (0 : Int).toNat y4).set ((2 + y1) - 1).toNat (-y4)).length) r12.cap, .slice rg_1_1.a lg_1_1.length rg_1_1.cap]]) (R := fun g => law27_FlowLarge_k2 m10 y4 y1 lg_1_1 g.1 = some y) ?_ ?_
    · intro KJ2 hJ2
      refine cw_seq fun K15 hK15 => ?_
      refine cw_region ?_
      refine ow_ev ev_move ?_
      refine ow_ev ev_move ?_
      refine ow_ev ev_lss ?_
      refine ow_nil (hK15 _ _ ?_); clear hK15
      refine cw_cond rfl (fun hc41 => ?_) (fun hc41 => ?_)
      ·
        replace hM := (ite_t hc41).symm.trans hM
        refine cw_region ?_
        refine ow_ev ev_move ?_
        obtain ⟨hI42, hM⟩ := chk_some hM
        refine ow_ev (ev_quo' (hr := fun hg => quo_ok hI42)) ?_
        refine ow_ev ev_move ?_
        obtain ⟨hI43, hM⟩ := chk_some hM
        refine ow_ev (ev_mul (hr := fun hg => i64b_I64 hI43)) ?_
        refine ow_ev ev_move ?_
        refine ow_ev ev_move ?_
        obtain ⟨hI44, hM⟩ := chk_some hM
        refine ow_ev (ev_quo' (hr := fun hg => quo_ok hI44)) ?_
        obtain ⟨hI45, hM⟩ := chk_some hM
        refine ow_ev (ev_sub (hr := fun hg => i64b_I64 hI45)) ?_
        refine ow_ev ev_move ?_
        obtain ⟨hI46, hM⟩ := chk_some hM
        refine ow_ev (ev_mul (hr := fun hg => i64b_I64 hI46)) ?_
        obtain ⟨hI47, hM⟩ := chk_some hM
        refine ow_ev (ev_add (hr := fun hg => i64b_I64 hI47)) ?_
        refine ow_ev ev_assign ?_
        refine ow_nil (hJ2 ((((y4.tdiv 2) * y6) + ((y4 - (y4.tdiv 2)) * y8)), ()) _ _ hM ⟨rfl, rfl, rfl, trivial⟩ (fun w hm => hm.reord))
      ·
        replace hM := (ite_f hc41).symm.trans hM
        refine cw_skip (hJ2 ((y4 * y8), ()) _ _ hM ⟨rfl, rfl, rfl, trivial⟩ (fun w hm => hm.reord))
    ·
      clear hM
      intro g hM
      obtain ⟨least_j2, ⟨⟩⟩ := g
      dsimp only at hM ⊢
      dsimp only [law27_FlowLarge_k2] at hM
      refine cw_seq fun K13 hK13 => ?_
      refine cw_region ?_
      refine ow_ev (ev_load_all (b := b13)) ?_
      obtain ⟨y31, hy32, hM⟩ := bind_some hM
      refine ow_cons (st_callF SelL.nil (fun S w hs hP => flow_Solve_spec _ w (Graph.mk ((m10.set (0 : Int).toNat y4).set ((2 + y1) - 1).toNat (-y4)) lg_1_1) (r12, rg_1_1) y31 hy32 (lend_lt hs) ⟨(Kn.lend (Kn.trow (e := 3) (r := r12) (by repeat (first | exact Has.head | apply Has.tail))) hs), (Kn.lend (Kn.trow (e := 40) (r := rg_1_1) (by repeat (first | exact Has.head | apply Has.tail))) hs)⟩) (by intro r c hc; simp only [List.mem_cons, List.not_mem_nil, or_false] at hc; rcases hc with rfl | rfl <;> first | exact flatC_own | exact flatC_trow (fun _ _ _ _ => trivial)) (fun r33 => ?_))
      dsimp only [List.cons_append, List.nil_append]
      refine ow_ev ev_move ?_
      refine ow_ev (ev_extract (vs := [.agg #[.slice r33.1.a y31.1.X.length r33.1.cap, .slice r33.2.a y31.1.Price.length r33.2.cap, .int .i64 y31.1.Cost], .int .i64 y31.2])) ?_
      refine ow_ev (ev_extract (vs := [.agg #[.slice r33.1.a y31.1.X.length r33.1.cap, .slice r33.2.a y31.1.Price.length r33.2.cap, .int .i64 y31.1.Cost], .int .i64 y31.2])) ?_
      refine ow_cons (st_alloc rfl (k := fun b34 => ?_))
      refine ow_cons (st_store_all (b := b34) (vs := [.slice r33.1.a y31.1.X.length r33.1.cap, .slice r33.2.a y31.1.Price.length r33.2.cap, .int .i64 y31.1.Cost]) (k := ?_))
      refine ow_ev ev_assign ?_
      refine ow_nil (hK13 _ _ ?_); clear hK13
      refine cw_seq fun K14 hK14 => ?_
      refine cw_region ?_
      obtain ⟨y35, hy36, hM⟩ := bind_some hM
      refine ow_cons (st_callv (fun w hm => let ⟨S, hs⟩ := hm; law27_awake_spec _ w  y35 hy36 (lend_lt hs) ) ?_)
      refine ow_ev ev_move ?_
      refine ow_evg rfl ev_move ?_
      refine ow_evg rfl ev_eql ?_
      refine ow_ev ev_and ?_
      refine ow_ev ev_move ?_
      refine ow_evg rfl (ev_load_all (b := b13)) ?_
      refine ow_evg rfl (ev_load_all (b := b34)) ?_
      obtain ⟨y37, hy38, hM⟩ := bind_some hM
      refine ow_callg rfl (fun hg w hm => let ⟨S, hs⟩ := hm; ref24_VerifyFlow_spec _ w (Graph.mk ((m10.set (0 : Int).toNat y4).set ((2 + y1) - 1).toNat (-y4)) lg_1_1) (r12, rg_1_1) y31.1 r33 y37 (whn_some hy38 hg) (lend_lt hs) ⟨(Kn.lend (Kn.trow (e := 3) (r := r12) (by repeat (first | exact Has.head | apply Has.tail))) hs), (Kn.lend (Kn.trow (e := 40) (r := rg_1_1) (by repeat (first | exact Has.head | apply Has.tail))) hs)⟩ ⟨(Kn.lend (Kn.trow (e := 3) (r := r33.1) (by repeat (first | exact Has.head | apply Has.tail))) hs), (Kn.lend (Kn.trow (e := 3) (r := r33.2) (by repeat (first | exact Has.head | apply Has.tail))) hs)⟩) ?_
      refine ow_ev ev_and ?_
      refine ow_ev ev_move ?_
      refine ow_evg rfl (ev_field_addr 2) ?_
      refine ow_evg rfl (ev_load_own (b := b34)) ?_
      refine ow_evg rfl ev_move ?_
      refine ow_evg rfl ev_move ?_
      obtain ⟨hI39, hM⟩ := chk_some hM
      refine ow_evg rfl (ev_sub (hr := fun hg => i64b_I64 (gor hI39 hg))) ?_
      obtain ⟨hI40, hM⟩ := chk_some hM
      refine ow_evg rfl (ev_mul (hr := fun hg => i64b_I64 (gor hI40 hg))) ?_
      refine ow_evg rfl ev_eql ?_
      refine ow_ev ev_and ?_
      refine ow_ev ev_assign ?_
      refine ow_nil (hK14 _ _ ?_); clear hK14
      obtain rfl := some_inj hM
      refine cw_ret (kw_retc1 (fun w hm => ret_of hm rfl))

end Go.Proofs.Ytedocibniankjaa
