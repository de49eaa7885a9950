/- Models of functions, and that the code computes them. -/
import Derived.Test.YtedocibniankjaaFe
namespace Go.Proofs.Ytedocibniankjaa
open Go.Dc Go.RowKit
set_option maxRecDepth 10000
set_option linter.unusedVariables false
def law27_FlowVerify_k1 (y1 : Graph) : ((List Int) × (List Int) × Int) → Option Bool := fun (lf_j1_0, lf_j1_1, f_j1_2) =>
  (law27_awake_m).bind fun y17 =>
  (whn y17 default (flow_Verify_m y1 (Flow.mk lf_j1_0 lf_j1_1 f_j1_2))).bind fun y19 =>
  (whn y17 default (ref24_VerifyFlow_m y1 (Flow.mk lf_j1_0 lf_j1_1 f_j1_2))).bind fun y21 =>
  some (y17 && (y19 == y21))
def law27_FlowVerify_m (l0 : List Int) (how0 : Int) (at0 : Int) (v0 : Int) : Option Bool :=
  (keep2_Graph_m l0).bind fun y1 =>
  (flow_Solve_m y1).bind fun y5 =>
  (whn (!(decide (y5.2 ≠ 0))) default (ref24_VerifyFlow_m y1 y5.1)).bind fun y9 =>
  if (decide (y5.2 ≠ 0) || (!y9)) then
    ((law27_awake_m).bind fun y12 =>
    some (y12 && decide (y5.2 = 14)))
  else
    ((keep_Pick_m v0 7).bind fun y14 =>
    chk (i64b (y14 - 3)) <|
    (keep_Pick_m how0 4).bind fun y23 =>
    if decide (y23 = 0) then
      (chk (decide ((([] : List Int).length + y5.1.Price.length) * 8 ≤ 140737488355328)) <|
      (keep_Pick_m at0 ((([] : List Int) ++ y5.1.Price).length : Int)).bind fun y29 =>
      (idx (([] : List Int) ++ y5.1.Price) y29).bind fun x31 =>
      chk (i64b (x31 + (y14 - 3))) <|
      (idx (([] : List Int) ++ y5.1.Price) y29).bind fun x34 =>
      law27_FlowVerify_k1 y1 (y5.1.X, ((([] : List Int) ++ y5.1.Price).set y29.toNat (x31 + (y14 - 3))), y5.1.Cost))
    else
      (if decide (y23 = 1) then
        (if decide (0 < (y5.1.X.length : Int)) then
          (chk (decide ((([] : List Int).length + y5.1.X.length) * 8 ≤ 140737488355328)) <|
          (keep_Pick_m at0 ((([] : List Int) ++ y5.1.X).length : Int)).bind fun y41 =>
          (idx (([] : List Int) ++ y5.1.X) y41).bind fun x43 =>
          chk (i64b (x43 + (y14 - 3))) <|
          (idx (([] : List Int) ++ y5.1.X) y41).bind fun x46 =>
          law27_FlowVerify_k1 y1 (((([] : List Int) ++ y5.1.X).set y41.toNat (x43 + (y14 - 3))), y5.1.Price, y5.1.Cost))
        else
          (law27_FlowVerify_k1 y1 (y5.1.X, y5.1.Price, y5.1.Cost)))
      else
        (if decide (y23 = 2) then
          (chk (i64b (y5.1.Cost + (y14 - 3))) <|
          law27_FlowVerify_k1 y1 (y5.1.X, y5.1.Price, (y5.1.Cost + (y14 - 3))))
        else
          ((sub y5.1.Price 1 (y5.1.Price.length : Int)).bind fun l50 =>
          law27_FlowVerify_k1 y1 (y5.1.X, l50, y5.1.Cost)))))
theorem law27_FlowVerify_spec (S : Soup) (w : World) (l0 : List Int) (r_l0 : GoRep.R (List Int)) (how0 : Int) (at0 : Int) (v0 : Int) (y : Bool) (hM : law27_FlowVerify_m l0 how0 at0 v0 = some y) (hS : ∀ k, S k → k < w.heap.size) (h_l0 : GoRep.ok S w r_l0 l0) :
    Calls Try.prog 4 #[.slice r_l0.a l0.length r_l0.cap, .int .i64 how0, .int .i64 at0, .int .i64 v0] w (Ret w (.bool y)) := by
  refine calls_cw (args := [_, _, _, _]) Try.func4 rfl ((pre_nil hS).start |>.immP (α := List Int) (r := r_l0) (x := l0) h_l0) rfl ?_
  unfold law27_FlowVerify_m at hM
  refine cw_seq fun K1 hK1 => ?_
  refine cw_region ?_
  refine ow_ev ev_assign ?_
  refine ow_nil (hK1 _ _ ?_); clear hK1
  refine cw_seq fun K2 hK2 => ?_
  refine cw_region ?_
  refine ow_ev ev_move ?_
  obtain ⟨y1, hy2, hM⟩ := bind_some hM
  refine ow_cons (st_callF SelL.nil (fun S w hs hP => keep2_Graph_spec _ w l0 r_l0 y1 hy2 (lend_lt hs) (Kn.lend (Kn.imm (α := List Int) (r := r_l0) (x := l0) (by repeat (first | exact Has.head | apply Has.tail))) hs)) (by intro r c hc; simp only [List.mem_cons, List.not_mem_nil, or_false] at hc; rcases hc with rfl | rfl <;> first | exact flatC_own | exact flatC_trow (fun _ _ _ _ => trivial)) (fun r3 => ?_))
  dsimp only [List.cons_append, List.nil_append]
  refine ow_cons (st_alloc rfl (k := fun b4 => ?_))
  refine ow_cons (st_store_all (b := b4) (vs := [.slice r3.1.a y1.Supply.length r3.1.cap, .slice r3.2.a y1.Arcs.length r3.2.cap]) (k := ?_))
  refine ow_nil (hK2 _ _ ?_); clear hK2
  refine cw_seq fun K3 hK3 => ?_
  refine cw_region ?_
  refine ow_ev (ev_load_all (b := b4)) ?_
  obtain ⟨y5, hy6, hM⟩ := bind_some hM
  refine ow_cons (st_callF SelL.nil (fun S w hs hP => flow_Solve_spec _ w y1 r3 y5 hy6 (lend_lt hs) ⟨(Kn.lend (Kn.trow (e := 3) (r := r3.1) (by repeat (first | exact Has.head | apply Has.tail))) hs), (Kn.lend (Kn.trow (e := 40) (r := r3.2) (by repeat (first | exact Has.head | apply Has.tail))) hs)⟩) (by intro r c hc; simp only [List.mem_cons, List.not_mem_nil, or_false] at hc; rcases hc with rfl | rfl <;> first | exact flatC_own | exact flatC_trow (fun _ _ _ _ => trivial)) (fun r7 => ?_))
  dsimp only [List.cons_append, List.nil_append]
  refine ow_ev ev_move ?_
  refine ow_ev (ev_extract (vs := [.agg #[.slice r7.1.a y5.1.X.length r7.1.cap, .slice r7.2.a y5.1.Price.length r7.2.cap, .int .i64 y5.1.Cost], .int .i64 y5.2])) ?_
  refine ow_ev (ev_extract (vs := [.agg #[.slice r7.1.a y5.1.X.length r7.1.cap, .slice r7.2.a y5.1.Price.length r7.2.cap, .int .i64 y5.1.Cost], .int .i64 y5.2])) ?_
  refine ow_cons (st_alloc rfl (k := fun b8 => ?_))
  refine ow_cons (st_store_all (b := b8) (vs := [.slice r7.1.a y5.1.X.length r7.1.cap, .slice r7.2.a y5.1.Price.length r7.2.cap, .int .i64 y5.1.Cost]) (k := ?_))
  refine ow_ev ev_assign ?_
  refine ow_nil (hK3 _ _ ?_); clear hK3
  refine cw_seq fun K4 hK4 => ?_
  refine cw_seq fun K5 hK5 => ?_
  refine cw_region ?_
  refine ow_ev ev_move ?_
  refine ow_ev ev_neq ?_
  refine ow_ev ev_move ?_
  refine ow_evg rfl (ev_load_all (b := b4)) ?_
  refine ow_evg rfl (ev_load_all (b := b8)) ?_
  obtain ⟨y9, hy10, hM⟩ := bind_some hM
  refine ow_callg rfl (fun hg w hm => let ⟨S, hs⟩ := hm; ref24_VerifyFlow_spec _ w y1 r3 y5.1 r7 y9 (whn_some hy10 hg) (lend_lt hs) ⟨(Kn.lend (Kn.trow (e := 3) (r := r3.1) (by repeat (first | exact Has.head | apply Has.tail))) hs), (Kn.lend (Kn.trow (e := 40) (r := r3.2) (by repeat (first | exact Has.head | apply Has.tail))) hs)⟩ ⟨(Kn.lend (Kn.trow (e := 3) (r := r7.1) (by repeat (first | exact Has.head | apply Has.tail))) hs), (Kn.lend (Kn.trow (e := 3) (r := r7.2) (by repeat (first | exact Has.head | apply Has.tail))) hs)⟩) ?_
  refine ow_evg rfl ev_not ?_
  refine ow_ev ev_or ?_
  refine ow_nil (hK5 _ _ ?_); clear hK5
  refine cw_cond rfl (fun hc11 => ?_) (fun hc11 => ?_)
  ·
    replace hM := (ite_t hc11).symm.trans hM
    refine cw_seq fun K6 hK6 => ?_
    refine cw_region ?_
    obtain ⟨y12, hy13, hM⟩ := bind_some hM
    refine ow_cons (st_callv (fun w hm => let ⟨S, hs⟩ := hm; law27_awake_spec _ w  y12 hy13 (lend_lt hs) ) ?_)
    refine ow_ev ev_move ?_
    refine ow_evg rfl ev_move ?_
    refine ow_evg rfl ev_eql ?_
    refine ow_ev ev_and ?_
    refine ow_ev ev_assign ?_
    refine ow_nil (hK6 _ _ ?_); clear hK6
    obtain rfl := some_inj hM
    refine cw_ret (kw_retc1 (fun w hm => ret_of hm rfl))
  ·
    replace hM := (ite_f hc11).symm.trans hM
    refine cw_skip (hK4 _ _ ?_); clear hK4
    refine cw_seq fun K7 hK7 => ?_
    refine cw_region ?_
    refine ow_ev ev_move ?_
    obtain ⟨y14, hy15, hM⟩ := bind_some hM
    refine ow_cons (st_callv (fun w hm => let ⟨S, hs⟩ := hm; keep_Pick_spec _ w v0 7 y14 hy15 (lend_lt hs) ) ?_)
    obtain ⟨hI16, hM⟩ := chk_some hM
    refine ow_ev (ev_sub (hr := fun hg => i64b_I64 hI16)) ?_
    refine ow_ev ev_assign ?_
    refine ow_nil (hK7 _ _ ?_); clear hK7
    refine cw_cut (γ := ((List Int) × (List Int) × Int) × ((SR (GoRep.R Int)) × (SR (GoRep.R Int)))) (env := fun ((lf_j1_0, lf_j1_1, f_j1_2), (rf_j1_0, rf_j1_1)) => [(9, .v (.pointer (some ⟨b4, 0, none⟩))), (10, .v (.pointer (some ⟨b8, 0, none⟩)))]) (mem := fun ((lf_j1_0, lf_j1_1, f_j1_2), (rf_j1_0, rf_j1_1)) => [trow 3 r3.1 y1.Supply, trow 40 r3.2 y1.Arcs, own b4 25 [.slice r3.1.a y1.Supply.length r3.1.cap, .slice r3.2.a y1.Arcs.length r3.2.cap], trow 3 rf_j1_0 lf_j1_0, imm (α := (List Int)) rf_j1_1 lf_j1_1, own b8 28 [.slice rf_j1_0.a lf_j1_0.length rf_j1_0.cap, .slice rf_j1_1.a lf_j1_1.length rf_j1_1.cap, .int .i64 f_j1_2]]) (R := fun g => law27_FlowVerify_k1 y1 g.1 = some y) ?_ ?_
    · intro KJ1 hJ1
      refine cw_seq fun K9 hK9 => ?_
      refine cw_region ?_
      refine ow_ev ev_move ?_
      obtain ⟨y23, hy24, hM⟩ := bind_some hM
      refine ow_cons (st_callv (fun w hm => let ⟨S, hs⟩ := hm; keep_Pick_spec _ w how0 4 y23 hy24 (lend_lt hs) ) ?_)
      refine ow_nil (hK9 _ _ ?_); clear hK9
      refine cw_block ?_
      refine cw_seq fun K10 hK10 => ?_
      refine cw_region ?_
      refine ow_ev ev_eql ?_
      refine ow_ev ev_assign ?_
      refine ow_nil (hK10 _ _ ?_); clear hK10
      refine cw_cond rfl (fun hc25 => ?_) (fun hc25 => ?_)
      ·
        replace hM := (ite_t hc25).symm.trans hM
        refine cw_seq fun K11 hK11 => ?_
        refine cw_region ?_
        refine ow_ev (ev_field_addr 1) ?_
        refine ow_ev (ev_load_own (b := b8)) ?_
        refine ow_imp (fun w hm => hm.row_nil (α := Int) 3 (fun _ => ())) ?_
        obtain ⟨hb27, hM⟩ := chk_some hM
        refine ow_cons (st_append (r := (⟨none, 0, (fun _ => ())⟩ : SR (GoRep.R Int)   )) (r2 := r7.2) (by intro r'; repeat (first | exact Upd.head | apply Upd.tail)) (Kn.trow (e := 3) (r := r7.2) (by repeat (first | exact Has.head | apply Has.tail))) (OkL.flat (fun _ _ _ _ => trivial)) (of_decide_eq_true hb27) (fun r28 => ?_))
        refine ow_ev (ev_field_addr 1) ?_
        refine ow_cons (st_store_own (b := b8) (l' := [.slice r7.1.a y5.1.X.length r7.1.cap, .slice r28.a ((([] : List Int) ++ y5.1.Price).length) r28.cap, .int .i64 y5.1.Cost]) (k := ?_))
        refine ow_nil (hK11 _ _ ?_); clear hK11
        refine cw_region_z [trow 3 r28 (([] : List Int) ++ y5.1.Price), own b8 28 [.slice r7.1.a y5.1.X.length r7.1.cap, .slice r28.a ((([] : List Int) ++ y5.1.Price).length) r28.cap, .int .i64 y5.1.Cost], trow 3 r7.1 y5.1.X, trow 3 r7.2 y5.1.Price, own b4 25 [.slice r3.1.a y1.Supply.length r3.1.cap, .slice r3.2.a y1.Arcs.length r3.2.cap], trow 3 r3.1 y1.Supply, trow 40 r3.2 y1.Arcs, imm (α := (List Int)) r_l0 l0] 12 ?_
        refine az_ev 0 rfl (ev_field_addr 1) ?_
        refine az_ev 1 rfl (ev_load_own (b := b8)) ?_
        refine az_ev 2 rfl ev_move ?_
        refine az_ev 3 rfl (ev_field_addr 1) ?_
        refine az_ev 4 rfl (ev_load_own (b := b8)) ?_
        refine az_ev 5 rfl ev_len ?_
        refine az_ev 9 rfl ev_move ?_
        obtain ⟨y29, hy30, hM⟩ := bind_some hM
        refine az_one 6 rfl (st_callv (fun w hm => let ⟨S, hs⟩ := hm; keep_Pick_spec _ w at0 ((([] : List Int) ++ y5.1.Price).length : Int) y29 hy30 (lend_lt hs) ) ⟨fun w hm => hm.sub (by repeat (first | exact List.Sublist.refl _ | apply List.Sublist.cons_cons | apply List.Sublist.cons)), ?_⟩)
        obtain ⟨x31, hx32, hM⟩ := bind_some hM
        refine az_ev 7 rfl (ev_idx (xs := (([] : List Int) ++ y5.1.Price)) 1 (Kn.trow (e := 3) (r := r28) (by repeat (first | exact Has.head | apply Has.tail))) (fun hg => let h := idx_some hx32; ⟨h.1, h.2.1⟩)) ?_
        refine az_ev 8 rfl (ev_ld (i := y29) (xs := (([] : List Int) ++ y5.1.Price)) (y := x31) 0 (Kn.trow (e := 3) (r := r28) (by repeat (first | exact Has.head | apply Has.tail))) (fun _ => hx32)) ?_
        obtain ⟨hI33, hM⟩ := chk_some hM
        refine az_ev 10 rfl (ev_add (hr := fun hg => i64b_I64 hI33)) ?_
        obtain ⟨x34, hx35, hM⟩ := bind_some hM
        refine az_ev 11 rfl (ev_idx (xs := (([] : List Int) ++ y5.1.Price)) 1 (Kn.trow (e := 3) (r := r28) (by repeat (first | exact Has.head | apply Has.tail))) (fun hg => let h := idx_some hx35; ⟨h.1, h.2.1⟩)) ?_
        refine az_last rfl (st_set (r := r28) (i := y29) (xs := (([] : List Int) ++ y5.1.Price)) (u := x34) (vs := [.int .i64 (x31 + (y14 - 3))]) 0 (x31 + (y14 - 3)) hx35 rfl (fun _ _ h => h) (by repeat (first | exact Upd.head | apply Upd.tail)) ?_)
        refine az_imp (fun w hm => hm.freeze (r := r28) (by repeat (first | exact Upd.head | apply Upd.tail))) ?_
        refine az_done (hJ1 ((y5.1.X, ((([] : List Int) ++ y5.1.Price).set y29.toNat (x31 + (y14 - 3))), y5.1.Cost), (r7.1, r28)) _ _ hM ⟨rfl, rfl, trivial⟩ (fun w hm => by simp only [List.length_set]; exact hm.reord))
      ·
        replace hM := (ite_f hc25).symm.trans hM
        refine cw_seq fun K12 hK12 => ?_
        refine cw_region ?_
        refine ow_ev ev_eql ?_
        refine ow_ev ev_assign ?_
        refine ow_nil (hK12 _ _ ?_); clear hK12
        refine cw_cond rfl (fun hc36 => ?_) (fun hc36 => ?_)
        ·
          replace hM := (ite_t hc36).symm.trans hM
          refine cw_seq fun K13 hK13 => ?_
          refine cw_region ?_
          refine ow_ev (ev_field_addr 0) ?_
          refine ow_ev (ev_load_own (b := b8)) ?_
          refine ow_ev ev_len ?_
          refine ow_ev ev_gtr ?_
          refine ow_nil (hK13 _ _ ?_); clear hK13
          refine cw_cond rfl (fun hc37 => ?_) (fun hc37 => ?_)
          ·
            replace hM := (ite_t hc37).symm.trans hM
            refine cw_seq fun K14 hK14 => ?_
            refine cw_region ?_
            refine ow_ev (ev_field_addr 0) ?_
            refine ow_ev (ev_load_own (b := b8)) ?_
            refine ow_imp (fun w hm => hm.row_nil (α := Int) 3 (fun _ => ())) ?_
            obtain ⟨hb39, hM⟩ := chk_some hM
            refine ow_cons (st_append (r := (⟨none, 0, (fun _ => ())⟩ : SR (GoRep.R Int)    )) (r2 := r7.1) (by intro r'; repeat (first | exact Upd.head | apply Upd.tail)) (Kn.trow (e := 3) (r := r7.1) (by repeat (first | exact Has.head | apply Has.tail))) (OkL.flat (fun _ _ _ _ => trivial)) (of_decide_eq_true hb39) (fun r40 => ?_))
            refine ow_ev (ev_field_addr 0) ?_
            refine ow_cons (st_store_own (b := b8) (l' := [.slice r40.a ((([] : List Int) ++ y5.1.X).length) r40.cap, .slice r7.2.a y5.1.Price.length r7.2.cap, .int .i64 y5.1.Cost]) (k := ?_))
            refine ow_nil (hK14 _ _ ?_); clear hK14
            refine cw_region_z [trow 3 r40 (([] : List Int) ++ y5.1.X), own b8 28 [.slice r40.a ((([] : List Int) ++ y5.1.X).length) r40.cap, .slice r7.2.a y5.1.Price.length r7.2.cap, .int .i64 y5.1.Cost], trow 3 r7.1 y5.1.X, trow 3 r7.2 y5.1.Price, own b4 25 [.slice r3.1.a y1.Supply.length r3.1.cap, .slice r3.2.a y1.Arcs.length r3.2.cap], trow 3 r3.1 y1.Supply, trow 40 r3.2 y1.Arcs, imm (α := (List Int)) r_l0 l0] 12 ?_
            refine az_ev 0 rfl (ev_field_addr 0) ?_
            refine az_ev 1 rfl (ev_load_own (b := b8)) ?_
            refine az_ev 2 rfl ev_move ?_
            refine az_ev 3 rfl (ev_field_addr 0) ?_
            refine az_ev 4 rfl (ev_load_own (b := b8)) ?_
            refine az_ev 5 rfl ev_len ?_
            refine az_ev 9 rfl ev_move ?_
            obtain ⟨y41, hy42, hM⟩ := bind_some hM
            refine az_one 6 rfl (st_callv (fun w hm => let ⟨S, hs⟩ := hm; keep_Pick_spec _ w at0 ((([] : List Int) ++ y5.1.X).length : Int) y41 hy42 (lend_lt hs) ) ⟨fun w hm => hm.sub (by repeat (first | exact List.Sublist.refl _ | apply List.Sublist.cons_cons | apply List.Sublist.cons)), ?_⟩)
            obtain ⟨x43, hx44, hM⟩ := bind_some hM
            refine az_ev 7 rfl (ev_idx (xs := (([] : List Int) ++ y5.1.X)) 1 (Kn.trow (e := 3) (r := r40) (by repeat (first | exact Has.head | apply Has.tail))) (fun hg => let h := idx_some hx44; ⟨h.1, h.2.1⟩)) ?_
            refine az_ev 8 rfl (ev_ld (i := y41) (xs := (([] : List Int) ++ y5.1.X)) (y := x43) 0 (Kn.trow (e := 3) (r := r40) (by repeat (first | exact Has.head | apply Has.tail))) (fun _ => hx44)) ?_
            obtain ⟨hI45, hM⟩ := chk_some hM
            refine az_ev 10 rfl (ev_add (hr := fun hg => i64b_I64 hI45)) ?_
            obtain ⟨x46, hx47, hM⟩ := bind_some hM
            refine az_ev 11 rfl (ev_idx (xs := (([] : List Int) ++ y5.1.X)) 1 (Kn.trow (e := 3) (r := r40) (by repeat (first | exact Has.head | apply Has.tail))) (fun hg => let h := idx_some hx47; ⟨h.1, h.2.1⟩)) ?_
            refine az_last rfl (st_set (r := r40) (i := y41) (xs := (([] : List Int) ++ y5.1.X)) (u := x46) (vs := [.int .i64 (x43 + (y14 - 3))]) 0 (x43 + (y14 - 3)) hx47 rfl (fun _ _ h => h) (by repeat (first | exact Upd.head | apply Upd.tail)) ?_)
            refine az_imp (fun w hm => hm.freeze (r := r7.2) (by repeat (first | exact Upd.head | apply Upd.tail))) ?_
            refine az_done (hJ1 ((((([] : List Int) ++ y5.1.X).set y41.toNat (x43 + (y14 - 3))), y5.1.Price, y5.1.Cost), (r40, r7.2)) _ _ hM ⟨rfl, rfl, trivial⟩ (fun w hm => by simp only [List.length_set]; exact hm.reord))
          ·
            replace hM := (ite_f hc37).symm.trans hM
            refine cw_imp (fun w hm => hm.freeze (r := r7.2) (by repeat (first | exact Upd.head | apply Upd.tail))) ?_
            refine cw_skip (hJ1 ((y5.1.X, y5.1.Price, y5.1.Cost), (r7.1, r7.2)) _ _ hM ⟨rfl, rfl, trivial⟩ (fun w hm => hm.reord))
        ·
          replace hM := (ite_f hc36).symm.trans hM
          refine cw_seq fun K15 hK15 => ?_
          refine cw_region ?_
          refine ow_ev ev_eql ?_
          refine ow_ev ev_assign ?_
          refine ow_nil (hK15 _ _ ?_); clear hK15
          refine cw_cond rfl (fun hc48 => ?_) (fun hc48 => ?_)
          ·
            replace hM := (ite_t hc48).symm.trans hM
            refine cw_region ?_
            refine ow_ev (ev_field_addr 2) ?_
            refine ow_ev (ev_load_own (b := b8)) ?_
            refine ow_ev ev_move ?_
            obtain ⟨hI49, hM⟩ := chk_some hM
            refine ow_ev (ev_add (hr := fun hg => i64b_I64 hI49)) ?_
            refine ow_ev (ev_field_addr 2) ?_
            refine ow_cons (st_store_own (b := b8) (l' := [.slice r7.1.a y5.1.X.length r7.1.cap, .slice r7.2.a y5.1.Price.length r7.2.cap, .int .i64 (y5.1.Cost + (y14 - 3))]) (k := ?_))
            refine ow_imp (fun w hm => hm.freeze (r := r7.2) (by repeat (first | exact Upd.head | apply Upd.tail))) ?_
            refine ow_nil (hJ1 ((y5.1.X, y5.1.Price, (y5.1.Cost + (y14 - 3))), (r7.1, r7.2)) _ _ hM ⟨rfl, rfl, trivial⟩ (fun w hm => hm.reord))
          ·
            replace hM := (ite_f hc48).symm.trans hM
            refine cw_region ?_
            refine ow_ev (ev_field_addr 1) ?_
            refine ow_ev (ev_load_own (b := b8)) ?_
            obtain ⟨l50, hl51, hM⟩ := bind_some hM
            refine ow_imp (fun w hm => hm.freeze (r := r7.2) (by repeat (first | exact Upd.head | apply Upd.tail))) ?_
            refine ow_cons (st_sub (r := r7.2) (xs := y5.1.Price) (ol := some (.i64, 1)) (oh := none) (Sk.imm (α := List Int) (r := r7.2) (x := y5.1.Price) (by repeat (first | exact Has.head | apply Has.tail))) hl51 (fun r52 => ?_))
            refine ow_ev (ev_field_addr 1) ?_
            refine ow_cons (st_store_own (b := b8) (l' := [.slice r7.1.a y5.1.X.length r7.1.cap, .slice r52.a l50.length r52.cap, .int .i64 y5.1.Cost]) (k := ?_))
            refine ow_nil (hJ1 ((y5.1.X, l50, y5.1.Cost), (r7.1, r52)) _ _ hM ⟨rfl, rfl, trivial⟩ (fun w hm => hm.reord))
    ·
      clear hM
      intro g hM
      obtain ⟨⟨lf_j1_0, lf_j1_1, f_j1_2⟩, ⟨rf_j1_0, rf_j1_1⟩⟩ := g
      dsimp only at hM ⊢
      dsimp only [law27_FlowVerify_k1] at hM
      refine cw_seq fun K8 hK8 => ?_
      refine cw_region_any _ (List.Sublist.refl _) ?_
      obtain ⟨y17, hy18, hM⟩ := bind_some hM
      refine aw_one 0 rfl (st_callv (fun w hm => let ⟨S, hs⟩ := hm; law27_awake_spec _ w  y17 hy18 (lend_lt hs) ) ⟨fun w hm => hm.sub (by repeat (first | exact List.Sublist.refl _ | apply List.Sublist.cons_cons | apply List.Sublist.cons)), ?_⟩)
      refine aw_ev 1 rfl ev_move ?_
      refine aw_evg 2 rfl rfl (ev_load_all (b := b4)) ?_
      refine aw_evg 3 rfl rfl (ev_load_all (b := b8)) ?_
      refine aw_evg 5 rfl rfl (ev_load_all (b := b4)) ?_
      refine aw_evg 6 rfl rfl (ev_load_all (b := b8)) ?_
      obtain ⟨y19, hy20, hM⟩ := bind_some hM
      refine aw_callg 4 rfl rfl (fun hg w hm => let ⟨S, hs⟩ := hm; flow_Verify_spec _ w y1 r3 (Flow.mk lf_j1_0 lf_j1_1 f_j1_2) (rf_j1_0, rf_j1_1) y19 (whn_some hy20 hg) (lend_lt hs) ⟨(Kn.lend (Kn.trow (e := 3) (r := r3.1) (by repeat (first | exact Has.head | apply Has.tail))) hs), (Kn.lend (Kn.trow (e := 40) (r := r3.2) (by repeat (first | exact Has.head | apply Has.tail))) hs)⟩ ⟨(Kn.lend (Kn.trow (e := 3) (r := rf_j1_0) (by repeat (first | exact Has.head | apply Has.tail))) hs), (Kn.lend (Kn.imm (α := List Int) (r := rf_j1_1) (x := lf_j1_1) (by repeat (first | exact Has.head | apply Has.tail))) hs)⟩) ?_
      obtain ⟨y21, hy22, hM⟩ := bind_some hM
      refine aw_callg 7 rfl rfl (fun hg w hm => let ⟨S, hs⟩ := hm; ref24_VerifyFlow_spec _ w y1 r3 (Flow.mk lf_j1_0 lf_j1_1 f_j1_2) (rf_j1_0, rf_j1_1) y21 (whn_some hy22 hg) (lend_lt hs) ⟨(Kn.lend (Kn.trow (e := 3) (r := r3.1) (by repeat (first | exact Has.head | apply Has.tail))) hs), (Kn.lend (Kn.trow (e := 40) (r := r3.2) (by repeat (first | exact Has.head | apply Has.tail))) hs)⟩ ⟨(Kn.lend (Kn.trow (e := 3) (r := rf_j1_0) (by repeat (first | exact Has.head | apply Has.tail))) hs), (Kn.lend (Kn.imm (α := List Int) (r := rf_j1_1) (x := lf_j1_1) (by repeat (first | exact Has.head | apply Has.tail))) hs)⟩) ?_
      refine aw_evg 8 rfl rfl ev_bool_eql ?_
      refine aw_ev 9 rfl ev_and ?_
      refine aw_ev 10 rfl ev_assign ?_
      refine aw_done (hK8 _ _ ?_); clear hK8
      obtain rfl := some_inj hM
      refine cw_ret (kw_retc1 (fun w hm => ret_of hm rfl))

end Go.Proofs.Ytedocibniankjaa
