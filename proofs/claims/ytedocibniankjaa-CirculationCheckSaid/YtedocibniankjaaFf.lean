/- Models of functions, and that the code computes them. -/
import Derived.Test.YtedocibniankjaaFe
namespace Go.Proofs.Ytedocibniankjaa
open Go.Dc Go.RowKit
set_option maxRecDepth 10000
set_option linter.unusedVariables false
def law27_FlowLeast_m (l0 : List Int) : Option Bool :=
  (keep2_Graph_m l0).bind fun y1 =>
  (flow_Solve_m y1).bind fun y5 =>
  (ref24_LeastFlow_m y1).bind fun y9 =>
  (law27_awake_m).bind fun y11 =>
  some (y11 && (((y9.2 && decide (y5.2 = 0)) && decide (y5.1.Cost = y9.1)) || ((!y9.2) && decide (y5.2 = 14))))
theorem law27_FlowLeast_spec (S : Soup) (w : World) (l0 : List Int) (r_l0 : GoRep.R (List Int)) (y : Bool) (hM : law27_FlowLeast_m l0 = some y) (hS : ∀ k, S k → k < w.heap.size) (h_l0 : GoRep.ok S w r_l0 l0) :
    Calls Try.prog 3 #[.slice r_l0.a l0.length r_l0.cap] w (Ret w (.bool y)) := by
  refine calls_cw (args := [_]) Try.func3 rfl ((pre_nil hS).start |>.immP (α := List Int) (r := r_l0) (x := l0) h_l0) rfl ?_
  unfold law27_FlowLeast_m at hM
  refine cw_seq fun K1 hK1 => ?_
  refine cw_region ?_
  refine ow_ev ev_assign ?_
  refine ow_nil (hK1 _ _ ?_); clear hK1
  refine cw_seq fun K2 hK2 => ?_
  refine cw_region ?_
  refine ow_ev ev_move ?_
  obtain ⟨y1, hy2, hM⟩ := bind_some hM
  refine ow_cons (st_callF SelL.nil (fun S w hs hP => keep2_Graph_spec _ w l0 r_l0 y1 hy2 (lend_lt hs) (Kn.lend (Kn.imm (α := List Int) (r := r_l0) (x := l0) (by repeat (first | exact Has.head | apply Has.tail))) hs)) (by intro r c hc; simp only [List.mem_cons, List.not_mem_nil, or_false] at hc; rcases hc with rfl | rfl <;> first | exact flatC_own | exact flatC_trow (fun _ _ _ _ => trivial)) (fun r3 => ?_))
  dsimp only [List.cons_append, List.nil_append]
  refine ow_cons (st_alloc rfl (k := fun b4 => ?_))
  refine ow_cons (st_store_all (b := b4) (vs := [.slice r3.1.a y1.Supply.length r3.1.cap, .slice r3.2.a y1.Arcs.length r3.2.cap]) (k := ?_))
  refine ow_nil (hK2 _ _ ?_); clear hK2
  refine cw_seq fun K3 hK3 => ?_
  refine cw_region ?_
  refine ow_ev (ev_load_all (b := b4)) ?_
  obtain ⟨y5, hy6, hM⟩ := bind_some hM
  refine ow_cons (st_callF SelL.nil (fun S w hs hP => flow_Solve_spec _ w y1 r3 y5 hy6 (lend_lt hs) ⟨(Kn.lend (Kn.trow (e := 3) (r := r3.1) (by repeat (first | exact Has.head | apply Has.tail))) hs), (Kn.lend (Kn.trow (e := 40) (r := r3.2) (by repeat (first | exact Has.head | apply Has.tail))) hs)⟩) (by intro r c hc; simp only [List.mem_cons, List.not_mem_nil, or_false] at hc; rcases hc with rfl | rfl <;> first | exact flatC_own | exact flatC_trow (fun _ _ _ _ => trivial)) (fun r7 => ?_))
  dsimp only [List.cons_append, List.nil_append]
  refine ow_ev ev_move ?_
  refine ow_ev (ev_extract (vs := [.agg #[.slice r7.1.a y5.1.X.length r7.1.cap, .slice r7.2.a y5.1.Price.length r7.2.cap, .int .i64 y5.1.Cost], .int .i64 y5.2])) ?_
  refine ow_ev (ev_extract (vs := [.agg #[.slice r7.1.a y5.1.X.length r7.1.cap, .slice r7.2.a y5.1.Price.length r7.2.cap, .int .i64 y5.1.Cost], .int .i64 y5.2])) ?_
  refine ow_cons (st_alloc rfl (k := fun b8 => ?_))
  refine ow_cons (st_store_all (b := b8) (vs := [.slice r7.1.a y5.1.X.length r7.1.cap, .slice r7.2.a y5.1.Price.length r7.2.cap, .int .i64 y5.1.Cost]) (k := ?_))
  refine ow_ev ev_assign ?_
  refine ow_nil (hK3 _ _ ?_); clear hK3
  refine cw_seq fun K4 hK4 => ?_
  refine cw_region ?_
  refine ow_ev (ev_load_all (b := b4)) ?_
  obtain ⟨y9, hy10, hM⟩ := bind_some hM
  refine ow_cons (st_callv (fun w hm => let ⟨S, hs⟩ := hm; ref24_LeastFlow_spec _ w y1 r3 y9 hy10 (lend_lt hs) ⟨(Kn.lend (Kn.trow (e := 3) (r := r3.1) (by repeat (first | exact Has.head | apply Has.tail))) hs), (Kn.lend (Kn.trow (e := 40) (r := r3.2) (by repeat (first | exact Has.head | apply Has.tail))) hs)⟩) ?_)
  refine ow_ev ev_move ?_
  refine ow_ev (ev_extract (vs := [.int .i64 y9.1, .bool y9.2])) ?_
  refine ow_ev (ev_extract (vs := [.int .i64 y9.1, .bool y9.2])) ?_
  refine ow_ev ev_assign ?_
  refine ow_ev ev_assign ?_
  refine ow_nil (hK4 _ _ ?_); clear hK4
  refine cw_seq fun K5 hK5 => ?_
  refine cw_region ?_
  obtain ⟨y11, hy12, hM⟩ := bind_some hM
  refine ow_cons (st_callv (fun w hm => let ⟨S, hs⟩ := hm; law27_awake_spec _ w  y11 hy12 (lend_lt hs) ) ?_)
  refine ow_ev ev_move ?_
  refine ow_evg rfl ev_move ?_
  refine ow_evg rfl ev_move ?_
  refine ow_evg rfl ev_move ?_
  refine ow_evg rfl ev_eql ?_
  refine ow_evg rfl ev_and ?_
  refine ow_evg rfl ev_move ?_
  refine ow_evg rfl (ev_field_addr 2) ?_
  refine ow_evg rfl (ev_load_own (b := b8)) ?_
  refine ow_evg rfl ev_move ?_
  refine ow_evg rfl ev_eql ?_
  refine ow_evg rfl ev_and ?_
  refine ow_evg rfl ev_move ?_
  refine ow_evg rfl ev_move ?_
  refine ow_evg rfl ev_not ?_
  refine ow_evg rfl ev_move ?_
  refine ow_evg rfl ev_move ?_
  refine ow_evg rfl ev_eql ?_
  refine ow_evg rfl ev_and ?_
  refine ow_evg rfl ev_or ?_
  refine ow_ev ev_and ?_
  refine ow_ev ev_assign ?_
  refine ow_nil (hK5 _ _ ?_); clear hK5
  obtain rfl := some_inj hM
  refine cw_ret (kw_retc1 (fun w hm => ret_of hm rfl))

def law27_FlowVerify_k1 (y1 : Graph) : ((List Int) × (List Int) × Int) → Option Bool := fun (lf_j1_0, lf_j1_1, f_j1_2) =>
  (law27_awake_m).bind fun y17 =>
  (whn y17 default (flow_Verify_m y1 (Flow.mk lf_j1_0 lf_j1_1 f_j1_2))).bind fun y19 =>
  (whn y17 default (ref24_VerifyFlow_m y1 (Flow.mk lf_j1_0 lf_j1_1 f_j1_2))).bind fun y21 =>
  some (y17 && (y19 == y21))
def law27_FlowVerify_m (l0 : List Int) (how0 : Int) (at0 : Int) (v0 : Int) : Option Bool :=
  (keep2_Graph_m l0).bind fun y1 =>
  (flow_Solve_m y1).bind fun y5 =>
  (whn (!(decide (y5.2 ≠ 0))) default (ref24_VerifyFlow_m y1 y5.1)).bind fun y9 =>
  if (decide (y5.2 ≠ 0) || (!y9)) then
    ((law27_awake_m).bind fun y12 =>
    some (y12 && decide (y5.2 = 14)))
  else
    ((keep_Pick_m v0 7).bind fun y14 =>
    chk (i64b (y14 - 3)) <|
    (keep_Pick_m how0 4).bind fun y23 =>
    if decide (y23 = 0) then
      (chk (decide ((([] : List Int).length + y5.1.Price.length) * 8 ≤ 140737488355328)) <|
      (keep_Pick_m at0 ((([] : List Int) ++ y5.1.Price).length : Int)).bind fun y29 =>
      (idx (([] : List Int) ++ y5.1.Price) y29).bind fun x31 =>
      chk (i64b (x31 + (y14 - 3))) <|
      (idx (([] : List Int) ++ y5.1.Price) y29).bind fun x34 =>
      law27_FlowVerify_k1 y1 (y5.1.X, ((([] : List Int) ++ y5.1.Price).set y29.toNat (x31 + (y14 - 3))), y5.1.Cost))
    else
      (if decide (y23 = 1) then
        (if decide (0 < (y5.1.X.length : Int)) then
          (chk (decide ((([] : List Int).length + y5.1.X.length) * 8 ≤ 140737488355328)) <|
          (keep_Pick_m at0 ((([] : List Int) ++ y5.1.X).length : Int)).bind fun y41 =>
          (idx (([] : List Int) ++ y5.1.X) y41).bind fun x43 =>
          chk (i64b (x43 + (y14 - 3))) <|
          (idx (([] : List Int) ++ y5.1.X) y41).bind fun x46 =>
          law27_FlowVerify_k1 y1 (((([] : List Int) ++ y5.1.X).set y41.toNat (x43 + (y14 - 3))), y5.1.Price, y5.1.Cost))
        else
          (law27_FlowVerify_k1 y1 (y5.1.X, y5.1.Price, y5.1.Cost)))
      else
        (if decide (y23 = 2) then
          (chk (i64b (y5.1.Cost + (y14 - 3))) <|
          law27_FlowVerify_k1 y1 (y5.1.X, y5.1.Price, (y5.1.Cost + (y14 - 3))))
        else
          ((sub y5.1.Price 1 (y5.1.Price.length : Int)).bind fun l50 =>
          law27_FlowVerify_k1 y1 (y5.1.X, l50, y5.1.Cost)))))
theorem law27_FlowVerify_spec (S : Soup) (w : World) (l0 : List Int) (r_l0 : GoRep.R (List Int)) (how0 : Int) (at0 : Int) (v0 : Int) (y : Bool) (hM : law27_FlowVerify_m l0 how0 at0 v0 = some y) (hS : ∀ k, S k → k < w.heap.size) (h_l0 : GoRep.ok S w r_l0 l0) :
    Calls Try.prog 4 #[.slice r_l0.a l0.length r_l0.cap, .int .i64 how0, .int .i64 at0, .int .i64 v0] w (Ret w (.bool y)) := by
  refine calls_cw (args := [_, _, _, _]) Try.func4 rfl ((pre_nil hS).start |>.immP (α := List Int) (r := r_l0) (x := l0) h_l0) rfl ?_
  unfold law27_FlowVerify_m at hM
  refine cw_seq fun K1 hK1 => ?_
  refine cw_region ?_
  refine ow_ev ev_assign ?_
  refine ow_nil (hK1 _ _ ?_); clear hK1
  refine cw_seq fun K2 hK2 => ?_
  refine cw_region ?_
  refine ow_ev ev_move ?_
  obtain ⟨y1, hy2, hM⟩ := bind_some hM
  refine ow_cons (st_callF SelL.nil (fun S w hs hP => keep2_Graph_spec _ w l0 r_l0 y1 hy2 (lend_lt hs) (Kn.lend (Kn.imm (α := List Int) (r := r_l0) (x := l0) (by repeat (first | exact Has.head | apply Has.tail))) hs)) (by intro r c hc; simp only [List.mem_cons, List.not_mem_nil, or_false] at hc; rcases hc with rfl | rfl <;> first | exact flatC_own | exact flatC_trow (fun _ _ _ _ => trivial)) (fun r3 => ?_))
  dsimp only [List.cons_append, List.nil_append]
  refine ow_cons (st_alloc rfl (k := fun b4 => ?_))
  refine ow_cons (st_store_all (b := b4) (vs := [.slice r3.1.a y1.Supply.length r3.1.cap, .slice r3.2.a y1.Arcs.length r3.2.cap]) (k := ?_))
  refine ow_nil (hK2 _ _ ?_); clear hK2
  refine cw_seq fun K3 hK3 => ?_
  refine cw_region ?_
  refine ow_ev (ev_load_all (b := b4)) ?_
  obtain ⟨y5, hy6, hM⟩ := bind_some hM
  refine ow_cons (st_callF SelL.nil (fun S w hs hP => flow_Solve_spec _ w y1 r3 y5 hy6 (lend_lt hs) ⟨(Kn.lend (Kn.trow (e := 3) (r := r3.1) (by repeat (first | exact Has.head | apply Has.tail))) hs), (Kn.lend (Kn.trow (e := 40) (r := r3.2) (by repeat (first | exact Has.head | apply Has.tail))) hs)⟩) (by intro r c hc; simp only [List.mem_cons, List.not_mem_nil, or_false] at hc; rcases hc with rfl | rfl <;> first | exact flatC_own | exact flatC_trow (fun _ _ _ _ => trivial)) (fun r7 => ?_))
  dsimp only [List.cons_append, List.nil_append]
  refine ow_ev ev_move ?_
  refine ow_ev (ev_extract (vs := [.agg #[.slice r7.1.a y5.1.X.length r7.1.cap, .slice r7.2.a y5.1.Price.length r7.2.cap, .int .i64 y5.1.Cost], .int .i64 y5.2])) ?_
  refine ow_ev (ev_extract (vs := [.agg #[.slice r7.1.a y5.1.X.length r7.1.cap, .slice r7.2.a y5.1.Price.length r7.2.cap, .int .i64 y5.1.Cost], .int .i64 y5.2])) ?_
  refine ow_cons (st_alloc rfl (k := fun b8 => ?_))
  refine ow_cons (st_store_all (b := b8) (vs := [.slice r7.1.a y5.1.X.length r7.1.cap, .slice r7.2.a y5.1.Price.length r7.2.cap, .int .i64 y5.1.Cost]) (k := ?_))
  refine ow_ev ev_assign ?_
  refine ow_nil (hK3 _ _ ?_); clear hK3
  refine cw_seq fun K4 hK4 => ?_
  refine cw_seq fun K5 hK5 => ?_
  refine cw_region ?_
  refine ow_ev ev_move ?_
  refine ow_ev ev_neq ?_
  refine ow_ev ev_move ?_
  refine ow_evg rfl (ev_load_all (b := b4)) ?_
  refine ow_evg rfl (ev_load_all (b := b8)) ?_
  obtain ⟨y9, hy10, hM⟩ := bind_some hM
  refine ow_callg rfl (fun hg w hm => let ⟨S, hs⟩ := hm; ref24_VerifyFlow_spec _ w y1 r3 y5.1 r7 y9 (whn_some hy10 hg) (lend_lt hs) ⟨(Kn.lend (Kn.trow (e := 3) (r := r3.1) (by repeat (first | exact Has.head | apply Has.tail))) hs), (Kn.lend (Kn.trow (e := 40) (r := r3.2) (by repeat (first | exact Has.head | apply Has.tail))) hs)⟩ ⟨(Kn.lend (Kn.trow (e := 3) (r := r7.1) (by repeat (first | exact Has.head | apply Has.tail))) hs), (Kn.lend (Kn.trow (e := 3) (r := r7.2) (by repeat (first | exact Has.head | apply Has.tail))) hs)⟩) ?_
  refine ow_evg rfl ev_not ?_
  refine ow_ev ev_or ?_
  refine ow_nil (hK5 _ _ ?_); clear hK5
  refine cw_cond rfl (fun hc11 => ?_) (fun hc11 => ?_)
  ·
    replace hM := (ite_t hc11).symm.trans hM
    refine cw_seq fun K6 hK6 => ?_
    refine cw_region ?_
    obtain ⟨y12, hy13, hM⟩ := bind_some hM
    refine ow_cons (st_callv (fun w hm => let ⟨S, hs⟩ := hm; law27_awake_spec _ w  y12 hy13 (lend_lt hs) ) ?_)
    refine ow_ev ev_move ?_
    refine ow_evg rfl ev_move ?_
    refine ow_evg rfl ev_eql ?_
    refine ow_ev ev_and ?_
    refine ow_ev ev_assign ?_
    refine ow_nil (hK6 _ _ ?_); clear hK6
    obtain rfl := some_inj hM
    refine cw_ret (kw_retc1 (fun w hm => ret_of hm rfl))
  ·
    replace hM := (ite_f hc11).symm.trans hM
    refine cw_skip (hK4 _ _ ?_); clear hK4
    refine cw_seq fun K7 hK7 => ?_
    refine cw_region ?_
    refine ow_ev ev_move ?_
    obtain ⟨y14, hy15, hM⟩ := bind_some hM
    refine ow_cons (st_callv (fun w hm => let ⟨S, hs⟩ := hm; keep_Pick_spec _ w v0 7 y14 hy15 (lend_lt hs) ) ?_)
    obtain ⟨hI16, hM⟩ := chk_some hM
    refine ow_ev (ev_sub (hr := fun hg => i64b_I64 hI16)) ?_
    refine ow_ev ev_assign ?_
    refine ow_nil (hK7 _ _ ?_); clear hK7
    refine cw_cut (γ := ((List Int) × (List Int) × Int) × ((SR (GoRep.R Int)) × (SR (GoRep.R Int)))) (env := fun ((lf_j1_0, lf_j1_1, f_j1_2), (rf_j1_0, rf_j1_1)) => [(9, .v (.pointer (some ⟨b4, 0, none⟩))), (10, .v (.pointer (some ⟨b8, 0, none⟩)))]) (mem := fun ((lf_j1_0, lf_j1_1, f_j1_2), (rf_j1_0, rf_j1_1)) => [trow 3 r3.1 y1.Supply, trow 40 r3.2 y1.Arcs, own b4 25 [.slice r3.1.a y1.Supply.length r3.1.cap, .slice r3.2.a y1.Arcs.length r3.2.cap], trow 3 rf_j1_0 lf_j1_0, imm (α := (List Int)) rf_j1_1 lf_j1_1, own b8 28 [.slice rf_j1_0.a lf_j1_0.length rf_j1_0.cap, .slice rf_j1_1.a lf_j1_1.length rf_j1_1.cap, .int .i64 f_j1_2]]) (R := fun g => law27_FlowVerify_k1 y1 g.1 = some y) ?_ ?_
    · intro KJ1 hJ1
      refine cw_seq fun K9 hK9 => ?_
      refine cw_region ?_
      refine ow_ev ev_move ?_
      obtain ⟨y23, hy24, hM⟩ := bind_some hM
      refine ow_cons (st_callv (fun w hm => let ⟨S, hs⟩ := hm; keep_Pick_spec _ w how0 4 y23 hy24 (lend_lt hs) ) ?_)
      refine ow_nil (hK9 _ _ ?_); clear hK9
      refine cw_block ?_
      refine cw_seq fun K10 hK10 => ?_
      refine cw_region ?_
      refine ow_ev ev_eql ?_
      refine ow_ev ev_assign ?_
      refine ow_nil (hK10 _ _ ?_); clear hK10
      refine cw_cond rfl (fun hc25 => ?_) (fun hc25 => ?_)
      ·
        replace hM := (ite_t hc25).symm.trans hM
        refine cw_seq fun K11 hK11 => ?_
        refine cw_region ?_
        refine ow_ev (ev_field_addr 1) ?_
        refine ow_ev (ev_load_own (b := b8)) ?_
        refine ow_imp (fun w hm => hm.row_nil (α := Int) 3 (fun _ => ())) ?_
        obtain ⟨hb27, hM⟩ := chk_some hM
        refine ow_cons (st_append (r := (⟨none, 0, (fun _ => ())⟩ : SR (GoRep.R Int)   )) (r2 := r7.2) (by intro r'; repeat (first | exact Upd.head | apply Upd.tail)) (Kn.trow (e := 3) (r := r7.2) (by repeat (first | exact Has.head | apply Has.tail))) (OkL.flat (fun _ _ _ _ => trivial)) (of_decide_eq_true hb27) (fun r28 => ?_))
        refine ow_ev (ev_field_addr 1) ?_
        refine ow_cons (st_store_own (b := b8) (l' := [.slice r7.1.a y5.1.X.length r7.1.cap, .slice r28.a ((([] : List Int) ++ y5.1.Price).length) r28.cap, .int .i64 y5.1.Cost]) (k := ?_))
        refine ow_nil (hK11 _ _ ?_); clear hK11
        refine cw_region_z [trow 3 r28 (([] : List Int) ++ y5.1.Price), own b8 28 [.slice r7.1.a y5.1.X.length r7.1.cap, .slice r28.a ((([] : List Int) ++ y5.1.Price).length) r28.cap, .int .i64 y5.1.Cost], trow 3 r7.1 y5.1.X, trow 3 r7.2 y5.1.Price, own b4 25 [.slice r3.1.a y1.Supply.length r3.1.cap, .slice r3.2.a y1.Arcs.length r3.2.cap], trow 3 r3.1 y1.Supply, trow 40 r3.2 y1.Arcs, imm (α := (List Int)) r_l0 l0] 12 ?_
        refine az_ev 0 rfl (ev_field_addr 1) ?_
        refine az_ev 1 rfl (ev_load_own (b := b8)) ?_
        refine az_ev 2 rfl ev_move ?_
        refine az_ev 3 rfl (ev_field_addr 1) ?_
        refine az_ev 4 rfl (ev_load_own (b := b8)) ?_
        refine az_ev 5 rfl ev_len ?_
        refine az_ev 9 rfl ev_move ?_
        obtain ⟨y29, hy30, hM⟩ := bind_some hM
        refine az_one 6 rfl (st_callv (fun w hm => let ⟨S, hs⟩ := hm; keep_Pick_spec _ w at0 ((([] : List Int) ++ y5.1.Price).length : Int) y29 hy30 (lend_lt hs) ) ⟨fun w hm => hm.sub (by repeat (first | exact List.Sublist.refl _ | apply List.Sublist.cons_cons | apply List.Sublist.cons)), ?_⟩)
        obtain ⟨x31, hx32, hM⟩ := bind_some hM
        refine az_ev 7 rfl (ev_idx (xs := (([] : List Int) ++ y5.1.Price)) 1 (Kn.trow (e := 3) (r := r28) (by repeat (first | exact Has.head | apply Has.tail))) (fun hg => let h := idx_some hx32; ⟨h.1, h.2.1⟩)) ?_
        refine az_ev 8 rfl (ev_ld (i := y29) (xs := (([] : List Int) ++ y5.1.Price)) (y := x31) 0 (Kn.trow (e := 3) (r := r28) (by repeat (first | exact Has.head | apply Has.tail))) (fun _ => hx32)) ?_
        obtain ⟨hI33, hM⟩ := chk_some hM
        refine az_ev 10 rfl (ev_add (hr := fun hg => i64b_I64 hI33)) ?_
        obtain ⟨x34, hx35, hM⟩ := bind_some hM
        refine az_ev 11 rfl (ev_idx (xs := (([] : List Int) ++ y5.1.Price)) 1 (Kn.trow (e := 3) (r := r28) (by repeat (first | exact Has.head | apply Has.tail))) (fun hg => let h := idx_some hx35; ⟨h.1, h.2.1⟩)) ?_
        refine az_last rfl (st_set (r := r28) (i := y29) (xs := (([] : List Int) ++ y5.1.Price)) (u := x34) (vs := [.int .i64 (x31 + (y14 - 3))]) 0 (x31 + (y14 - 3)) hx35 rfl (fun _ _ h => h) (by repeat (first | exact Upd.head | apply Upd.tail)) ?_)
        refine az_imp (fun w hm => hm.freeze (r := r28) (by repeat (first | exact Upd.head | apply Upd.tail))) ?_
        refine az_done (hJ1 ((y5.1.X, ((([] : List Int) ++ y5.1.Price).set y29.toNat (x31 + (y14 - 3))), y5.1.Cost), (r7.1, r28)) _ _ hM ⟨rfl, rfl, trivial⟩ (fun w hm => by simp only [List.length_set]; exact hm.reord))
      ·
        replace hM := (ite_f hc25).symm.trans hM
        refine cw_seq fun K12 hK12 => ?_
        refine cw_region ?_
        refine ow_ev ev_eql ?_
        refine ow_ev ev_assign ?_
        refine ow_nil (hK12 _ _ ?_); clear hK12
        refine cw_cond rfl (fun hc36 => ?_) (fun hc36 => ?_)
        ·
          replace hM := (ite_t hc36).symm.trans hM
          refine cw_seq fun K13 hK13 => ?_
          refine cw_region ?_
          refine ow_ev (ev_field_addr 0) ?_
          refine ow_ev (ev_load_own (b := b8)) ?_
          refine ow_ev ev_len ?_
          refine ow_ev ev_gtr ?_
          refine ow_nil (hK13 _ _ ?_); clear hK13
          refine cw_cond rfl (fun hc37 => ?_) (fun hc37 => ?_)
          ·
            replace hM := (ite_t hc37).symm.trans hM
            refine cw_seq fun K14 hK14 => ?_
            refine cw_region ?_
            refine ow_ev (ev_field_addr 0) ?_
            refine ow_ev (ev_load_own (b := b8)) ?_
            refine ow_imp (fun w hm => hm.row_nil (α := Int) 3 (fun _ => ())) ?_
            obtain ⟨hb39, hM⟩ := chk_some hM
            refine ow_cons (st_append (r := (⟨none, 0, (fun _ => ())⟩ : SR (GoRep.R Int)    )) (r2 := r7.1) (by intro r'; repeat (first | exact Upd.head | apply Upd.tail)) (Kn.trow (e := 3) (r := r7.1) (by repeat (first | exact Has.head | apply Has.tail))) (OkL.flat (fun _ _ _ _ => trivial)) (of_decide_eq_true hb39) (fun r40 => ?_))
            refine ow_ev (ev_field_addr 0) ?_
            refine ow_cons (st_store_own (b := b8) (l' := [.slice r40.a ((([] : List Int) ++ y5.1.X).length) r40.cap, .slice r7.2.a y5.1.Price.length r7.2.cap, .int .i64 y5.1.Cost]) (k := ?_))
            refine ow_nil (hK14 _ _ ?_); clear hK14
            refine cw_region_z [trow 3 r40 (([] : List Int) ++ y5.1.X), own b8 28 [.slice r40.a ((([] : List Int) ++ y5.1.X).length) r40.cap, .slice r7.2.a y5.1.Price.length r7.2.cap, .int .i64 y5.1.Cost], trow 3 r7.1 y5.1.X, trow 3 r7.2 y5.1.Price, own b4 25 [.slice r3.1.a y1.Supply.length r3.1.cap, .slice r3.2.a y1.Arcs.length r3.2.cap], trow 3 r3.1 y1.Supply, trow 40 r3.2 y1.Arcs, imm (α := (List Int)) r_l0 l0] 12 ?_
            refine az_ev 0 rfl (ev_field_addr 0) ?_
            refine az_ev 1 rfl (ev_load_own (b := b8)) ?_
            refine az_ev 2 rfl ev_move ?_
            refine az_ev 3 rfl (ev_field_addr 0) ?_
            refine az_ev 4 rfl (ev_load_own (b := b8)) ?_
            refine az_ev 5 rfl ev_len ?_
            refine az_ev 9 rfl ev_move ?_
            obtain ⟨y41, hy42, hM⟩ := bind_some hM
            refine az_one 6 rfl (st_callv (fun w hm => let ⟨S, hs⟩ := hm; keep_Pick_spec _ w at0 ((([] : List Int) ++ y5.1.X).length : Int) y41 hy42 (lend_lt hs) ) ⟨fun w hm => hm.sub (by repeat (first | exact List.Sublist.refl _ | apply List.Sublist.cons_cons | apply List.Sublist.cons)), ?_⟩)
            obtain ⟨x43, hx44, hM⟩ := bind_some hM
            refine az_ev 7 rfl (ev_idx (xs := (([] : List Int) ++ y5.1.X)) 1 (Kn.trow (e := 3) (r := r40) (by repeat (first | exact Has.head | apply Has.tail))) (fun hg => let h := idx_some hx44; ⟨h.1, h.2.1⟩)) ?_
            refine az_ev 8 rfl (ev_ld (i := y41) (xs := (([] : List Int) ++ y5.1.X)) (y := x43) 0 (Kn.trow (e := 3) (r := r40) (by repeat (first | exact Has.head | apply Has.tail))) (fun _ => hx44)) ?_
            obtain ⟨hI45, hM⟩ := chk_some hM
            refine az_ev 10 rfl (ev_add (hr := fun hg => i64b_I64 hI45)) ?_
            obtain ⟨x46, hx47, hM⟩ := bind_some hM
            refine az_ev 11 rfl (ev_idx (xs := (([] : List Int) ++ y5.1.X)) 1 (Kn.trow (e := 3) (r := r40) (by repeat (first | exact Has.head | apply Has.tail))) (fun hg => let h := idx_some hx47; ⟨h.1, h.2.1⟩)) ?_
            refine az_last rfl (st_set (r := r40) (i := y41) (xs := (([] : List Int) ++ y5.1.X)) (u := x46) (vs := [.int .i64 (x43 + (y14 - 3))]) 0 (x43 + (y14 - 3)) hx47 rfl (fun _ _ h => h) (by repeat (first | exact Upd.head | apply Upd.tail)) ?_)
            refine az_imp (fun w hm => hm.freeze (r := r7.2) (by repeat (first | exact Upd.head | apply Upd.tail))) ?_
            refine az_done (hJ1 ((((([] : List Int) ++ y5.1.X).set y41.toNat (x43 + (y14 - 3))), y5.1.Price, y5.1.Cost), (r40, r7.2)) _ _ hM ⟨rfl, rfl, trivial⟩ (fun w hm => by simp only [List.length_set]; exact hm.reord))
          ·
            replace hM := (ite_f hc37).symm.trans hM
            refine cw_imp (fun w hm => hm.freeze (r := r7.2) (by repeat (first | exact Upd.head | apply Upd.tail))) ?_
            refine cw_skip (hJ1 ((y5.1.X, y5.1.Price, y5.1.Cost), (r7.1, r7.2)) _ _ hM ⟨rfl, rfl, trivial⟩ (fun w hm => hm.reord))
        ·
          replace hM := (ite_f hc36).symm.trans hM
          refine cw_seq fun K15 hK15 => ?_
          refine cw_region ?_
          refine ow_ev ev_eql ?_
          refine ow_ev ev_assign ?_
          refine ow_nil (hK15 _ _ ?_); clear hK15
          refine cw_cond rfl (fun hc48 => ?_) (fun hc48 => ?_)
          ·
            replace hM := (ite_t hc48).symm.trans hM
            refine cw_region ?_
            refine ow_ev (ev_field_addr 2) ?_
            refine ow_ev (ev_load_own (b := b8)) ?_
            refine ow_ev ev_move ?_
            obtain ⟨hI49, hM⟩ := chk_some hM
            refine ow_ev (ev_add (hr := fun hg => i64b_I64 hI49)) ?_
            refine ow_ev (ev_field_addr 2) ?_
            refine ow_cons (st_store_own (b := b8) (l' := [.slice r7.1.a y5.1.X.length r7.1.cap, .slice r7.2.a y5.1.Price.length r7.2.cap, .int .i64 (y5.1.Cost + (y14 - 3))]) (k := ?_))
            refine ow_imp (fun w hm => hm.freeze (r := r7.2) (by repeat (first | exact Upd.head | apply Upd.tail))) ?_
            refine ow_nil (hJ1 ((y5.1.X, y5.1.Price, (y5.1.Cost + (y14 - 3))), (r7.1, r7.2)) _ _ hM ⟨rfl, rfl, trivial⟩ (fun w hm => hm.reord))
          ·
            replace hM := (ite_f hc48).symm.trans hM
            refine cw_region ?_
            refine ow_ev (ev_field_addr 1) ?_
            refine ow_ev (ev_load_own (b := b8)) ?_
            obtain ⟨l50, hl51, hM⟩ := bind_some hM
            refine ow_imp (fun w hm => hm.freeze (r := r7.2) (by repeat (first | exact Upd.head | apply Upd.tail))) ?_
            refine ow_cons (st_sub (r := r7.2) (xs := y5.1.Price) (ol := some (.i64, 1)) (oh := none) (Sk.imm (α := List Int) (r := r7.2) (x := y5.1.Price) (by repeat (first | exact Has.head | apply Has.tail))) hl51 (fun r52 => ?_))
            refine ow_ev (ev_field_addr 1) ?_
            refine ow_cons (st_store_own (b := b8) (l' := [.slice r7.1.a y5.1.X.length r7.1.cap, .slice r52.a l50.length r52.cap, .int .i64 y5.1.Cost]) (k := ?_))
            refine ow_nil (hJ1 ((y5.1.X, l50, y5.1.Cost), (r7.1, r52)) _ _ hM ⟨rfl, rfl, trivial⟩ (fun w hm => hm.reord))
    ·
      clear hM
      intro g hM
      obtain ⟨⟨lf_j1_0, lf_j1_1, f_j1_2⟩, ⟨rf_j1_0, rf_j1_1⟩⟩ := g
      dsimp only at hM ⊢
      dsimp only [law27_FlowVerify_k1] at hM
      refine cw_seq fun K8 hK8 => ?_
      refine cw_region_any _ (List.Sublist.refl _) ?_
      obtain ⟨y17, hy18, hM⟩ := bind_some hM
      refine aw_one 0 rfl (st_callv (fun w hm => let ⟨S, hs⟩ := hm; law27_awake_spec _ w  y17 hy18 (lend_lt hs) ) ⟨fun w hm => hm.sub (by repeat (first | exact List.Sublist.refl _ | apply List.Sublist.cons_cons | apply List.Sublist.cons)), ?_⟩)
      refine aw_ev 1 rfl ev_move ?_
      refine aw_evg 2 rfl rfl (ev_load_all (b := b4)) ?_
      refine aw_evg 3 rfl rfl (ev_load_all (b := b8)) ?_
      refine aw_evg 5 rfl rfl (ev_load_all (b := b4)) ?_
      refine aw_evg 6 rfl rfl (ev_load_all (b := b8)) ?_
      obtain ⟨y19, hy20, hM⟩ := bind_some hM
      refine aw_callg 4 rfl rfl (fun hg w hm => let ⟨S, hs⟩ := hm; flow_Verify_spec _ w y1 r3 (Flow.mk lf_j1_0 lf_j1_1 f_j1_2) (rf_j1_0, rf_j1_1) y19 (whn_some hy20 hg) (lend_lt hs) ⟨(Kn.lend (Kn.trow (e := 3) (r := r3.1) (by repeat (first | exact Has.head | apply Has.tail))) hs), (Kn.lend (Kn.trow (e := 40) (r := r3.2) (by repeat (first | exact Has.head | apply Has.tail))) hs)⟩ ⟨(Kn.lend (Kn.trow (e := 3) (r := rf_j1_0) (by repeat (first | exact Has.head | apply Has.tail))) hs), (Kn.lend (Kn.imm (α := List Int) (r := rf_j1_1) (x := lf_j1_1) (by repeat (first | exact Has.head | apply Has.tail))) hs)⟩) ?_
      obtain ⟨y21, hy22, hM⟩ := bind_some hM
      refine aw_callg 7 rfl rfl (fun hg w hm => let ⟨S, hs⟩ := hm; ref24_VerifyFlow_spec _ w y1 r3 (Flow.mk lf_j1_0 lf_j1_1 f_j1_2) (rf_j1_0, rf_j1_1) y21 (whn_some hy22 hg) (lend_lt hs) ⟨(Kn.lend (Kn.trow (e := 3) (r := r3.1) (by repeat (first | exact Has.head | apply Has.tail))) hs), (Kn.lend (Kn.trow (e := 40) (r := r3.2) (by repeat (first | exact Has.head | apply Has.tail))) hs)⟩ ⟨(Kn.lend (Kn.trow (e := 3) (r := rf_j1_0) (by repeat (first | exact Has.head | apply Has.tail))) hs), (Kn.lend (Kn.imm (α := List Int) (r := rf_j1_1) (x := lf_j1_1) (by repeat (first | exact Has.head | apply Has.tail))) hs)⟩) ?_
      refine aw_evg 8 rfl rfl ev_bool_eql ?_
      refine aw_ev 9 rfl ev_and ?_
      refine aw_ev 10 rfl ev_assign ?_
      refine aw_done (hK8 _ _ ?_); clear hK8
      obtain rfl := some_inj hM
      refine cw_ret (kw_retc1 (fun w hm => ret_of hm rfl))

def law27_FlowScale_k2 (y1 : Graph) (lwide_1_0 : List Int) (lwide_2_1 : List Arc) (ldear_2_1 : List Arc) (y5 : Int) : Unit → Option Bool := fun _ =>
  (ref24_LeastFlow_m y1).bind fun y34 =>
  (flow_Solve_m (Graph.mk lwide_1_0 lwide_2_1)).bind fun y36 =>
  (flow_Solve_m (Graph.mk y1.Supply ldear_2_1)).bind fun y40 =>
  if (!y34.2) then
    ((law27_awake_m).bind fun y45 =>
    some ((y45 && decide (y36.2 = 14)) && decide (y40.2 = 14)))
  else
    ((law27_awake_m).bind fun y47 =>
    chk (!((y47 && decide (y36.2 = 0)) && decide (y40.2 = 0)) || i64b (y34.1 * (2 + y5))) <|
    chk (!(((y47 && decide (y36.2 = 0)) && decide (y40.2 = 0)) && decide (y36.1.Cost = (y34.1 * (2 + y5)))) || i64b (y34.1 * (2 + y5))) <|
    some ((((y47 && decide (y36.2 = 0)) && decide (y40.2 = 0)) && decide (y36.1.Cost = (y34.1 * (2 + y5)))) && decide (y40.1.Cost = (y34.1 * (2 + y5)))))
def law27_FlowScale_b2 (y1 : Graph) (y5 : Int) (lwide_1_0 : List Int) (cont2 : ((List Arc) × (List Arc) × Nat) → Option Bool) : ((List Arc) × (List Arc) × Nat) → Option Bool := fun (lwide_2_1, ldear_2_1, t47_2) =>
  if decide ((t47_2 : Int) < (y1.Arcs.length : Int)) then
    ((idx y1.Arcs (t47_2 : Int)).bind fun x23 =>
    chk (i64b (x23.Cap * (2 + y5))) <|
    chk (decide ((lwide_2_1.length + ([(Arc.mk x23.From x23.To (x23.Cap * (2 + y5)) x23.Cost)] : List Arc).length) * 32 ≤ 140737488355328)) <|
    chk (i64b (x23.Cost * (2 + y5))) <|
    chk (decide ((ldear_2_1.length + ([(Arc.mk x23.From x23.To x23.Cap (x23.Cost * (2 + y5)))] : List Arc).length) * 32 ≤ 140737488355328)) <|
    cont2 ((lwide_2_1 ++ ([(Arc.mk x23.From x23.To (x23.Cap * (2 + y5)) x23.Cost)] : List Arc)), (ldear_2_1 ++ ([(Arc.mk x23.From x23.To x23.Cap (x23.Cost * (2 + y5)))] : List Arc)), t47_2 + 1))
  else
    (law27_FlowScale_k2 y1 lwide_1_0 lwide_2_1 ldear_2_1 y5 ())
def law27_FlowScale_k1 (y1 : Graph) (y5 : Int) (lwide_1_0 : List Int) : Unit → Option Bool := fun _ =>
  iter (law27_FlowScale_b2 y1 y5 lwide_1_0) FUEL (([] : List Arc), ([] : List Arc), 0)
def law27_FlowScale_b1 (y1 : Graph) (y5 : Int) (cont1 : ((List Int) × Nat) → Option Bool) : ((List Int) × Nat) → Option Bool := fun (lwide_1_0, t31_1) =>
  if decide ((t31_1 : Int) < (y1.Supply.length : Int)) then
    ((idx y1.Supply (t31_1 : Int)).bind fun x15 =>
    chk (i64b (x15 * (2 + y5))) <|
    chk (decide ((lwide_1_0.length + ([(x15 * (2 + y5))] : List Int).length) * 8 ≤ 140737488355328)) <|
    cont1 ((lwide_1_0 ++ ([(x15 * (2 + y5))] : List Int)), t31_1 + 1))
  else
    (law27_FlowScale_k1 y1 y5 lwide_1_0 ())
def law27_FlowScale_m (l0 : List Int) (by0 : Int) : Option Bool :=
  (keep2_Graph_m l0).bind fun y1 =>
  (keep_Pick_m by0 1000).bind fun y5 =>
  chk (i64b (2 + y5)) <|
  iter (law27_FlowScale_b1 y1 y5) FUEL (([] : List Int), 0)
theorem law27_FlowScale_spec (S : Soup) (w : World) (l0 : List Int) (r_l0 : GoRep.R (List Int)) (by0 : Int) (y : Bool) (hM : law27_FlowScale_m l0 by0 = some y) (hS : ∀ k, S k → k < w.heap.size) (h_l0 : GoRep.ok S w r_l0 l0) :
    Calls Try.prog 5 #[.slice r_l0.a l0.length r_l0.cap, .int .i64 by0] w (Ret w (.bool y)) := by
  refine calls_cw (args := [_, _]) Try.func5 rfl ((pre_nil hS).start |>.immP (α := List Int) (r := r_l0) (x := l0) h_l0) rfl ?_
  unfold law27_FlowScale_m at hM
  refine cw_seq fun K1 hK1 => ?_
  refine cw_region ?_
  refine ow_ev ev_assign ?_
  refine ow_nil (hK1 _ _ ?_); clear hK1
  refine cw_seq fun K2 hK2 => ?_
  refine cw_region ?_
  refine ow_ev ev_move ?_
  obtain ⟨y1, hy2, hM⟩ := bind_some hM
  refine ow_cons (st_callF SelL.nil (fun S w hs hP => keep2_Graph_spec _ w l0 r_l0 y1 hy2 (lend_lt hs) (Kn.lend (Kn.imm (α := List Int) (r := r_l0) (x := l0) (by repeat (first | exact Has.head | apply Has.tail))) hs)) (by intro r c hc; simp only [List.mem_cons, List.not_mem_nil, or_false] at hc; rcases hc with rfl | rfl <;> first | exact flatC_own | exact flatC_trow (fun _ _ _ _ => trivial)) (fun r3 => ?_))
  dsimp only [List.cons_append, List.nil_append]
  refine ow_cons (st_alloc rfl (k := fun b4 => ?_))
  refine ow_cons (st_store_all (b := b4) (vs := [.slice r3.1.a y1.Supply.length r3.1.cap, .slice r3.2.a y1.Arcs.length r3.2.cap]) (k := ?_))
  refine ow_nil (hK2 _ _ ?_); clear hK2
  refine cw_seq fun K3 hK3 => ?_
  refine cw_region ?_
  refine ow_ev ev_move ?_
  obtain ⟨y5, hy6, hM⟩ := bind_some hM
  refine ow_cons (st_callv (fun w hm => let ⟨S, hs⟩ := hm; keep_Pick_spec _ w by0 1000 y5 hy6 (lend_lt hs) ) ?_)
  obtain ⟨hI7, hM⟩ := chk_some hM
  refine ow_ev (ev_add (hr := fun hg => i64b_I64 hI7)) ?_
  refine ow_ev ev_assign ?_
  refine ow_nil (hK3 _ _ ?_); clear hK3
  refine cw_seq fun K4 hK4 => ?_
  refine cw_region ?_
  refine ow_ev (ev_build [.slice none 0 0, .slice none 0 0]) ?_
  refine ow_cons (st_alloc rfl (k := fun b8 => ?_))
  refine ow_cons (st_store_all (b := b8) (vs := [.slice none 0 0, .slice none 0 0]) (k := ?_))
  refine ow_nil (hK4 _ _ ?_); clear hK4
  refine cw_seq fun K5 hK5 => ?_
  refine cw_region ?_
  refine ow_ev (ev_field_addr 0) ?_
  refine ow_ev (ev_load_own (b := b4)) ?_
  refine ow_ev (ev_build [.slice r3.1.a y1.Supply.length r3.1.cap, .slice none 0 0]) ?_
  refine ow_cons (st_alloc rfl (k := fun b9 => ?_))
  refine ow_cons (st_store_all (b := b9) (vs := [.slice r3.1.a y1.Supply.length r3.1.cap, .slice none 0 0]) (k := ?_))
  refine ow_nil (hK5 _ _ ?_); clear hK5
  refine cw_seq fun K6 hK6 => ?_
  refine cw_seq fun K7 hK7 => ?_
  refine cw_region ?_
  refine ow_ev (ev_field_addr 0) ?_
  refine ow_ev (ev_load_own (b := b4)) ?_
  refine ow_have (fun w hm => Kn.len (Kn.trow (e := 3) (r := r3.1) (by repeat (first | exact Has.head | apply Has.tail))) hm) fun hl10 => ?_
  refine ow_ev ev_len ?_
  refine ow_ev ev_move ?_
  refine ow_nil (hK7 _ _ ?_); clear hK7
  refine cw_block ?_
  refine cw_imp (fun w hm => hm.row_nil (α := Arc) 40 (fun _ => ())) ?_
  refine cw_imp (fun w hm => hm.row_nil (α := Int) 3 (fun _ => ())) ?_
  refine cw_imp (fun w hm => hm.row_nil (α := Arc) 40 (fun _ => ())) ?_
  refine cw_loop (γ := Nat × ((List Int) × Nat) × (SR (GoRep.R Int))) (env := fun (_, (lwide_1_0, t31_1), rwide_1_0) => [(5, .v (.pointer (some ⟨b4, 0, none⟩))), (6, .v (.int .i64 (2 + y5))), (7, .v (.pointer (some ⟨b8, 0, none⟩))), (8, .v (.pointer (some ⟨b9, 0, none⟩))), (29, .v (.slice r3.1.a y1.Supply.length r3.1.cap)), (30, .v (.int .i64 (y1.Supply.length : Int))), (31, .v (.int .i64 (t31_1 : Int)))]) (mem := fun (_, (lwide_1_0, t31_1), rwide_1_0) => [trow 3 r3.1 y1.Supply, trow 40 r3.2 y1.Arcs, own b4 25 [.slice r3.1.a y1.Supply.length r3.1.cap, .slice r3.2.a y1.Arcs.length r3.2.cap], trow 3 rwide_1_0 lwide_1_0, trow 40 (⟨none, 0, (fun _ => ())⟩ : SR (GoRep.R Arc)   ) ([] : List Arc), own b8 25 [.slice rwide_1_0.a lwide_1_0.length rwide_1_0.cap, .slice (⟨none, 0, (fun _ => ())⟩ : SR (GoRep.R Arc)   ).a (([] : List Arc).length) (⟨none, 0, (fun _ => ())⟩ : SR (GoRep.R Arc)   ).cap], trow 40 (⟨none, 0, (fun _ => ())⟩ : SR (GoRep.R Arc) ) ([] : List Arc), own b9 25 [.slice r3.1.a y1.Supply.length r3.1.cap, .slice (⟨none, 0, (fun _ => ())⟩ : SR (GoRep.R Arc) ).a (([] : List Arc).length) (⟨none, 0, (fun _ => ())⟩ : SR (GoRep.R Arc) ).cap]]) (R := fun g => iter (law27_FlowScale_b1 y1 y5) g.1 g.2.1 = some y) (μ := fun g => g.1) (FUEL, (([] : List Int), 0), (⟨none, 0, (fun _ => ())⟩ : SR (GoRep.R Int)  )) hM ⟨rfl, rfl, rfl, rfl, rfl, rfl, rfl, trivial⟩ (fun w hm => hm.reord) ?_
  clear hM
  intro g hM KL1 hL1
  obtain ⟨nn1, ⟨lwide_1_0, t31_1⟩, rwide_1_0⟩ := g
  dsimp only at hM ⊢
  obtain ⟨nn1, cont1, rfl, hcont1, hM⟩ := iter_open' hM
  dsimp only [law27_FlowScale_b1] at hM
  refine cw_seq fun K8 hK8 => ?_
  refine cw_region ?_
  refine ow_ev ev_lss ?_
  refine ow_nil (hK8 _ _ ?_); clear hK8
  refine cw_seq fun K9 hK9 => ?_
  refine cw_cond rfl (fun hc14 => ?_) (fun hc14 => ?_)
  ·
    replace hM := (ite_t hc14).symm.trans hM
    have hc14d := of_decide_eq_true hc14
    refine cw_skip (hK9 _ _ ?_); clear hK9
    refine cw_seq fun K10 hK10 => ?_
    refine cw_block ?_
    refine cw_seq fun K11 hK11 => ?_
    refine cw_region ?_
    obtain ⟨x15, hx16, hM⟩ := bind_some hM
    refine ow_ev (ev_idx (xs := y1.Supply) 1 (Kn.trow (e := 3) (r := r3.1) (by repeat (first | exact Has.head | apply Has.tail))) (fun hg => let h := idx_some hx16; ⟨h.1, h.2.1⟩)) ?_
    refine ow_ev (ev_ld (i := (t31_1 : Int)) (xs := y1.Supply) (y := x15) 0 (Kn.trow (e := 3) (r := r3.1) (by repeat (first | exact Has.head | apply Has.tail))) (fun _ => hx16)) ?_
    refine ow_ev ev_assign ?_
    refine ow_nil (hK11 _ _ ?_); clear hK11
    refine cw_region ?_
    refine ow_ev (ev_field_addr 0) ?_
    refine ow_ev (ev_load_own (b := b8)) ?_
    refine ow_ev ev_move ?_
    refine ow_ev ev_move ?_
    obtain ⟨hI17, hM⟩ := chk_some hM
    refine ow_ev (ev_mul (hr := fun hg => i64b_I64 hI17)) ?_
    refine ow_cons (st_bslice (α := Int) 3 (fun _ => ()) ([(x15 * (2 + y5))] : List Int) (OkL.flat (fun _ _ _ _ => trivial)) (fun r18 => ?_))
    obtain ⟨hb19, hM⟩ := chk_some hM
    refine ow_cons (st_append (r := rwide_1_0) (r2 := r18) (by intro r'; repeat (first | exact Upd.head | apply Upd.tail)) (Kn.trow (e := 3) (r := r18) (by repeat (first | exact Has.head | apply Has.tail))) (OkL.flat (fun _ _ _ _ => trivial)) (of_decide_eq_true hb19) (fun r20 => ?_))
    refine ow_ev (ev_field_addr 0) ?_
    refine ow_cons (st_store_own (b := b8) (l' := [.slice r20.a ((lwide_1_0 ++ ([(x15 * (2 + y5))] : List Int)).length) r20.cap, .slice (⟨none, 0, (fun _ => ())⟩ : SR (GoRep.R Arc)   ).a (([] : List Arc).length) (⟨none, 0, (fun _ => ())⟩ : SR (GoRep.R Arc)   ).cap]) (k := ?_))
    refine ow_nil (hK10 _ _ ?_); clear hK10
    refine cw_region ?_
    refine ow_ev (ev_add (hr := fun _ => by unfold I64; omega)) ?_
    refine ow_ev ev_move ?_
    refine ow_nil (hL1 (nn1, ((lwide_1_0 ++ ([(x15 * (2 + y5))] : List Int)), t31_1 + 1), r20) _ _ (eqc hcont1 hM) (Nat.lt_succ_self _) ⟨rfl, rfl, rfl, rfl, rfl, rfl, rfl, trivial⟩ (fun w hm => hm.reord))
  ·
    replace hM := (ite_f hc14).symm.trans hM
    refine cw_exit (hK6 _ _ ?_); clear hK6
    dsimp only [law27_FlowScale_k1] at hM
    refine cw_seq fun K12 hK12 => ?_
    refine cw_seq fun K13 hK13 => ?_
    refine cw_region ?_
    refine ow_ev (ev_field_addr 1) ?_
    refine ow_ev (ev_load_own (b := b4)) ?_
    refine ow_have (fun w hm => Kn.len (Kn.trow (e := 40) (r := r3.2) (by repeat (first | exact Has.head | apply Has.tail))) hm) fun hl21 => ?_
    refine ow_ev ev_len ?_
    refine ow_ev ev_move ?_
    refine ow_nil (hK13 _ _ ?_); clear hK13
    refine cw_block ?_
    refine cw_loop (γ := Nat × ((List Arc) × (List Arc) × Nat) × ((SR (GoRep.R Arc)) × (SR (GoRep.R Arc)))) (env := fun (_, (lwide_2_1, ldear_2_1, t47_2), (rwide_2_1, rdear_2_1)) => [(5, .v (.pointer (some ⟨b4, 0, none⟩))), (6, .v (.int .i64 (2 + y5))), (7, .v (.pointer (some ⟨b8, 0, none⟩))), (8, .v (.pointer (some ⟨b9, 0, none⟩))), (45, .v (.slice r3.2.a y1.Arcs.length r3.2.cap)), (46, .v (.int .i64 (y1.Arcs.length : Int))), (47, .v (.int .i64 (t47_2 : Int)))]) (mem := fun (_, (lwide_2_1, ldear_2_1, t47_2), (rwide_2_1, rdear_2_1)) => [trow 3 r3.1 y1.Supply, trow 40 r3.2 y1.Arcs, own b4 25 [.slice r3.1.a y1.Supply.length r3.1.cap, .slice r3.2.a y1.Arcs.length r3.2.cap], trow 3 rwide_1_0 lwide_1_0, trow 40 rwide_2_1 lwide_2_1, own b8 25 [.slice rwide_1_0.a lwide_1_0.length rwide_1_0.cap, .slice rwide_2_1.a lwide_2_1.length rwide_2_1.cap], trow 40 rdear_2_1 ldear_2_1, own b9 25 [.slice r3.1.a y1.Supply.length r3.1.cap, .slice rdear_2_1.a ldear_2_1.length rdear_2_1.cap]]) (R := fun g => iter (law27_FlowScale_b2 y1 y5 lwide_1_0) g.1 g.2.1 = some y) (μ := fun g => g.1) (FUEL, (([] : List Arc), ([] : List Arc), 0), ((⟨none, 0, (fun _ => ())⟩ : SR (GoRep.R Arc)   ), (⟨none, 0, (fun _ => ())⟩ : SR (GoRep.R Arc) ))) hM ⟨rfl, rfl, rfl, rfl, rfl, rfl, rfl, trivial⟩ (fun w hm => hm.reord) ?_
    clear hM
    intro g hM KL2 hL2
    obtain ⟨nn2, ⟨lwide_2_1, ldear_2_1, t47_2⟩, ⟨rwide_2_1, rdear_2_1⟩⟩ := g
    dsimp only at hM ⊢
    obtain ⟨nn2, cont2, rfl, hcont2, hM⟩ := iter_open' hM
    dsimp only [law27_FlowScale_b2] at hM
    refine cw_seq fun K14 hK14 => ?_
    refine cw_region ?_
    refine ow_ev ev_lss ?_
    refine ow_nil (hK14 _ _ ?_); clear hK14
    refine cw_seq fun K15 hK15 => ?_
    refine cw_cond rfl (fun hc22 => ?_) (fun hc22 => ?_)
    ·
      replace hM := (ite_t hc22).symm.trans hM
      have hc22d := of_decide_eq_true hc22
      refine cw_skip (hK15 _ _ ?_); clear hK15
      refine cw_seq fun K16 hK16 => ?_
      refine cw_block ?_
      refine cw_seq fun K17 hK17 => ?_
      refine cw_region ?_
      obtain ⟨x23, hx24, hM⟩ := bind_some hM
      refine ow_ev (ev_idx (xs := y1.Arcs) 4 (Kn.trow (e := 40) (r := r3.2) (by repeat (first | exact Has.head | apply Has.tail))) (fun hg => let h := idx_some hx24; ⟨h.1, h.2.1⟩)) ?_
      refine ow_ev (ev_lds (m := 4) (i := (t47_2 : Int)) (xs := y1.Arcs) (y := x23) (l := [.int .i64 x23.From, .int .i64 x23.To, .int .i64 x23.Cap, .int .i64 x23.Cost]) 0 (Kn.trow (e := 40) (r := r3.2) (by repeat (first | exact Has.head | apply Has.tail))) (fun _ => hx24)) ?_
      refine ow_cons (st_alloc rfl (k := fun b25 => ?_))
      refine ow_cons (st_store_all (b := b25) (vs := [.int .i64 x23.From, .int .i64 x23.To, .int .i64 x23.Cap, .int .i64 x23.Cost]) (k := ?_))
      refine ow_nil (hK17 _ _ ?_); clear hK17
      refine cw_seq fun K18 hK18 => ?_
      refine cw_region ?_
      refine ow_ev (ev_field_addr 1) ?_
      refine ow_ev (ev_load_own (b := b8)) ?_
      refine ow_ev (ev_field_addr 0) ?_
      refine ow_ev (ev_load_own (b := b25)) ?_
      refine ow_ev (ev_field_addr 1) ?_
      refine ow_ev (ev_load_own (b := b25)) ?_
      refine ow_ev (ev_field_addr 2) ?_
      refine ow_ev (ev_load_own (b := b25)) ?_
      refine ow_ev ev_move ?_
      obtain ⟨hI26, hM⟩ := chk_some hM
      refine ow_ev (ev_mul (hr := fun hg => i64b_I64 hI26)) ?_
      refine ow_ev (ev_field_addr 3) ?_
      refine ow_ev (ev_load_own (b := b25)) ?_
      refine ow_ev (ev_build [.int .i64 x23.From, .int .i64 x23.To, .int .i64 (x23.Cap * (2 + y5)), .int .i64 x23.Cost]) ?_
      refine ow_cons (st_bslice (α := Arc) 40 (fun _ => ()) ([(Arc.mk x23.From x23.To (x23.Cap * (2 + y5)) x23.Cost)] : List Arc) (OkL.flat (fun _ _ _ _ => trivial)) (fun r27 => ?_))
      obtain ⟨hb28, hM⟩ := chk_some hM
      refine ow_cons (st_append (r := rwide_2_1) (r2 := r27) (by intro r'; repeat (first | exact Upd.head | apply Upd.tail)) (Kn.trow (e := 40) (r := r27) (by repeat (first | exact Has.head | apply Has.tail))) (OkL.flat (fun _ _ _ _ => trivial)) (of_decide_eq_true hb28) (fun r29 => ?_))
      refine ow_ev (ev_field_addr 1) ?_
      refine ow_cons (st_store_own (b := b8) (l' := [.slice rwide_1_0.a lwide_1_0.length rwide_1_0.cap, .slice r29.a ((lwide_2_1 ++ ([(Arc.mk x23.From x23.To (x23.Cap * (2 + y5)) x23.Cost)] : List Arc)).length) r29.cap]) (k := ?_))
      refine ow_nil (hK18 _ _ ?_); clear hK18
      refine cw_region ?_
      refine ow_ev (ev_field_addr 1) ?_
      refine ow_ev (ev_load_own (b := b9)) ?_
      refine ow_ev (ev_field_addr 0) ?_
      refine ow_ev (ev_load_own (b := b25)) ?_
      refine ow_ev (ev_field_addr 1) ?_
      refine ow_ev (ev_load_own (b := b25)) ?_
      refine ow_ev (ev_field_addr 2) ?_
      refine ow_ev (ev_load_own (b := b25)) ?_
      refine ow_ev (ev_field_addr 3) ?_
      refine ow_ev (ev_load_own (b := b25)) ?_
      refine ow_ev ev_move ?_
      obtain ⟨hI30, hM⟩ := chk_some hM
      refine ow_ev (ev_mul (hr := fun hg => i64b_I64 hI30)) ?_
      refine ow_ev (ev_build [.int .i64 x23.From, .int .i64 x23.To, .int .i64 x23.Cap, .int .i64 (x23.Cost * (2 + y5))]) ?_
      refine ow_cons (st_bslice (α := Arc) 40 (fun _ => ()) ([(Arc.mk x23.From x23.To x23.Cap (x23.Cost * (2 + y5)))] : List Arc) (OkL.flat (fun _ _ _ _ => trivial)) (fun r31 => ?_))
      obtain ⟨hb32, hM⟩ := chk_some hM
      refine ow_cons (st_append (r := rdear_2_1) (r2 := r31) (by intro r'; repeat (first | exact Upd.head | apply Upd.tail)) (Kn.trow (e := 40) (r := r31) (by repeat (first | exact Has.head | apply Has.tail))) (OkL.flat (fun _ _ _ _ => trivial)) (of_decide_eq_true hb32) (fun r33 => ?_))
      refine ow_ev (ev_field_addr 1) ?_
      refine ow_cons (st_store_own (b := b9) (l' := [.slice r3.1.a y1.Supply.length r3.1.cap, .slice r33.a ((ldear_2_1 ++ ([(Arc.mk x23.From x23.To x23.Cap (x23.Cost * (2 + y5)))] : List Arc)).length) r33.cap]) (k := ?_))
      refine ow_nil (hK16 _ _ ?_); clear hK16
      refine cw_region ?_
      refine ow_ev (ev_add (hr := fun _ => by unfold I64; omega)) ?_
      refine ow_ev ev_move ?_
      refine ow_nil (hL2 (nn2, ((lwide_2_1 ++ ([(Arc.mk x23.From x23.To (x23.Cap * (2 + y5)) x23.Cost)] : List Arc)), (ldear_2_1 ++ ([(Arc.mk x23.From x23.To x23.Cap (x23.Cost * (2 + y5)))] : List Arc)), t47_2 + 1), (r29, r33)) _ _ (eqc hcont2 hM) (Nat.lt_succ_self _) ⟨rfl, rfl, rfl, rfl, rfl, rfl, rfl, trivial⟩ (fun w hm => hm.reord))
    ·
      replace hM := (ite_f hc22).symm.trans hM
      refine cw_exit (hK12 _ _ ?_); clear hK12
      dsimp only [law27_FlowScale_k2] at hM
      refine cw_seq fun K19 hK19 => ?_
      refine cw_region ?_
      refine ow_ev (ev_load_all (b := b4)) ?_
      obtain ⟨y34, hy35, hM⟩ := bind_some hM
      refine ow_cons (st_callv (fun w hm => let ⟨S, hs⟩ := hm; ref24_LeastFlow_spec _ w y1 r3 y34 hy35 (lend_lt hs) ⟨(Kn.lend (Kn.trow (e := 3) (r := r3.1) (by repeat (first | exact Has.head | apply Has.tail))) hs), (Kn.lend (Kn.trow (e := 40) (r := r3.2) (by repeat (first | exact Has.head | apply Has.tail))) hs)⟩) ?_)
      refine ow_ev ev_move ?_
      refine ow_ev (ev_extract (vs := [.int .i64 y34.1, .bool y34.2])) ?_
      refine ow_ev (ev_extract (vs := [.int .i64 y34.1, .bool y34.2])) ?_
      refine ow_ev ev_assign ?_
      refine ow_ev ev_assign ?_
      refine ow_nil (hK19 _ _ ?_); clear hK19
      refine cw_seq fun K20 hK20 => ?_
      refine cw_region ?_
      refine ow_ev (ev_load_all (b := b8)) ?_
      obtain ⟨y36, hy37, hM⟩ := bind_some hM
      refine ow_cons (st_callF SelL.nil (fun S w hs hP => flow_Solve_spec _ w (Graph.mk lwide_1_0 lwide_2_1) (rwide_1_0, rwide_2_1) y36 hy37 (lend_lt hs) ⟨(Kn.lend (Kn.trow (e := 3) (r := rwide_1_0) (by repeat (first | exact Has.head | apply Has.tail))) hs), (Kn.lend (Kn.trow (e := 40) (r := rwide_2_1) (by repeat (first | exact Has.head | apply Has.tail))) hs)⟩) (by intro r c hc; simp only [List.mem_cons, List.not_mem_nil, or_false] at hc; rcases hc with rfl | rfl <;> first | exact flatC_own | exact flatC_trow (fun _ _ _ _ => trivial)) (fun r38 => ?_))
      dsimp only [List.cons_append, List.nil_append]
      refine ow_ev ev_move ?_
      refine ow_ev (ev_extract (vs := [.agg #[.slice r38.1.a y36.1.X.length r38.1.cap, .slice r38.2.a y36.1.Price.length r38.2.cap, .int .i64 y36.1.Cost], .int .i64 y36.2])) ?_
      refine ow_ev (ev_extract (vs := [.agg #[.slice r38.1.a y36.1.X.length r38.1.cap, .slice r38.2.a y36.1.Price.length r38.2.cap, .int .i64 y36.1.Cost], .int .i64 y36.2])) ?_
      refine ow_cons (st_alloc rfl (k := fun b39 => ?_))
      refine ow_cons (st_store_all (b := b39) (vs := [.slice r38.1.a y36.1.X.length r38.1.cap, .slice r38.2.a y36.1.Price.length r38.2.cap, .int .i64 y36.1.Cost]) (k := ?_))
      refine ow_ev ev_assign ?_
      refine ow_nil (hK20 _ _ ?_); clear hK20
      refine cw_seq fun K21 hK21 => ?_
      refine cw_region ?_
      refine ow_ev (ev_load_all (b := b9)) ?_
      obtain ⟨y40, hy41, hM⟩ := bind_some hM
      refine ow_cons (st_callF SelL.nil (fun S w hs hP => flow_Solve_spec _ w (Graph.mk y1.Supply ldear_2_1) (r3.1, rdear_2_1) y40 hy41 (lend_lt hs) ⟨(Kn.lend (Kn.trow (e := 3) (r := r3.1) (by repeat (first | exact Has.head | apply Has.tail))) hs), (Kn.lend (Kn.trow (e := 40) (r := rdear_2_1) (by repeat (first | exact Has.head | apply Has.tail))) hs)⟩) (by intro r c hc; simp only [List.mem_cons, List.not_mem_nil, or_false] at hc; rcases hc with rfl | rfl <;> first | exact flatC_own | exact flatC_trow (fun _ _ _ _ => trivial)) (fun r42 => ?_))
      dsimp only [List.cons_append, List.nil_append]
      refine ow_ev ev_move ?_
      refine ow_ev (ev_extract (vs := [.agg #[.slice r42.1.a y40.1.X.length r42.1.cap, .slice r42.2.a y40.1.Price.length r42.2.cap, .int .i64 y40.1.Cost], .int .i64 y40.2])) ?_
      refine ow_ev (ev_extract (vs := [.agg #[.slice r42.1.a y40.1.X.length r42.1.cap, .slice r42.2.a y40.1.Price.length r42.2.cap, .int .i64 y40.1.Cost], .int .i64 y40.2])) ?_
      refine ow_cons (st_alloc rfl (k := fun b43 => ?_))
      refine ow_cons (st_store_all (b := b43) (vs := [.slice r42.1.a y40.1.X.length r42.1.cap, .slice r42.2.a y40.1.Price.length r42.2.cap, .int .i64 y40.1.Cost]) (k := ?_))
      refine ow_ev ev_assign ?_
      refine ow_nil (hK21 _ _ ?_); clear hK21
      refine cw_seq fun K22 hK22 => ?_
      refine cw_seq fun K23 hK23 => ?_
      refine cw_region ?_
      refine ow_ev ev_move ?_
      refine ow_ev ev_not ?_
      refine ow_nil (hK23 _ _ ?_); clear hK23
      refine cw_cond rfl (fun hc44 => ?_) (fun hc44 => ?_)
      ·
        replace hM := (ite_t hc44).symm.trans hM
        refine cw_seq fun K24 hK24 => ?_
        refine cw_region ?_
        obtain ⟨y45, hy46, hM⟩ := bind_some hM
        refine ow_cons (st_callv (fun w hm => let ⟨S, hs⟩ := hm; law27_awake_spec _ w  y45 hy46 (lend_lt hs) ) ?_)
        refine ow_ev ev_move ?_
        refine ow_evg rfl ev_move ?_
        refine ow_evg rfl ev_eql ?_
        refine ow_ev ev_and ?_
        refine ow_ev ev_move ?_
        refine ow_evg rfl ev_move ?_
        refine ow_evg rfl ev_eql ?_
        refine ow_ev ev_and ?_
        refine ow_ev ev_assign ?_
        refine ow_nil (hK24 _ _ ?_); clear hK24
        obtain rfl := some_inj hM
        refine cw_ret (kw_retc1 (fun w hm => ret_of hm rfl))
      ·
        replace hM := (ite_f hc44).symm.trans hM
        refine cw_skip (hK22 _ _ ?_); clear hK22
        refine cw_seq fun K25 hK25 => ?_
        refine cw_region ?_
        obtain ⟨y47, hy48, hM⟩ := bind_some hM
        refine ow_cons (st_callv (fun w hm => let ⟨S, hs⟩ := hm; law27_awake_spec _ w  y47 hy48 (lend_lt hs) ) ?_)
        refine ow_ev ev_move ?_
        refine ow_evg rfl ev_move ?_
        refine ow_evg rfl ev_eql ?_
        refine ow_ev ev_and ?_
        refine ow_ev ev_move ?_
        refine ow_evg rfl ev_move ?_
        refine ow_evg rfl ev_eql ?_
        refine ow_ev ev_and ?_
        refine ow_ev ev_move ?_
        refine ow_evg rfl (ev_field_addr 2) ?_
        refine ow_evg rfl (ev_load_own (b := b39)) ?_
        refine ow_evg rfl ev_move ?_
        refine ow_evg rfl ev_move ?_
        obtain ⟨hI49, hM⟩ := chk_some hM
        refine ow_evg rfl (ev_mul (hr := fun hg => i64b_I64 (gor hI49 hg))) ?_
        refine ow_evg rfl ev_eql ?_
        refine ow_ev ev_and ?_
        refine ow_ev ev_move ?_
        refine ow_evg rfl (ev_field_addr 2) ?_
        refine ow_evg rfl (ev_load_own (b := b43)) ?_
        refine ow_evg rfl ev_move ?_
        refine ow_evg rfl ev_move ?_
        obtain ⟨hI50, hM⟩ := chk_some hM
        refine ow_evg rfl (ev_mul (hr := fun hg => i64b_I64 (gor hI50 hg))) ?_
        refine ow_evg rfl ev_eql ?_
        refine ow_ev ev_and ?_
        refine ow_ev ev_assign ?_
        refine ow_nil (hK25 _ _ ?_); clear hK25
        obtain rfl := some_inj hM
        refine cw_ret (kw_retc1 (fun w hm => ret_of hm rfl))

def law27_FlowReverse_k2 (y1 : Graph) (lh_1_0 : List Int) (lh_2_1 : List Arc) : Unit → Option Bool := fun _ =>
  (ref24_LeastFlow_m y1).bind fun y24 =>
  (flow_Solve_m (Graph.mk lh_1_0 lh_2_1)).bind fun y26 =>
  if (!y24.2) then
    ((law27_awake_m).bind fun y31 =>
    some (y31 && decide (y26.2 = 14)))
  else
    ((law27_awake_m).bind fun y33 =>
    (whn ((y33 && decide (y26.2 = 0)) && decide (y26.1.Cost = y24.1)) default (ref24_VerifyFlow_m (Graph.mk lh_1_0 lh_2_1) y26.1)).bind fun y35 =>
    some (((y33 && decide (y26.2 = 0)) && decide (y26.1.Cost = y24.1)) && y35))
def law27_FlowReverse_b2 (y1 : Graph) (lh_1_0 : List Int) (cont2 : ((List Arc) × Nat) → Option Bool) : ((List Arc) × Nat) → Option Bool := fun (lh_2_1, t34_2) =>
  if decide ((t34_2 : Int) < (y1.Arcs.length : Int)) then
    ((idx y1.Arcs (t34_2 : Int)).bind fun x18 =>
    chk (decide ((lh_2_1.length + ([(Arc.mk x18.To x18.From x18.Cap x18.Cost)] : List Arc).length) * 32 ≤ 140737488355328)) <|
    cont2 ((lh_2_1 ++ ([(Arc.mk x18.To x18.From x18.Cap x18.Cost)] : List Arc)), t34_2 + 1))
  else
    (law27_FlowReverse_k2 y1 lh_1_0 lh_2_1 ())
def law27_FlowReverse_k1 (y1 : Graph) (lh_1_0 : List Int) : Unit → Option Bool := fun _ =>
  iter (law27_FlowReverse_b2 y1 lh_1_0) FUEL (([] : List Arc), 0)
def law27_FlowReverse_b1 (y1 : Graph) (cont1 : ((List Int) × Nat) → Option Bool) : ((List Int) × Nat) → Option Bool := fun (lh_1_0, t19_1) =>
  if decide ((t19_1 : Int) < (y1.Supply.length : Int)) then
    ((idx y1.Supply (t19_1 : Int)).bind fun x10 =>
    chk (i64b (-x10)) <|
    chk (decide ((lh_1_0.length + ([(-x10)] : List Int).length) * 8 ≤ 140737488355328)) <|
    cont1 ((lh_1_0 ++ ([(-x10)] : List Int)), t19_1 + 1))
  else
    (law27_FlowReverse_k1 y1 lh_1_0 ())
def law27_FlowReverse_m (l0 : List Int) : Option Bool :=
  (keep2_Graph_m l0).bind fun y1 =>
  iter (law27_FlowReverse_b1 y1) FUEL (([] : List Int), 0)
theorem law27_FlowReverse_spec (S : Soup) (w : World) (l0 : List Int) (r_l0 : GoRep.R (List Int)) (y : Bool) (hM : law27_FlowReverse_m l0 = some y) (hS : ∀ k, S k → k < w.heap.size) (h_l0 : GoRep.ok S w r_l0 l0) :
    Calls Try.prog 6 #[.slice r_l0.a l0.length r_l0.cap] w (Ret w (.bool y)) := by
  refine calls_cw (args := [_]) Try.func6 rfl ((pre_nil hS).start |>.immP (α := List Int) (r := r_l0) (x := l0) h_l0) rfl ?_
  unfold law27_FlowReverse_m at hM
  refine cw_seq fun K1 hK1 => ?_
  refine cw_region ?_
  refine ow_ev ev_assign ?_
  refine ow_nil (hK1 _ _ ?_); clear hK1
  refine cw_seq fun K2 hK2 => ?_
  refine cw_region ?_
  refine ow_ev ev_move ?_
  obtain ⟨y1, hy2, hM⟩ := bind_some hM
  refine ow_cons (st_callF SelL.nil (fun S w hs hP => keep2_Graph_spec _ w l0 r_l0 y1 hy2 (lend_lt hs) (Kn.lend (Kn.imm (α := List Int) (r := r_l0) (x := l0) (by repeat (first | exact Has.head | apply Has.tail))) hs)) (by intro r c hc; simp only [List.mem_cons, List.not_mem_nil, or_false] at hc; rcases hc with rfl | rfl <;> first | exact flatC_own | exact flatC_trow (fun _ _ _ _ => trivial)) (fun r3 => ?_))
  dsimp only [List.cons_append, List.nil_append]
  refine ow_cons (st_alloc rfl (k := fun b4 => ?_))
  refine ow_cons (st_store_all (b := b4) (vs := [.slice r3.1.a y1.Supply.length r3.1.cap, .slice r3.2.a y1.Arcs.length r3.2.cap]) (k := ?_))
  refine ow_nil (hK2 _ _ ?_); clear hK2
  refine cw_seq fun K3 hK3 => ?_
  refine cw_region ?_
  refine ow_ev (ev_build [.slice none 0 0, .slice none 0 0]) ?_
  refine ow_cons (st_alloc rfl (k := fun b5 => ?_))
  refine ow_cons (st_store_all (b := b5) (vs := [.slice none 0 0, .slice none 0 0]) (k := ?_))
  refine ow_nil (hK3 _ _ ?_); clear hK3
  refine cw_seq fun K4 hK4 => ?_
  refine cw_seq fun K5 hK5 => ?_
  refine cw_region ?_
  refine ow_ev (ev_field_addr 0) ?_
  refine ow_ev (ev_load_own (b := b4)) ?_
  refine ow_have (fun w hm => Kn.len (Kn.trow (e := 3) (r := r3.1) (by repeat (first | exact Has.head | apply Has.tail))) hm) fun hl6 => ?_
  refine ow_ev ev_len ?_
  refine ow_ev ev_move ?_
  refine ow_nil (hK5 _ _ ?_); clear hK5
  refine cw_block ?_
  refine cw_imp (fun w hm => hm.row_nil (α := Int) 3 (fun _ => ())) ?_
  refine cw_imp (fun w hm => hm.row_nil (α := Arc) 40 (fun _ => ())) ?_
  refine cw_loop (γ := Nat × ((List Int) × Nat) × (SR (GoRep.R Int))) (env := fun (_, (lh_1_0, t19_1), rh_1_0) => [(3, .v (.pointer (some ⟨b4, 0, none⟩))), (4, .v (.pointer (some ⟨b5, 0, none⟩))), (17, .v (.slice r3.1.a y1.Supply.length r3.1.cap)), (18, .v (.int .i64 (y1.Supply.length : Int))), (19, .v (.int .i64 (t19_1 : Int)))]) (mem := fun (_, (lh_1_0, t19_1), rh_1_0) => [trow 3 r3.1 y1.Supply, trow 40 r3.2 y1.Arcs, own b4 25 [.slice r3.1.a y1.Supply.length r3.1.cap, .slice r3.2.a y1.Arcs.length r3.2.cap], trow 3 rh_1_0 lh_1_0, trow 40 (⟨none, 0, (fun _ => ())⟩ : SR (GoRep.R Arc)  ) ([] : List Arc), own b5 25 [.slice rh_1_0.a lh_1_0.length rh_1_0.cap, .slice (⟨none, 0, (fun _ => ())⟩ : SR (GoRep.R Arc)  ).a (([] : List Arc).length) (⟨none, 0, (fun _ => ())⟩ : SR (GoRep.R Arc)  ).cap]]) (R := fun g => iter (law27_FlowReverse_b1 y1) g.1 g.2.1 = some y) (μ := fun g => g.1) (FUEL, (([] : List Int), 0), (⟨none, 0, (fun _ => ())⟩ : SR (GoRep.R Int) )) hM ⟨rfl, rfl, rfl, rfl, rfl, trivial⟩ (fun w hm => hm.reord) ?_
  clear hM
  intro g hM KL1 hL1
  obtain ⟨nn1, ⟨lh_1_0, t19_1⟩, rh_1_0⟩ := g
  dsimp only at hM ⊢
  obtain ⟨nn1, cont1, rfl, hcont1, hM⟩ := iter_open' hM
  dsimp only [law27_FlowReverse_b1] at hM
  refine cw_seq fun K6 hK6 => ?_
  refine cw_region ?_
  refine ow_ev ev_lss ?_
  refine ow_nil (hK6 _ _ ?_); clear hK6
  refine cw_seq fun K7 hK7 => ?_
  refine cw_cond rfl (fun hc9 => ?_) (fun hc9 => ?_)
  ·
    replace hM := (ite_t hc9).symm.trans hM
    have hc9d := of_decide_eq_true hc9
    refine cw_skip (hK7 _ _ ?_); clear hK7
    refine cw_seq fun K8 hK8 => ?_
    refine cw_block ?_
    refine cw_seq fun K9 hK9 => ?_
    refine cw_region ?_
    obtain ⟨x10, hx11, hM⟩ := bind_some hM
    refine ow_ev (ev_idx (xs := y1.Supply) 1 (Kn.trow (e := 3) (r := r3.1) (by repeat (first | exact Has.head | apply Has.tail))) (fun hg => let h := idx_some hx11; ⟨h.1, h.2.1⟩)) ?_
    refine ow_ev (ev_ld (i := (t19_1 : Int)) (xs := y1.Supply) (y := x10) 0 (Kn.trow (e := 3) (r := r3.1) (by repeat (first | exact Has.head | apply Has.tail))) (fun _ => hx11)) ?_
    refine ow_ev ev_assign ?_
    refine ow_nil (hK9 _ _ ?_); clear hK9
    refine cw_region ?_
    refine ow_ev (ev_field_addr 0) ?_
    refine ow_ev (ev_load_own (b := b5)) ?_
    refine ow_ev ev_move ?_
    obtain ⟨hI12, hM⟩ := chk_some hM
    refine ow_ev (ev_neg (hr := fun hg => i64b_I64 hI12)) ?_
    refine ow_cons (st_bslice (α := Int) 3 (fun _ => ()) ([(-x10)] : List Int) (OkL.flat (fun _ _ _ _ => trivial)) (fun r13 => ?_))
    obtain ⟨hb14, hM⟩ := chk_some hM
    refine ow_cons (st_append (r := rh_1_0) (r2 := r13) (by intro r'; repeat (first | exact Upd.head | apply Upd.tail)) (Kn.trow (e := 3) (r := r13) (by repeat (first | exact Has.head | apply Has.tail))) (OkL.flat (fun _ _ _ _ => trivial)) (of_decide_eq_true hb14) (fun r15 => ?_))
    refine ow_ev (ev_field_addr 0) ?_
    refine ow_cons (st_store_own (b := b5) (l' := [.slice r15.a ((lh_1_0 ++ ([(-x10)] : List Int)).length) r15.cap, .slice (⟨none, 0, (fun _ => ())⟩ : SR (GoRep.R Arc)  ).a (([] : List Arc).length) (⟨none, 0, (fun _ => ())⟩ : SR (GoRep.R Arc)  ).cap]) (k := ?_))
    refine ow_nil (hK8 _ _ ?_); clear hK8
    refine cw_region ?_
    refine ow_ev (ev_add (hr := fun _ => by unfold I64; omega)) ?_
    refine ow_ev ev_move ?_
    refine ow_nil (hL1 (nn1, ((lh_1_0 ++ ([(-x10)] : List Int)), t19_1 + 1), r15) _ _ (eqc hcont1 hM) (Nat.lt_succ_self _) ⟨rfl, rfl, rfl, rfl, rfl, trivial⟩ (fun w hm => hm.reord))
  ·
    replace hM := (ite_f hc9).symm.trans hM
    refine cw_exit (hK4 _ _ ?_); clear hK4
    dsimp only [law27_FlowReverse_k1] at hM
    refine cw_seq fun K10 hK10 => ?_
    refine cw_seq fun K11 hK11 => ?_
    refine cw_region ?_
    refine ow_ev (ev_field_addr 1) ?_
    refine ow_ev (ev_load_own (b := b4)) ?_
    refine ow_have (fun w hm => Kn.len (Kn.trow (e := 40) (r := r3.2) (by repeat (first | exact Has.head | apply Has.tail))) hm) fun hl16 => ?_
    refine ow_ev ev_len ?_
    refine ow_ev ev_move ?_
    refine ow_nil (hK11 _ _ ?_); clear hK11
    refine cw_block ?_
    refine cw_loop (γ := Nat × ((List Arc) × Nat) × (SR (GoRep.R Arc))) (env := fun (_, (lh_2_1, t34_2), rh_2_1) => [(3, .v (.pointer (some ⟨b4, 0, none⟩))), (4, .v (.pointer (some ⟨b5, 0, none⟩))), (32, .v (.slice r3.2.a y1.Arcs.length r3.2.cap)), (33, .v (.int .i64 (y1.Arcs.length : Int))), (34, .v (.int .i64 (t34_2 : Int)))]) (mem := fun (_, (lh_2_1, t34_2), rh_2_1) => [trow 3 r3.1 y1.Supply, trow 40 r3.2 y1.Arcs, own b4 25 [.slice r3.1.a y1.Supply.length r3.1.cap, .slice r3.2.a y1.Arcs.length r3.2.cap], trow 3 rh_1_0 lh_1_0, trow 40 rh_2_1 lh_2_1, own b5 25 [.slice rh_1_0.a lh_1_0.length rh_1_0.cap, .slice rh_2_1.a lh_2_1.length rh_2_1.cap]]) (R := fun g => iter (law27_FlowReverse_b2 y1 lh_1_0) g.1 g.2.1 = some y) (μ := fun g => g.1) (FUEL, (([] : List Arc), 0), (⟨none, 0, (fun _ => ())⟩ : SR (GoRep.R Arc)  )) hM ⟨rfl, rfl, rfl, rfl, rfl, trivial⟩ (fun w hm => hm.reord) ?_
    clear hM
    intro g hM KL2 hL2
    obtain ⟨nn2, ⟨lh_2_1, t34_2⟩, rh_2_1⟩ := g
    dsimp only at hM ⊢
    obtain ⟨nn2, cont2, rfl, hcont2, hM⟩ := iter_open' hM
    dsimp only [law27_FlowReverse_b2] at hM
    refine cw_seq fun K12 hK12 => ?_
    refine cw_region ?_
    refine ow_ev ev_lss ?_
    refine ow_nil (hK12 _ _ ?_); clear hK12
    refine cw_seq fun K13 hK13 => ?_
    refine cw_cond rfl (fun hc17 => ?_) (fun hc17 => ?_)
    ·
      replace hM := (ite_t hc17).symm.trans hM
      have hc17d := of_decide_eq_true hc17
      refine cw_skip (hK13 _ _ ?_); clear hK13
      refine cw_seq fun K14 hK14 => ?_
      refine cw_block ?_
      refine cw_seq fun K15 hK15 => ?_
      refine cw_region ?_
      obtain ⟨x18, hx19, hM⟩ := bind_some hM
      refine ow_ev (ev_idx (xs := y1.Arcs) 4 (Kn.trow (e := 40) (r := r3.2) (by repeat (first | exact Has.head | apply Has.tail))) (fun hg => let h := idx_some hx19; ⟨h.1, h.2.1⟩)) ?_
      refine ow_ev (ev_lds (m := 4) (i := (t34_2 : Int)) (xs := y1.Arcs) (y := x18) (l := [.int .i64 x18.From, .int .i64 x18.To, .int .i64 x18.Cap, .int .i64 x18.Cost]) 0 (Kn.trow (e := 40) (r := r3.2) (by repeat (first | exact Has.head | apply Has.tail))) (fun _ => hx19)) ?_
      refine ow_cons (st_alloc rfl (k := fun b20 => ?_))
      refine ow_cons (st_store_all (b := b20) (vs := [.int .i64 x18.From, .int .i64 x18.To, .int .i64 x18.Cap, .int .i64 x18.Cost]) (k := ?_))
      refine ow_nil (hK15 _ _ ?_); clear hK15
      refine cw_region ?_
      refine ow_ev (ev_field_addr 1) ?_
      refine ow_ev (ev_load_own (b := b5)) ?_
      refine ow_ev (ev_field_addr 1) ?_
      refine ow_ev (ev_load_own (b := b20)) ?_
      refine ow_ev (ev_field_addr 0) ?_
      refine ow_ev (ev_load_own (b := b20)) ?_
      refine ow_ev (ev_field_addr 2) ?_
      refine ow_ev (ev_load_own (b := b20)) ?_
      refine ow_ev (ev_field_addr 3) ?_
      refine ow_ev (ev_load_own (b := b20)) ?_
      refine ow_ev (ev_build [.int .i64 x18.To, .int .i64 x18.From, .int .i64 x18.Cap, .int .i64 x18.Cost]) ?_
      refine ow_cons (st_bslice (α := Arc) 40 (fun _ => ()) ([(Arc.mk x18.To x18.From x18.Cap x18.Cost)] : List Arc) (OkL.flat (fun _ _ _ _ => trivial)) (fun r21 => ?_))
      obtain ⟨hb22, hM⟩ := chk_some hM
      refine ow_cons (st_append (r := rh_2_1) (r2 := r21) (by intro r'; repeat (first | exact Upd.head | apply Upd.tail)) (Kn.trow (e := 40) (r := r21) (by repeat (first | exact Has.head | apply Has.tail))) (OkL.flat (fun _ _ _ _ => trivial)) (of_decide_eq_true hb22) (fun r23 => ?_))
      refine ow_ev (ev_field_addr 1) ?_
      refine ow_cons (st_store_own (b := b5) (l' := [.slice rh_1_0.a lh_1_0.length rh_1_0.cap, .slice r23.a ((lh_2_1 ++ ([(Arc.mk x18.To x18.From x18.Cap x18.Cost)] : List Arc)).length) r23.cap]) (k := ?_))
      refine ow_nil (hK14 _ _ ?_); clear hK14
      refine cw_region ?_
      refine ow_ev (ev_add (hr := fun _ => by unfold I64; omega)) ?_
      refine ow_ev ev_move ?_
      refine ow_nil (hL2 (nn2, ((lh_2_1 ++ ([(Arc.mk x18.To x18.From x18.Cap x18.Cost)] : List Arc)), t34_2 + 1), r23) _ _ (eqc hcont2 hM) (Nat.lt_succ_self _) ⟨rfl, rfl, rfl, rfl, rfl, trivial⟩ (fun w hm => hm.reord))
    ·
      replace hM := (ite_f hc17).symm.trans hM
      refine cw_exit (hK10 _ _ ?_); clear hK10
      dsimp only [law27_FlowReverse_k2] at hM
      refine cw_seq fun K16 hK16 => ?_
      refine cw_region ?_
      refine ow_ev (ev_load_all (b := b4)) ?_
      obtain ⟨y24, hy25, hM⟩ := bind_some hM
      refine ow_cons (st_callv (fun w hm => let ⟨S, hs⟩ := hm; ref24_LeastFlow_spec _ w y1 r3 y24 hy25 (lend_lt hs) ⟨(Kn.lend (Kn.trow (e := 3) (r := r3.1) (by repeat (first | exact Has.head | apply Has.tail))) hs), (Kn.lend (Kn.trow (e := 40) (r := r3.2) (by repeat (first | exact Has.head | apply Has.tail))) hs)⟩) ?_)
      refine ow_ev ev_move ?_
      refine ow_ev (ev_extract (vs := [.int .i64 y24.1, .bool y24.2])) ?_
      refine ow_ev (ev_extract (vs := [.int .i64 y24.1, .bool y24.2])) ?_
      refine ow_ev ev_assign ?_
      refine ow_ev ev_assign ?_
      refine ow_nil (hK16 _ _ ?_); clear hK16
      refine cw_seq fun K17 hK17 => ?_
      refine cw_region ?_
      refine ow_ev (ev_load_all (b := b5)) ?_
      obtain ⟨y26, hy27, hM⟩ := bind_some hM
      refine ow_cons (st_callF SelL.nil (fun S w hs hP => flow_Solve_spec _ w (Graph.mk lh_1_0 lh_2_1) (rh_1_0, rh_2_1) y26 hy27 (lend_lt hs) ⟨(Kn.lend (Kn.trow (e := 3) (r := rh_1_0) (by repeat (first | exact Has.head | apply Has.tail))) hs), (Kn.lend (Kn.trow (e := 40) (r := rh_2_1) (by repeat (first | exact Has.head | apply Has.tail))) hs)⟩) (by intro r c hc; simp only [List.mem_cons, List.not_mem_nil, or_false] at hc; rcases hc with rfl | rfl <;> first | exact flatC_own | exact flatC_trow (fun _ _ _ _ => trivial)) (fun r28 => ?_))
      dsimp only [List.cons_append, List.nil_append]
      refine ow_ev ev_move ?_
      refine ow_ev (ev_extract (vs := [.agg #[.slice r28.1.a y26.1.X.length r28.1.cap, .slice r28.2.a y26.1.Price.length r28.2.cap, .int .i64 y26.1.Cost], .int .i64 y26.2])) ?_
      refine ow_ev (ev_extract (vs := [.agg #[.slice r28.1.a y26.1.X.length r28.1.cap, .slice r28.2.a y26.1.Price.length r28.2.cap, .int .i64 y26.1.Cost], .int .i64 y26.2])) ?_
      refine ow_cons (st_alloc rfl (k := fun b29 => ?_))
      refine ow_cons (st_store_all (b := b29) (vs := [.slice r28.1.a y26.1.X.length r28.1.cap, .slice r28.2.a y26.1.Price.length r28.2.cap, .int .i64 y26.1.Cost]) (k := ?_))
      refine ow_ev ev_assign ?_
      refine ow_nil (hK17 _ _ ?_); clear hK17
      refine cw_seq fun K18 hK18 => ?_
      refine cw_seq fun K19 hK19 => ?_
      refine cw_region ?_
      refine ow_ev ev_move ?_
      refine ow_ev ev_not ?_
      refine ow_nil (hK19 _ _ ?_); clear hK19
      refine cw_cond rfl (fun hc30 => ?_) (fun hc30 => ?_)
      ·
        replace hM := (ite_t hc30).symm.trans hM
        refine cw_seq fun K20 hK20 => ?_
        refine cw_region ?_
        obtain ⟨y31, hy32, hM⟩ := bind_some hM
        refine ow_cons (st_callv (fun w hm => let ⟨S, hs⟩ := hm; law27_awake_spec _ w  y31 hy32 (lend_lt hs) ) ?_)
        refine ow_ev ev_move ?_
        refine ow_evg rfl ev_move ?_
        refine ow_evg rfl ev_eql ?_
        refine ow_ev ev_and ?_
        refine ow_ev ev_assign ?_
        refine ow_nil (hK20 _ _ ?_); clear hK20
        obtain rfl := some_inj hM
        refine cw_ret (kw_retc1 (fun w hm => ret_of hm rfl))
      ·
        replace hM := (ite_f hc30).symm.trans hM
        refine cw_skip (hK18 _ _ ?_); clear hK18
        refine cw_seq fun K21 hK21 => ?_
        refine cw_region ?_
        obtain ⟨y33, hy34, hM⟩ := bind_some hM
        refine ow_cons (st_callv (fun w hm => let ⟨S, hs⟩ := hm; law27_awake_spec _ w  y33 hy34 (lend_lt hs) ) ?_)
        refine ow_ev ev_move ?_
        refine ow_evg rfl ev_move ?_
        refine ow_evg rfl ev_eql ?_
        refine ow_ev ev_and ?_
        refine ow_ev ev_move ?_
        refine ow_evg rfl (ev_field_addr 2) ?_
        refine ow_evg rfl (ev_load_own (b := b29)) ?_
        refine ow_evg rfl ev_move ?_
        refine ow_evg rfl ev_eql ?_
        refine ow_ev ev_and ?_
        refine ow_ev ev_move ?_
        refine ow_evg rfl (ev_load_all (b := b5)) ?_
        refine ow_evg rfl (ev_load_all (b := b29)) ?_
        obtain ⟨y35, hy36, hM⟩ := bind_some hM
        refine ow_callg rfl (fun hg w hm => let ⟨S, hs⟩ := hm; ref24_VerifyFlow_spec _ w (Graph.mk lh_1_0 lh_2_1) (rh_1_0, rh_2_1) y26.1 r28 y35 (whn_some hy36 hg) (lend_lt hs) ⟨(Kn.lend (Kn.trow (e := 3) (r := rh_1_0) (by repeat (first | exact Has.head | apply Has.tail))) hs), (Kn.lend (Kn.trow (e := 40) (r := rh_2_1) (by repeat (first | exact Has.head | apply Has.tail))) hs)⟩ ⟨(Kn.lend (Kn.trow (e := 3) (r := r28.1) (by repeat (first | exact Has.head | apply Has.tail))) hs), (Kn.lend (Kn.trow (e := 3) (r := r28.2) (by repeat (first | exact Has.head | apply Has.tail))) hs)⟩) ?_
        refine ow_ev ev_and ?_
        refine ow_ev ev_assign ?_
        refine ow_nil (hK21 _ _ ?_); clear hK21
        obtain rfl := some_inj hM
        refine cw_ret (kw_retc1 (fun w hm => ret_of hm rfl))

def law27_FlowLarge_k2 (m10 : List Int) (y4 : Int) (y1 : Int) (lg_1_1 : List Arc) : Int → Option Bool := fun least_j2 =>
  (flow_Solve_m (Graph.mk ((m10.set (0 : Int).toNat y4).set ((2 + y1) - 1).toNat (-y4)) lg_1_1)).bind fun y31 =>
  (law27_awake_m).bind fun y35 =>
  (whn (y35 && decide (y31.2 = 0)) default (ref24_VerifyFlow_m (Graph.mk ((m10.set (0 : Int).toNat y4).set ((2 + y1) - 1).toNat (-y4)) lg_1_1) y31.1)).bind fun y37 =>
  chk (!((y35 && decide (y31.2 = 0)) && y37) || i64b ((2 + y1) - 1)) <|
  chk (!((y35 && decide (y31.2 = 0)) && y37) || i64b (least_j2 * ((2 + y1) - 1))) <|
  some (((y35 && decide (y31.2 = 0)) && y37) && decide (y31.1.Cost = (least_j2 * ((2 + y1) - 1))))
def law27_FlowLarge_k1 (y4 : Int) (y8 : Int) (y6 : Int) (m10 : List Int) (y1 : Int) (lg_1_1 : List Arc) : Unit → Option Bool := fun _ =>
  chk (i64b (y4 * y8)) <|
  if decide (y6 < y8) then
    (chk (decide (2 ≠ 0) && i64b (y4.tdiv 2)) <|
    chk (i64b ((y4.tdiv 2) * y6)) <|
    chk (decide (2 ≠ 0) && i64b (y4.tdiv 2)) <|
    chk (i64b (y4 - (y4.tdiv 2))) <|
    chk (i64b ((y4 - (y4.tdiv 2)) * y8)) <|
    chk (i64b (((y4.tdiv 2) * y6) + ((y4 - (y4.tdiv 2)) * y8))) <|
    law27_FlowLarge_k2 m10 y4 y1 lg_1_1 (((y4.tdiv 2) * y6) + ((y4 - (y4.tdiv 2)) * y8)))
  else
    (law27_FlowLarge_k2 m10 y4 y1 lg_1_1 (y4 * y8))
def law27_FlowLarge_b1 (y1 : Int) (y4 : Int) (y6 : Int) (y8 : Int) (m10 : List Int) (cont1 : ((List Arc) × Nat) → Option Bool) : ((List Arc) × Nat) → Option Bool := fun (lg_1_1, i_1) =>
  chk (i64b ((i_1 : Int) + 1)) <|
  if decide (((i_1 : Int) + 1) < (2 + y1)) then
    (chk (i64b ((i_1 : Int) + 1)) <|
    chk (decide (2 ≠ 0) && i64b (y4.tdiv 2)) <|
    chk (i64b ((i_1 : Int) + 1)) <|
    chk (decide ((lg_1_1.length + ([(Arc.mk (i_1 : Int) ((i_1 : Int) + 1) (y4.tdiv 2) y6), (Arc.mk (i_1 : Int) ((i_1 : Int) + 1) y4 y8)] : List Arc).length) * 32 ≤ 140737488355328)) <|
    chk (i64b ((i_1 : Int) + 1)) <|
    cont1 ((lg_1_1 ++ ([(Arc.mk (i_1 : Int) ((i_1 : Int) + 1) (y4.tdiv 2) y6), (Arc.mk (i_1 : Int) ((i_1 : Int) + 1) y4 y8)] : List Arc)), i_1 + 1))
  else
    (law27_FlowLarge_k1 y4 y8 y6 m10 y1 lg_1_1 ())
def law27_FlowLarge_m (n0 : Int) (supply0 : Int) (a0 : Int) (b0 : Int) : Option Bool :=
  (keep_Pick_m n0 95).bind fun y1 =>
  chk (i64b (2 + y1)) <|
  (keep_Pick_m supply0 1048576).bind fun y4 =>
  (keep_Pick_m a0 1000).bind fun y6 =>
  (keep_Pick_m b0 1000).bind fun y8 =>
  (mk (α := Int) 0 (2 + y1)).bind fun m10 =>
  chk (i64b ((2 + y1) - 1)) <|
  chk (i64b (-y4)) <|
  (idx m10 0).bind fun x16 =>
  (idx (m10.set (0 : Int).toNat y4) ((2 + y1) - 1)).bind fun x18 =>
  iter (law27_FlowLarge_b1 y1 y4 y6 y8 m10) FUEL (([] : List Arc), 0)
theorem law27_FlowLarge_spec (S : Soup) (w : World) (n0 : Int) (supply0 : Int) (a0 : Int) (b0 : Int) (y : Bool) (hM : law27_FlowLarge_m n0 supply0 a0 b0 = some y) (hS : ∀ k, S k → k < w.heap.size)  :
    Calls Try.prog 7 #[.int .i64 n0, .int .i64 supply0, .int .i64 a0, .int .i64 b0] w (Ret w (.bool y)) := by
  refine calls_cw (args := [_, _, _, _]) Try.func7 rfl ((pre_nil hS).start) rfl ?_
  unfold law27_FlowLarge_m at hM
  refine cw_seq fun K1 hK1 => ?_
  refine cw_region ?_
  refine ow_ev ev_assign ?_
  refine ow_nil (hK1 _ _ ?_); clear hK1
  refine cw_seq fun K2 hK2 => ?_
  refine cw_region ?_
  refine ow_ev ev_move ?_
  obtain ⟨y1, hy2, hM⟩ := bind_some hM
  refine ow_cons (st_callv (fun w hm => let ⟨S, hs⟩ := hm; keep_Pick_spec _ w n0 95 y1 hy2 (lend_lt hs) ) ?_)
  obtain ⟨hI3, hM⟩ := chk_some hM
  refine ow_ev (ev_add (hr := fun hg => i64b_I64 hI3)) ?_
  refine ow_ev ev_assign ?_
  refine ow_nil (hK2 _ _ ?_); clear hK2
  refine cw_seq fun K3 hK3 => ?_
  refine cw_region ?_
  refine ow_ev ev_move ?_
  obtain ⟨y4, hy5, hM⟩ := bind_some hM
  refine ow_cons (st_callv (fun w hm => let ⟨S, hs⟩ := hm; keep_Pick_spec _ w supply0 1048576 y4 hy5 (lend_lt hs) ) ?_)
  refine ow_ev ev_assign ?_
  refine ow_nil (hK3 _ _ ?_); clear hK3
  refine cw_seq fun K4 hK4 => ?_
  refine cw_region ?_
  refine ow_ev ev_move ?_
  obtain ⟨y6, hy7, hM⟩ := bind_some hM
  refine ow_cons (st_callv (fun w hm => let ⟨S, hs⟩ := hm; keep_Pick_spec _ w a0 1000 y6 hy7 (lend_lt hs) ) ?_)
  refine ow_ev ev_move ?_
  obtain ⟨y8, hy9, hM⟩ := bind_some hM
  refine ow_cons (st_callv (fun w hm => let ⟨S, hs⟩ := hm; keep_Pick_spec _ w b0 1000 y8 hy9 (lend_lt hs) ) ?_)
  refine ow_ev ev_assign ?_
  refine ow_ev ev_assign ?_
  refine ow_nil (hK4 _ _ ?_); clear hK4
  refine cw_seq fun K5 hK5 => ?_
  refine cw_region ?_
  refine ow_ev ev_move ?_
  obtain ⟨m10, hm11, hM⟩ := bind_some hM
  refine ow_cons (st_make (α := Int) (e := 3) 0 () hm11 (fun _ _ => trivial) (fun r12 hr12 => ?_))
  refine ow_ev (ev_build [.slice r12.a m10.length r12.cap, .slice none 0 0]) ?_
  refine ow_cons (st_alloc rfl (k := fun b13 => ?_))
  refine ow_cons (st_store_all (b := b13) (vs := [.slice r12.a m10.length r12.cap, .slice none 0 0]) (k := ?_))
  refine ow_nil (hK5 _ _ ?_); clear hK5
  refine cw_seq fun K6 hK6 => ?_
  refine cw_region_any [own b13 25 [.slice r12.a m10.length r12.cap, .slice none 0 0]] (by repeat (first | exact List.Sublist.refl _ | apply List.Sublist.cons_cons | apply List.Sublist.cons)) ?_
  refine aw_ev 0 rfl (ev_field_addr 0) ?_
  refine aw_ev 1 rfl (ev_load_own (b := b13)) ?_
  refine aw_ev 2 rfl (ev_field_addr 0) ?_
  refine aw_ev 3 rfl (ev_load_own (b := b13)) ?_
  refine aw_ev 4 rfl ev_move ?_
  obtain ⟨hI14, hM⟩ := chk_some hM
  refine aw_ev 5 rfl (ev_sub (hr := fun hg => i64b_I64 hI14)) ?_
  refine aw_ev 6 rfl ev_move ?_
  refine aw_ev 7 rfl ev_move ?_
  obtain ⟨hI15, hM⟩ := chk_some hM
  refine aw_ev 8 rfl (ev_neg (hr := fun hg => i64b_I64 hI15)) ?_
  obtain ⟨x16, hx17, hM⟩ := bind_some hM
  refine aw_one 9 rfl (st_ev (ev_idx (xs := m10) 1 (Kn.trow (e := 3) (r := r12) (by repeat (first | exact Has.head | apply Has.tail))) (fun hg => let h := idx_some hx17; ⟨h.1, h.2.1⟩)) ⟨fun w hm => hm.sub (by repeat (first | exact List.Sublist.refl _ | apply List.Sublist.cons_cons | apply List.Sublist.cons)), ?_⟩)
  refine aw_one 10 rfl (st_set (r := r12) (i := 0) (xs := m10) (u := x16) (vs := [.int .i64 y4]) 0 y4 hx17 rfl (fun _ _ h => h) (by repeat (first | exact Upd.head | apply Upd.tail)) ⟨fun w hm => hm.sub (by repeat (first | exact List.Sublist.refl _ | apply List.Sublist.cons_cons | apply List.Sublist.cons)), ?_⟩)
  obtain ⟨x18, hx19, hM⟩ := bind_some hM
  refine aw_one 11 rfl (st_ev (ev_idx (xs := (m10.set (0 : Int).toNat y4)) 1 (Kn.trow (e := 3) (r := r12) (by repeat (first | exact Has.head | apply Has.tail))) (fun hg => let h := idx_some hx19; ⟨h.1, h.2.1⟩)) ⟨fun w hm => hm.sub (by repeat (first | exact List.Sublist.refl _ | apply List.Sublist.cons_cons | apply List.Sublist.cons)), ?_⟩)
  refine aw_one 12 rfl (st_set (r := r12) (i := ((2 + y1) - 1)) (xs := (m10.set (0 : Int).toNat y4)) (u := x18) (vs := [.int .i64 (-y4)]) 0 (-y4) hx19 rfl (fun _ _ h => h) (by repeat (first | exact Upd.head | apply Upd.tail)) ⟨fun w hm => hm.sub (by repeat (first | exact List.Sublist.refl _ | apply List.Sublist.cons_cons | apply List.Sublist.cons)), ?_⟩)
  refine aw_done (hK6 _ _ ?_); clear hK6
  refine cw_seq fun K7 hK7 => ?_
  refine cw_seq fun K8 hK8 => ?_
  refine cw_region ?_
  refine ow_ev ev_assign ?_
  refine ow_nil (hK8 _ _ ?_); clear hK8
  refine cw_block ?_
  refine cw_imp (fun w hm => hm.row_nil (α := Arc) 40 (fun _ => ())) ?_
  refine cw_loop (γ := Nat × ((List Arc) × Nat) × (SR (GoRep.R Arc))) (env := fun (_, (lg_1_1, i_1), rg_1_1) => [(9, .v (.int .i64 (2 + y1))), (10, .v (.int .i64 y4)), (11, .v (.int .i64 y6)), (12, .v (.int .i64 y8)), (13, .v (.pointer (some ⟨b13, 0, none⟩))), (14, .v (.int .i64 (i_1 : Int)))]) (mem := fun (_, (lg_1_1, i_1), rg_1_1) => [trow 3 r12 ((m10.set (0 : Int).toNat y4).set ((2 + y1) - 1).toNat (-y4)), trow 40 rg_1_1 lg_1_1, own b13 25 [.slice r12.a (((m10.set (0 : Int).toNat y4).set ((2 + y1) - 1).toNat (-y4)).length) r12.cap, .slice rg_1_1.a lg_1_1.length rg_1_1.cap]]) (R := fun g => iter (law27_FlowLarge_b1 y1 y4 y6 y8 m10) g.1 g.2.1 = some y) (μ := fun g => g.1) (FUEL, (([] : List Arc), 0), (⟨none, 0, (fun _ => ())⟩ : SR (GoRep.R Arc) )) hM ⟨rfl, rfl, rfl, rfl, rfl, rfl, trivial⟩ (fun w hm => by simp only [List.length_set]; exact hm.reord) ?_
  clear hM
  intro g hM KL1 hL1
  obtain ⟨nn1, ⟨lg_1_1, i_1⟩, rg_1_1⟩ := g
  dsimp only at hM ⊢
  obtain ⟨nn1, cont1, rfl, hcont1, hM⟩ := iter_open' hM
  dsimp only [law27_FlowLarge_b1] at hM
  refine cw_seq fun K9 hK9 => ?_
  refine cw_seq fun K10 hK10 => ?_
  refine cw_region ?_
  refine ow_ev ev_move ?_
  obtain ⟨hI21, hM⟩ := chk_some hM
  refine ow_ev (ev_add (hr := fun hg => i64b_I64 hI21)) ?_
  refine ow_ev ev_move ?_
  refine ow_ev ev_lss ?_
  refine ow_nil (hK10 _ _ ?_); clear hK10
  refine cw_cond rfl (fun hc22 => ?_) (fun hc22 => ?_)
  ·
    replace hM := (ite_t hc22).symm.trans hM
    refine cw_skip (hK9 _ _ ?_); clear hK9
    refine cw_seq fun K11 hK11 => ?_
    refine cw_block ?_
    refine cw_region ?_
    refine ow_ev (ev_field_addr 1) ?_
    refine ow_ev (ev_load_own (b := b13)) ?_
    refine ow_ev ev_move ?_
    refine ow_ev ev_move ?_
    obtain ⟨hI23, hM⟩ := chk_some hM
    refine ow_ev (ev_add (hr := fun hg => i64b_I64 hI23)) ?_
    refine ow_ev ev_move ?_
    obtain ⟨hI24, hM⟩ := chk_some hM
    refine ow_ev (ev_quo' (hr := fun hg => quo_ok hI24)) ?_
    refine ow_ev ev_move ?_
    refine ow_ev (ev_build [.int .i64 (i_1 : Int), .int .i64 ((i_1 : Int) + 1), .int .i64 (y4.tdiv 2), .int .i64 y6]) ?_
    refine ow_ev ev_move ?_
    refine ow_ev ev_move ?_
    obtain ⟨hI25, hM⟩ := chk_some hM
    refine ow_ev (ev_add (hr := fun hg => i64b_I64 hI25)) ?_
    refine ow_ev ev_move ?_
    refine ow_ev ev_move ?_
    refine ow_ev (ev_build [.int .i64 (i_1 : Int), .int .i64 ((i_1 : Int) + 1), .int .i64 y4, .int .i64 y8]) ?_
    refine ow_cons (st_bslice (α := Arc) 40 (fun _ => ()) ([(Arc.mk (i_1 : Int) ((i_1 : Int) + 1) (y4.tdiv 2) y6), (Arc.mk (i_1 : Int) ((i_1 : Int) + 1) y4 y8)] : List Arc) (OkL.flat (fun _ _ _ _ => trivial)) (fun r26 => ?_))
    obtain ⟨hb27, hM⟩ := chk_some hM
    refine ow_cons (st_append (r := rg_1_1) (r2 := r26) (by intro r'; repeat (first | exact Upd.head | apply Upd.tail)) (Kn.trow (e := 40) (r := r26) (by repeat (first | exact Has.head | apply Has.tail))) (OkL.flat (fun _ _ _ _ => trivial)) (of_decide_eq_true hb27) (fun r28 => ?_))
    refine ow_ev (ev_field_addr 1) ?_
    refine ow_cons (st_store_own (b := b13) (l' := [.slice r12.a (((m10.set (0 : Int).toNat y4).set ((2 + y1) - 1).toNat (-y4)).length) r12.cap, .slice r28.a ((lg_1_1 ++ ([(Arc.mk (i_1 : Int) ((i_1 : Int) + 1) (y4.tdiv 2) y6), (Arc.mk (i_1 : Int) ((i_1 : Int) + 1) y4 y8)] : List Arc)).length) r28.cap]) (k := ?_))
    refine ow_nil (hK11 _ _ ?_); clear hK11
    refine cw_region ?_
    refine ow_ev ev_move ?_
    obtain ⟨hI29, hM⟩ := chk_some hM
    refine ow_ev (ev_add (hr := fun hg => i64b_I64 hI29)) ?_
    refine ow_ev ev_assign ?_
    refine ow_nil (hL1 (nn1, ((lg_1_1 ++ ([(Arc.mk (i_1 : Int) ((i_1 : Int) + 1) (y4.tdiv 2) y6), (Arc.mk (i_1 : Int) ((i_1 : Int) + 1) y4 y8)] : List Arc)), i_1 + 1), r28) _ _ (eqc hcont1 hM) (Nat.lt_succ_self _) ⟨rfl, rfl, rfl, rfl, rfl, rfl, trivial⟩ (fun w hm => hm.reord))
  ·
    replace hM := (ite_f hc22).symm.trans hM
    refine cw_exit (hK7 _ _ ?_); clear hK7
    dsimp only [law27_FlowLarge_k1] at hM
    refine cw_seq fun K12 hK12 => ?_
    refine cw_region ?_
    refine ow_ev ev_move ?_
    refine ow_ev ev_move ?_
    obtain ⟨hI30, hM⟩ := chk_some hM
    refine ow_ev (ev_mul (hr := fun hg => i64b_I64 hI30)) ?_
    refine ow_ev ev_assign ?_
    refine ow_nil (hK12 _ _ ?_); clear hK12
    refine cw_cut (γ := Int × Unit) (env := fun (least_j2, _) => [(9, .v (.int .i64 (2 + y1))), (13, .v (.pointer (some ⟨b13, 0, none⟩))), (15, .v (.int .i64 least_j2))]) (mem := fun (least_j2, _) => [trow 3 r12 ((m10.set (0 : Int).toNat y4).set ((2 + y1) - 1).toNat (-y4)), trow 40 rg_1_1 lg_1_1, own b13 25 [.slice r12.a (((m10.set (0 : Int).toNat y4).set ((2 + y1) - 1).toNat (-y4)).length) r12.cap, .slice rg_1_1.a lg_1_1.length rg_1_1.cap]]) (R := fun g => law27_FlowLarge_k2 m10 y4 y1 lg_1_1 g.1 = some y) ?_ ?_
    · intro KJ2 hJ2
      refine cw_seq fun K15 hK15 => ?_
      refine cw_region ?_
      refine ow_ev ev_move ?_
      refine ow_ev ev_move ?_
      refine ow_ev ev_lss ?_
      refine ow_nil (hK15 _ _ ?_); clear hK15
      refine cw_cond rfl (fun hc41 => ?_) (fun hc41 => ?_)
      ·
        replace hM := (ite_t hc41).symm.trans hM
        refine cw_region ?_
        refine ow_ev ev_move ?_
        obtain ⟨hI42, hM⟩ := chk_some hM
        refine ow_ev (ev_quo' (hr := fun hg => quo_ok hI42)) ?_
        refine ow_ev ev_move ?_
        obtain ⟨hI43, hM⟩ := chk_some hM
        refine ow_ev (ev_mul (hr := fun hg => i64b_I64 hI43)) ?_
        refine ow_ev ev_move ?_
        refine ow_ev ev_move ?_
        obtain ⟨hI44, hM⟩ := chk_some hM
        refine ow_ev (ev_quo' (hr := fun hg => quo_ok hI44)) ?_
        obtain ⟨hI45, hM⟩ := chk_some hM
        refine ow_ev (ev_sub (hr := fun hg => i64b_I64 hI45)) ?_
        refine ow_ev ev_move ?_
        obtain ⟨hI46, hM⟩ := chk_some hM
        refine ow_ev (ev_mul (hr := fun hg => i64b_I64 hI46)) ?_
        obtain ⟨hI47, hM⟩ := chk_some hM
        refine ow_ev (ev_add (hr := fun hg => i64b_I64 hI47)) ?_
        refine ow_ev ev_assign ?_
        refine ow_nil (hJ2 ((((y4.tdiv 2) * y6) + ((y4 - (y4.tdiv 2)) * y8)), ()) _ _ hM ⟨rfl, rfl, rfl, trivial⟩ (fun w hm => hm.reord))
      ·
        replace hM := (ite_f hc41).symm.trans hM
        refine cw_skip (hJ2 ((y4 * y8), ()) _ _ hM ⟨rfl, rfl, rfl, trivial⟩ (fun w hm => hm.reord))
    ·
      clear hM
      intro g hM
      obtain ⟨least_j2, ⟨⟩⟩ := g
      dsimp only at hM ⊢
      dsimp only [law27_FlowLarge_k2] at hM
      refine cw_seq fun K13 hK13 => ?_
      refine cw_region ?_
      refine ow_ev (ev_load_all (b := b13)) ?_
      obtain ⟨y31, hy32, hM⟩ := bind_some hM
      refine ow_cons (st_callF SelL.nil (fun S w hs hP => flow_Solve_spec _ w (Graph.mk ((m10.set (0 : Int).toNat y4).set ((2 + y1) - 1).toNat (-y4)) lg_1_1) (r12, rg_1_1) y31 hy32 (lend_lt hs) ⟨(Kn.lend (Kn.trow (e := 3) (r := r12) (by repeat (first | exact Has.head | apply Has.tail))) hs), (Kn.lend (Kn.trow (e := 40) (r := rg_1_1) (by repeat (first | exact Has.head | apply Has.tail))) hs)⟩) (by intro r c hc; simp only [List.mem_cons, List.not_mem_nil, or_false] at hc; rcases hc with rfl | rfl <;> first | exact flatC_own | exact flatC_trow (fun _ _ _ _ => trivial)) (fun r33 => ?_))
      dsimp only [List.cons_append, List.nil_append]
      refine ow_ev ev_move ?_
      refine ow_ev (ev_extract (vs := [.agg #[.slice r33.1.a y31.1.X.length r33.1.cap, .slice r33.2.a y31.1.Price.length r33.2.cap, .int .i64 y31.1.Cost], .int .i64 y31.2])) ?_
      refine ow_ev (ev_extract (vs := [.agg #[.slice r33.1.a y31.1.X.length r33.1.cap, .slice r33.2.a y31.1.Price.length r33.2.cap, .int .i64 y31.1.Cost], .int .i64 y31.2])) ?_
      refine ow_cons (st_alloc rfl (k := fun b34 => ?_))
      refine ow_cons (st_store_all (b := b34) (vs := [.slice r33.1.a y31.1.X.length r33.1.cap, .slice r33.2.a y31.1.Price.length r33.2.cap, .int .i64 y31.1.Cost]) (k := ?_))
      refine ow_ev ev_assign ?_
      refine ow_nil (hK13 _ _ ?_); clear hK13
      refine cw_seq fun K14 hK14 => ?_
      refine cw_region ?_
      obtain ⟨y35, hy36, hM⟩ := bind_some hM
      refine ow_cons (st_callv (fun w hm => let ⟨S, hs⟩ := hm; law27_awake_spec _ w  y35 hy36 (lend_lt hs) ) ?_)
      refine ow_ev ev_move ?_
      refine ow_evg rfl ev_move ?_
      refine ow_evg rfl ev_eql ?_
      refine ow_ev ev_and ?_
      refine ow_ev ev_move ?_
      refine ow_evg rfl (ev_load_all (b := b13)) ?_
      refine ow_evg rfl (ev_load_all (b := b34)) ?_
      obtain ⟨y37, hy38, hM⟩ := bind_some hM
      refine ow_callg rfl (fun hg w hm => let ⟨S, hs⟩ := hm; ref24_VerifyFlow_spec _ w (Graph.mk ((m10.set (0 : Int).toNat y4).set ((2 + y1) - 1).toNat (-y4)) lg_1_1) (r12, rg_1_1) y31.1 r33 y37 (whn_some hy38 hg) (lend_lt hs) ⟨(Kn.lend (Kn.trow (e := 3) (r := r12) (by repeat (first | exact Has.head | apply Has.tail))) hs), (Kn.lend (Kn.trow (e := 40) (r := rg_1_1) (by repeat (first | exact Has.head | apply Has.tail))) hs)⟩ ⟨(Kn.lend (Kn.trow (e := 3) (r := r33.1) (by repeat (first | exact Has.head | apply Has.tail))) hs), (Kn.lend (Kn.trow (e := 3) (r := r33.2) (by repeat (first | exact Has.head | apply Has.tail))) hs)⟩) ?_
      refine ow_ev ev_and ?_
      refine ow_ev ev_move ?_
      refine ow_evg rfl (ev_field_addr 2) ?_
      refine ow_evg rfl (ev_load_own (b := b34)) ?_
      refine ow_evg rfl ev_move ?_
      refine ow_evg rfl ev_move ?_
      obtain ⟨hI39, hM⟩ := chk_some hM
      refine ow_evg rfl (ev_sub (hr := fun hg => i64b_I64 (gor hI39 hg))) ?_
      obtain ⟨hI40, hM⟩ := chk_some hM
      refine ow_evg rfl (ev_mul (hr := fun hg => i64b_I64 (gor hI40 hg))) ?_
      refine ow_evg rfl ev_eql ?_
      refine ow_ev ev_and ?_
      refine ow_ev ev_assign ?_
      refine ow_nil (hK14 _ _ ?_); clear hK14
      obtain rfl := some_inj hM
      refine cw_ret (kw_retc1 (fun w hm => ret_of hm rfl))

def law27_FlowRaw_m (g0 : Graph) (f0 : Flow) (set0 : List Int) : Option Bool :=
  (law27_awake_m).bind fun y3 =>
  (whn y3 default (flow_Check_m g0)).bind fun y5 =>
  (whn y3 default (ref24_CheckGraph_m g0)).bind fun y7 =>
  (whn (y3 && (y5 == y7)) default (flow_Verify_m g0 f0)).bind fun y9 =>
  (whn (y3 && (y5 == y7)) default (ref24_VerifyFlow_m g0 f0)).bind fun y11 =>
  (whn ((y3 && (y5 == y7)) && (y9 == y11)) default (flow_Excess_m g0 set0)).bind fun y13 =>
  (whn ((y3 && (y5 == y7)) && (y9 == y11)) default (ref24_Excess_m g0 set0)).bind fun y15 =>
  if (((y3 && (y5 == y7)) && (y9 == y11)) && decide (y13 = y15)) then
  ((law27_example_m).bind fun y18 =>
  (flow_Verify_m y18 f0).bind fun y21 =>
  (law27_example_m).bind fun y23 =>
  (ref24_VerifyFlow_m y23 f0).bind fun y26 =>
  some ((((y3 && (y5 == y7)) && (y9 == y11)) && decide (y13 = y15)) && (y21 == y26)))
  else
  (some false)
theorem law27_FlowRaw_spec (S : Soup) (w : World) (g0 : Graph) (r_g0 : GoRep.R Graph) (f0 : Flow) (r_f0 : GoRep.R Flow) (set0 : List Int) (r_set0 : GoRep.R (List Int)) (y : Bool) (hM : law27_FlowRaw_m g0 f0 set0 = some y) (hS : ∀ k, S k → k < w.heap.size) (h_g0 : GoRep.ok S w r_g0 g0) (h_f0 : GoRep.ok S w r_f0 f0) (h_set0 : GoRep.ok S w r_set0 set0) :
    Calls Try.prog 8 #[.agg #[.slice r_g0.1.a g0.Supply.length r_g0.1.cap, .slice r_g0.2.a g0.Arcs.length r_g0.2.cap], .agg #[.slice r_f0.1.a f0.X.length r_f0.1.cap, .slice r_f0.2.a f0.Price.length r_f0.2.cap, .int .i64 f0.Cost], .slice r_set0.a set0.length r_set0.cap] w (Ret w (.bool y)) := by
  refine calls_cw (args := [_, _, _]) Try.func8 rfl ((pre_nil hS).start |>.immP (α := List Int) (r := r_g0.1) (x := g0.Supply) h_g0.1|>.immP (α := List Arc) (r := r_g0.2) (x := g0.Arcs) h_g0.2|>.immP (α := List Int) (r := r_f0.1) (x := f0.X) h_f0.1|>.immP (α := List Int) (r := r_f0.2) (x := f0.Price) h_f0.2|>.immP (α := List Int) (r := r_set0) (x := set0) h_set0) rfl ?_
  unfold law27_FlowRaw_m at hM
  refine cw_seq fun K1 hK1 => ?_
  refine cw_region ?_
  refine ow_cons (st_box (l := [.slice r_g0.1.a g0.Supply.length r_g0.1.cap, .slice r_g0.2.a g0.Arcs.length r_g0.2.cap]) (k := fun b1 => ?_))
  refine ow_cons (st_box (l := [.slice r_f0.1.a f0.X.length r_f0.1.cap, .slice r_f0.2.a f0.Price.length r_f0.2.cap, .int .i64 f0.Cost]) (k := fun b2 => ?_))
  refine ow_ev ev_assign ?_
  refine ow_nil (hK1 _ _ ?_); clear hK1
  refine cw_seq fun K2 hK2 => ?_
  refine cw_region_any _ (List.Sublist.refl _) ?_
  obtain ⟨y3, hy4, hM⟩ := bind_some hM
  refine aw_one 0 rfl (st_callv (fun w hm => let ⟨S, hs⟩ := hm; law27_awake_spec _ w  y3 hy4 (lend_lt hs) ) ⟨fun w hm => hm.sub (by repeat (first | exact List.Sublist.refl _ | apply List.Sublist.cons_cons | apply List.Sublist.cons)), ?_⟩)
  refine aw_ev 1 rfl ev_move ?_
  refine aw_evg 2 rfl rfl (ev_load_all (b := b1)) ?_
  refine aw_evg 4 rfl rfl (ev_load_all (b := b1)) ?_
  obtain ⟨y5, hy6, hM⟩ := bind_some hM
  refine aw_callg 3 rfl rfl (fun hg w hm => let ⟨S, hs⟩ := hm; flow_Check_spec _ w g0 r_g0 y5 (whn_some hy6 hg) (lend_lt hs) ⟨(Kn.lend (Kn.imm (α := List Int) (r := r_g0.1) (x := g0.Supply) (by repeat (first | exact Has.head | apply Has.tail))) hs), (Kn.lend (Kn.imm (α := List Arc) (r := r_g0.2) (x := g0.Arcs) (by repeat (first | exact Has.head | apply Has.tail))) hs)⟩) ?_
  obtain ⟨y7, hy8, hM⟩ := bind_some hM
  refine aw_callg 5 rfl rfl (fun hg w hm => let ⟨S, hs⟩ := hm; ref24_CheckGraph_spec _ w g0 r_g0 y7 (whn_some hy8 hg) (lend_lt hs) ⟨(Kn.lend (Kn.imm (α := List Int) (r := r_g0.1) (x := g0.Supply) (by repeat (first | exact Has.head | apply Has.tail))) hs), (Kn.lend (Kn.imm (α := List Arc) (r := r_g0.2) (x := g0.Arcs) (by repeat (first | exact Has.head | apply Has.tail))) hs)⟩) ?_
  refine aw_evg 6 rfl rfl ev_bool_eql ?_
  refine aw_ev 7 rfl ev_and ?_
  refine aw_ev 8 rfl ev_move ?_
  refine aw_evg 9 rfl rfl (ev_load_all (b := b1)) ?_
  refine aw_evg 10 rfl rfl (ev_load_all (b := b2)) ?_
  refine aw_evg 12 rfl rfl (ev_load_all (b := b1)) ?_
  refine aw_evg 13 rfl rfl (ev_load_all (b := b2)) ?_
  obtain ⟨y9, hy10, hM⟩ := bind_some hM
  refine aw_callg 11 rfl rfl (fun hg w hm => let ⟨S, hs⟩ := hm; flow_Verify_spec _ w g0 r_g0 f0 r_f0 y9 (whn_some hy10 hg) (lend_lt hs) ⟨(Kn.lend (Kn.imm (α := List Int) (r := r_g0.1) (x := g0.Supply) (by repeat (first | exact Has.head | apply Has.tail))) hs), (Kn.lend (Kn.imm (α := List Arc) (r := r_g0.2) (x := g0.Arcs) (by repeat (first | exact Has.head | apply Has.tail))) hs)⟩ ⟨(Kn.lend (Kn.imm (α := List Int) (r := r_f0.1) (x := f0.X) (by repeat (first | exact Has.head | apply Has.tail))) hs), (Kn.lend (Kn.imm (α := List Int) (r := r_f0.2) (x := f0.Price) (by repeat (first | exact Has.head | apply Has.tail))) hs)⟩) ?_
  obtain ⟨y11, hy12, hM⟩ := bind_some hM
  refine aw_callg 14 rfl rfl (fun hg w hm => let ⟨S, hs⟩ := hm; ref24_VerifyFlow_spec _ w g0 r_g0 f0 r_f0 y11 (whn_some hy12 hg) (lend_lt hs) ⟨(Kn.lend (Kn.imm (α := List Int) (r := r_g0.1) (x := g0.Supply) (by repeat (first | exact Has.head | apply Has.tail))) hs), (Kn.lend (Kn.imm (α := List Arc) (r := r_g0.2) (x := g0.Arcs) (by repeat (first | exact Has.head | apply Has.tail))) hs)⟩ ⟨(Kn.lend (Kn.imm (α := List Int) (r := r_f0.1) (x := f0.X) (by repeat (first | exact Has.head | apply Has.tail))) hs), (Kn.lend (Kn.imm (α := List Int) (r := r_f0.2) (x := f0.Price) (by repeat (first | exact Has.head | apply Has.tail))) hs)⟩) ?_
  refine aw_evg 15 rfl rfl ev_bool_eql ?_
  refine aw_ev 16 rfl ev_and ?_
  refine aw_ev 17 rfl ev_move ?_
  refine aw_evg 18 rfl rfl (ev_load_all (b := b1)) ?_
  refine aw_evg 19 rfl rfl ev_move ?_
  refine aw_evg 21 rfl rfl (ev_load_all (b := b1)) ?_
  refine aw_evg 22 rfl rfl ev_move ?_
  obtain ⟨y13, hy14, hM⟩ := bind_some hM
  refine aw_callg 20 rfl rfl (fun hg w hm => let ⟨S, hs⟩ := hm; flow_Excess_spec _ w g0 r_g0 set0 r_set0 y13 (whn_some hy14 hg) (lend_lt hs) ⟨(Kn.lend (Kn.imm (α := List Int) (r := r_g0.1) (x := g0.Supply) (by repeat (first | exact Has.head | apply Has.tail))) hs), (Kn.lend (Kn.imm (α := List Arc) (r := r_g0.2) (x := g0.Arcs) (by repeat (first | exact Has.head | apply Has.tail))) hs)⟩ (Kn.lend (Kn.imm (α := List Int) (r := r_set0) (x := set0) (by repeat (first | exact Has.head | apply Has.tail))) hs)) ?_
  obtain ⟨y15, hy16, hM⟩ := bind_some hM
  refine aw_callg 23 rfl rfl (fun hg w hm => let ⟨S, hs⟩ := hm; ref24_Excess_spec _ w g0 r_g0 set0 r_set0 y15 (whn_some hy16 hg) (lend_lt hs) ⟨(Kn.lend (Kn.imm (α := List Int) (r := r_g0.1) (x := g0.Supply) (by repeat (first | exact Has.head | apply Has.tail))) hs), (Kn.lend (Kn.imm (α := List Arc) (r := r_g0.2) (x := g0.Arcs) (by repeat (first | exact Has.head | apply Has.tail))) hs)⟩ (Kn.lend (Kn.imm (α := List Int) (r := r_set0) (x := set0) (by repeat (first | exact Has.head | apply Has.tail))) hs)) ?_
  refine aw_evg 24 rfl rfl ev_eql ?_
  refine aw_ev 25 rfl ev_and ?_
  refine aw_ev 26 rfl ev_move ?_
  refine aw_evg 28 rfl rfl (ev_load_all (b := b2)) ?_
  refine aw_evg 31 rfl rfl (ev_load_all (b := b2)) ?_
  refine aw_cases (((y3 && (y5 == y7)) && (y9 == y11)) && decide (y13 = y15)) (fun hg17 => ?_) (fun hg17 => ?_)
  ·
    replace hM := (ite_t hg17).symm.trans hM
    refine aw_know 35 hg17 rfl ?_
    refine aw_know 38 hg17 rfl ?_
    obtain ⟨y18, hy19, hM⟩ := bind_some hM
    refine aw_gtrue 27 rfl rfl hg17 (st_callF SelL.nil (fun S w hs hP => law27_example_spec _ w  y18 hy19 (lend_lt hs) ) (by intro r c hc; simp only [List.mem_cons, List.not_mem_nil, or_false] at hc; rcases hc with rfl | rfl <;> first | exact flatC_own | exact flatC_trow (fun _ _ _ _ => trivial)) (fun r20 => ⟨fun w hm => hm.sub (by repeat (first | exact List.Sublist.refl _ | apply List.Sublist.cons_cons | apply List.Sublist.cons)), ?_⟩))
    dsimp only [List.cons_append, List.nil_append]
    obtain ⟨y21, hy22, hM⟩ := bind_some hM
    refine aw_gtrue 29 rfl rfl hg17 (st_callv (fun w hm => let ⟨S, hs⟩ := hm; flow_Verify_spec _ w y18 r20 f0 r_f0 y21 hy22 (lend_lt hs) ⟨(Kn.lend (Kn.trow (e := 3) (r := r20.1) (by repeat (first | exact Has.head | apply Has.tail))) hs), (Kn.lend (Kn.trow (e := 40) (r := r20.2) (by repeat (first | exact Has.head | apply Has.tail))) hs)⟩ ⟨(Kn.lend (Kn.imm (α := List Int) (r := r_f0.1) (x := f0.X) (by repeat (first | exact Has.head | apply Has.tail))) hs), (Kn.lend (Kn.imm (α := List Int) (r := r_f0.2) (x := f0.Price) (by repeat (first | exact Has.head | apply Has.tail))) hs)⟩) ⟨fun w hm => hm.sub (by repeat (first | exact List.Sublist.refl _ | apply List.Sublist.cons_cons | apply List.Sublist.cons)), ?_⟩)
    obtain ⟨y23, hy24, hM⟩ := bind_some hM
    refine aw_gtrue 30 rfl rfl hg17 (st_callF SelL.nil (fun S w hs hP => law27_example_spec _ w  y23 hy24 (lend_lt hs) ) (by intro r c hc; simp only [List.mem_cons, List.not_mem_nil, or_false] at hc; rcases hc with rfl | rfl <;> first | exact flatC_own | exact flatC_trow (fun _ _ _ _ => trivial)) (fun r25 => ⟨fun w hm => hm.sub (by repeat (first | exact List.Sublist.refl _ | apply List.Sublist.cons_cons | apply List.Sublist.cons)), ?_⟩))
    dsimp only [List.cons_append, List.nil_append]
    obtain ⟨y26, hy27, hM⟩ := bind_some hM
    refine aw_gtrue 32 rfl rfl hg17 (st_callv (fun w hm => let ⟨S, hs⟩ := hm; ref24_VerifyFlow_spec _ w y23 r25 f0 r_f0 y26 hy27 (lend_lt hs) ⟨(Kn.lend (Kn.trow (e := 3) (r := r25.1) (by repeat (first | exact Has.head | apply Has.tail))) hs), (Kn.lend (Kn.trow (e := 40) (r := r25.2) (by repeat (first | exact Has.head | apply Has.tail))) hs)⟩ ⟨(Kn.lend (Kn.imm (α := List Int) (r := r_f0.1) (x := f0.X) (by repeat (first | exact Has.head | apply Has.tail))) hs), (Kn.lend (Kn.imm (α := List Int) (r := r_f0.2) (x := f0.Price) (by repeat (first | exact Has.head | apply Has.tail))) hs)⟩) ⟨fun w hm => hm.sub (by repeat (first | exact List.Sublist.refl _ | apply List.Sublist.cons_cons | apply List.Sublist.cons)), ?_⟩)
    refine aw_evk 33 rfl rfl hg17 ev_bool_eql ?_
    refine aw_ev 34 rfl ev_and ?_
    refine aw_ev 35 rfl ev_assign ?_
    refine aw_done (hK2 _ _ ?_); clear hK2
    obtain rfl := some_inj hM
    refine cw_ret (kw_retc1 (fun w hm => ret_of hm rfl))
  ·
    replace hM := (ite_f hg17).symm.trans hM
    refine aw_gskip 27 rfl rfl hg17 ?_
    refine aw_gskip 29 rfl rfl hg17 ?_
    refine aw_gskip 30 rfl rfl hg17 ?_
    refine aw_gskip 32 rfl rfl hg17 ?_
    refine aw_gskip 33 rfl rfl hg17 ?_
    refine aw_ev 34 rfl (ev_andF hg17) ?_
    refine aw_ev 35 rfl ev_assign ?_
    refine aw_done (hK2 _ _ ?_); clear hK2
    obtain rfl := some_inj hM
    refine cw_ret (kw_retc1 (fun w hm => ret_of hm rfl))

def law27_FlowErrors_k1 (g0 : Graph) : ((List Int) × (List Arc)) → Option Bool := fun (lh_j1_0, lh_j1_1) =>
  (flow_Solve_m (Graph.mk lh_j1_0 lh_j1_1)).bind fun y6 =>
  (flow_Cut_m (Graph.mk lh_j1_0 lh_j1_1)).bind fun y10 =>
  (ref24_CheckGraph_m (Graph.mk lh_j1_0 lh_j1_1)).bind fun y13 =>
  (whn ((!y13) && !(decide (y6.2 ≠ 1) || y10.2)) default (flow_Check_m (Graph.mk lh_j1_0 lh_j1_1))).bind fun y15 =>
  if ((!y13) && ((decide (y6.2 ≠ 1) || y10.2) || y15)) then
    (some false)
  else
    ((flow_Solve_m g0).bind fun y18 =>
    (flow_Cut_m g0).bind fun y21 =>
    (law27_awake_m).bind fun y24 =>
    (whn y24 default (ref24_CheckGraph_m g0)).bind fun y26 =>
    some (y24 && (y26 || (decide (y18.2 = 1) && (!y21.2)))))
def law27_FlowErrors_m (g0 : Graph) (l0 : List Int) (how0 : Int) (at0 : Int) (v0 : Int) : Option Bool :=
  (keep2_Graph_m l0).bind fun y2 =>
  (keep_Pick_m how0 5).bind fun y28 =>
  if decide (y28 = 0) then
    ((keep_Pick_m at0 (y2.Supply.length : Int)).bind fun y31 =>
    (idx y2.Supply y31).bind fun x33 =>
    chk (i64b (x33 + 1)) <|
    (idx y2.Supply y31).bind fun x36 =>
    law27_FlowErrors_k1 g0 ((y2.Supply.set y31.toNat (x33 + 1)), y2.Arcs))
  else
    (if decide (y28 = 1) then
      ((keep_Pick_m at0 5).bind fun y39 =>
      chk (i64b (y39 - 1)) <|
      (keep_Pick_m v0 5).bind fun y42 =>
      chk (decide ((y2.Arcs.length + ([(Arc.mk (y39 - 1) y42 1 0)] : List Arc).length) * 32 ≤ 140737488355328)) <|
      law27_FlowErrors_k1 g0 (y2.Supply, (y2.Arcs ++ ([(Arc.mk (y39 - 1) y42 1 0)] : List Arc))))
    else
      (if decide (y28 = 2) then
        ((keep_Pick_m v0 3).bind fun y48 =>
        chk (i64b (y48 - 1)) <|
        chk (decide ((y2.Arcs.length + ([(Arc.mk 0 1 (y48 - 1) 0)] : List Arc).length) * 32 ≤ 140737488355328)) <|
        law27_FlowErrors_k1 g0 (y2.Supply, (y2.Arcs ++ ([(Arc.mk 0 1 (y48 - 1) 0)] : List Arc))))
      else
        (if decide (y28 = 3) then
          ((keep_Pick_m v0 2).bind fun y55 =>
          chk (i64b (1048576 + y55)) <|
          chk (decide ((y2.Arcs.length + ([(Arc.mk 0 1 0 (1048576 + y55))] : List Arc).length) * 32 ≤ 140737488355328)) <|
          law27_FlowErrors_k1 g0 (y2.Supply, (y2.Arcs ++ ([(Arc.mk 0 1 0 (1048576 + y55))] : List Arc))))
        else
          (law27_FlowErrors_k1 g0 (([] : List Int), y2.Arcs)))))
theorem law27_FlowErrors_spec (S : Soup) (w : World) (g0 : Graph) (r_g0 : GoRep.R Graph) (l0 : List Int) (r_l0 : GoRep.R (List Int)) (how0 : Int) (at0 : Int) (v0 : Int) (y : Bool) (hM : law27_FlowErrors_m g0 l0 how0 at0 v0 = some y) (hS : ∀ k, S k → k < w.heap.size) (h_g0 : GoRep.ok S w r_g0 g0) (h_l0 : GoRep.ok S w r_l0 l0) :
    Calls Try.prog 9 #[.agg #[.slice r_g0.1.a g0.Supply.length r_g0.1.cap, .slice r_g0.2.a g0.Arcs.length r_g0.2.cap], .slice r_l0.a l0.length r_l0.cap, .int .i64 how0, .int .i64 at0, .int .i64 v0] w (Ret w (.bool y)) := by
  refine calls_cw (args := [_, _, _, _, _]) Try.func9 rfl ((pre_nil hS).start |>.immP (α := List Int) (r := r_g0.1) (x := g0.Supply) h_g0.1|>.immP (α := List Arc) (r := r_g0.2) (x := g0.Arcs) h_g0.2|>.immP (α := List Int) (r := r_l0) (x := l0) h_l0) rfl ?_
  unfold law27_FlowErrors_m at hM
  refine cw_seq fun K1 hK1 => ?_
  refine cw_region ?_
  refine ow_cons (st_box (l := [.slice r_g0.1.a g0.Supply.length r_g0.1.cap, .slice r_g0.2.a g0.Arcs.length r_g0.2.cap]) (k := fun b1 => ?_))
  refine ow_ev ev_assign ?_
  refine ow_nil (hK1 _ _ ?_); clear hK1
  refine cw_seq fun K2 hK2 => ?_
  refine cw_region ?_
  refine ow_ev ev_move ?_
  obtain ⟨y2, hy3, hM⟩ := bind_some hM
  refine ow_cons (st_callF SelL.nil (fun S w hs hP => keep2_Graph_spec _ w l0 r_l0 y2 hy3 (lend_lt hs) (Kn.lend (Kn.imm (α := List Int) (r := r_l0) (x := l0) (by repeat (first | exact Has.head | apply Has.tail))) hs)) (by intro r c hc; simp only [List.mem_cons, List.not_mem_nil, or_false] at hc; rcases hc with rfl | rfl <;> first | exact flatC_own | exact flatC_trow (fun _ _ _ _ => trivial)) (fun r4 => ?_))
  dsimp only [List.cons_append, List.nil_append]
  refine ow_cons (st_alloc rfl (k := fun b5 => ?_))
  refine ow_cons (st_store_all (b := b5) (vs := [.slice r4.1.a y2.Supply.length r4.1.cap, .slice r4.2.a y2.Arcs.length r4.2.cap]) (k := ?_))
  refine ow_nil (hK2 _ _ ?_); clear hK2
  refine cw_cut (γ := ((List Int) × (List Arc)) × ((SR (GoRep.R Int)) × (SR (GoRep.R Arc)))) (env := fun ((lh_j1_0, lh_j1_1), (rh_j1_0, rh_j1_1)) => [(5, .v (.pointer (some ⟨b1, 0, none⟩))), (11, .v (.pointer (some ⟨b5, 0, none⟩)))]) (mem := fun ((lh_j1_0, lh_j1_1), (rh_j1_0, rh_j1_1)) => [imm (α := (List Int)) r_g0.1 g0.Supply, imm (α := (List Arc)) r_g0.2 g0.Arcs, own b1 25 [.slice r_g0.1.a g0.Supply.length r_g0.1.cap, .slice r_g0.2.a g0.Arcs.length r_g0.2.cap], trow 3 rh_j1_0 lh_j1_0, trow 40 rh_j1_1 lh_j1_1, own b5 25 [.slice rh_j1_0.a lh_j1_0.length rh_j1_0.cap, .slice rh_j1_1.a lh_j1_1.length rh_j1_1.cap]]) (R := fun g => law27_FlowErrors_k1 g0 g.1 = some y) ?_ ?_
  · intro KJ1 hJ1
    refine cw_seq fun K11 hK11 => ?_
    refine cw_region ?_
    refine ow_ev ev_move ?_
    obtain ⟨y28, hy29, hM⟩ := bind_some hM
    refine ow_cons (st_callv (fun w hm => let ⟨S, hs⟩ := hm; keep_Pick_spec _ w how0 5 y28 hy29 (lend_lt hs) ) ?_)
    refine ow_nil (hK11 _ _ ?_); clear hK11
    refine cw_block ?_
    refine cw_seq fun K12 hK12 => ?_
    refine cw_region ?_
    refine ow_ev ev_eql ?_
    refine ow_ev ev_assign ?_
    refine ow_nil (hK12 _ _ ?_); clear hK12
    refine cw_cond rfl (fun hc30 => ?_) (fun hc30 => ?_)
    ·
      replace hM := (ite_t hc30).symm.trans hM
      refine cw_region_z [own b5 25 [.slice r4.1.a y2.Supply.length r4.1.cap, .slice r4.2.a y2.Arcs.length r4.2.cap], trow 3 r4.1 y2.Supply, trow 40 r4.2 y2.Arcs, own b1 25 [.slice r_g0.1.a g0.Supply.length r_g0.1.cap, .slice r_g0.2.a g0.Arcs.length r_g0.2.cap], imm (α := (List Int)) r_l0 l0, imm (α := (List Arc)) r_g0.2 g0.Arcs, imm (α := (List Int)) r_g0.1 g0.Supply] 11 ?_
      refine az_ev 0 rfl (ev_field_addr 0) ?_
      refine az_ev 1 rfl (ev_load_own (b := b5)) ?_
      refine az_ev 2 rfl ev_move ?_
      refine az_ev 3 rfl (ev_field_addr 0) ?_
      refine az_ev 4 rfl (ev_load_own (b := b5)) ?_
      refine az_ev 5 rfl ev_len ?_
      obtain ⟨y31, hy32, hM⟩ := bind_some hM
      refine az_one 6 rfl (st_callv (fun w hm => let ⟨S, hs⟩ := hm; keep_Pick_spec _ w at0 (y2.Supply.length : Int) y31 hy32 (lend_lt hs) ) ⟨fun w hm => hm.sub (by repeat (first | exact List.Sublist.refl _ | apply List.Sublist.cons_cons | apply List.Sublist.cons)), ?_⟩)
      obtain ⟨x33, hx34, hM⟩ := bind_some hM
      refine az_ev 7 rfl (ev_idx (xs := y2.Supply) 1 (Kn.trow (e := 3) (r := r4.1) (by repeat (first | exact Has.head | apply Has.tail))) (fun hg => let h := idx_some hx34; ⟨h.1, h.2.1⟩)) ?_
      refine az_ev 8 rfl (ev_ld (i := y31) (xs := y2.Supply) (y := x33) 0 (Kn.trow (e := 3) (r := r4.1) (by repeat (first | exact Has.head | apply Has.tail))) (fun _ => hx34)) ?_
      obtain ⟨hI35, hM⟩ := chk_some hM
      refine az_ev 9 rfl (ev_add (hr := fun hg => i64b_I64 hI35)) ?_
      obtain ⟨x36, hx37, hM⟩ := bind_some hM
      refine az_ev 10 rfl (ev_idx (xs := y2.Supply) 1 (Kn.trow (e := 3) (r := r4.1) (by repeat (first | exact Has.head | apply Has.tail))) (fun hg => let h := idx_some hx37; ⟨h.1, h.2.1⟩)) ?_
      refine az_last rfl (st_set (r := r4.1) (i := y31) (xs := y2.Supply) (u := x36) (vs := [.int .i64 (x33 + 1)]) 0 (x33 + 1) hx37 rfl (fun _ _ h => h) (by repeat (first | exact Upd.head | apply Upd.tail)) ?_)
      refine az_done (hJ1 (((y2.Supply.set y31.toNat (x33 + 1)), y2.Arcs), (r4.1, r4.2)) _ _ hM ⟨rfl, rfl, trivial⟩ (fun w hm => by simp only [List.length_set]; exact hm.reord))
    ·
      replace hM := (ite_f hc30).symm.trans hM
      refine cw_seq fun K13 hK13 => ?_
      refine cw_region ?_
      refine ow_ev ev_eql ?_
      refine ow_ev ev_assign ?_
      refine ow_nil (hK13 _ _ ?_); clear hK13
      refine cw_cond rfl (fun hc38 => ?_) (fun hc38 => ?_)
      ·
        replace hM := (ite_t hc38).symm.trans hM
        refine cw_region_z [own b5 25 [.slice r4.1.a y2.Supply.length r4.1.cap, .slice r4.2.a y2.Arcs.length r4.2.cap], trow 3 r4.1 y2.Supply, own b1 25 [.slice r_g0.1.a g0.Supply.length r_g0.1.cap, .slice r_g0.2.a g0.Arcs.length r_g0.2.cap], imm (α := (List Int)) r_l0 l0, imm (α := (List Arc)) r_g0.2 g0.Arcs, imm (α := (List Int)) r_g0.1 g0.Supply] 11 ?_
        refine az_ev 0 rfl (ev_field_addr 1) ?_
        refine az_ev 1 rfl (ev_load_own (b := b5)) ?_
        refine az_ev 2 rfl ev_move ?_
        refine az_ev 5 rfl ev_move ?_
        obtain ⟨y39, hy40, hM⟩ := bind_some hM
        refine az_one 3 rfl (st_callv (fun w hm => let ⟨S, hs⟩ := hm; keep_Pick_spec _ w at0 5 y39 hy40 (lend_lt hs) ) ⟨fun w hm => hm.sub (by repeat (first | exact List.Sublist.refl _ | apply List.Sublist.cons_cons | apply List.Sublist.cons)), ?_⟩)
        obtain ⟨hI41, hM⟩ := chk_some hM
        refine az_ev 4 rfl (ev_sub (hr := fun hg => i64b_I64 hI41)) ?_
        obtain ⟨y42, hy43, hM⟩ := bind_some hM
        refine az_one 6 rfl (st_callv (fun w hm => let ⟨S, hs⟩ := hm; keep_Pick_spec _ w v0 5 y42 hy43 (lend_lt hs) ) ⟨fun w hm => hm.sub (by repeat (first | exact List.Sublist.refl _ | apply List.Sublist.cons_cons | apply List.Sublist.cons)), ?_⟩)
        refine az_ev 7 rfl (ev_build [.int .i64 (y39 - 1), .int .i64 y42, .int .i64 1, .int .i64 0]) ?_
        refine az_one 8 rfl (st_bslice (α := Arc) 40 (fun _ => ()) ([(Arc.mk (y39 - 1) y42 1 0)] : List Arc) (OkL.flat (fun _ _ _ _ => trivial)) (fun r44 => ⟨fun w hm => hm.sub (by repeat (first | exact List.Sublist.refl _ | apply List.Sublist.cons_cons | apply List.Sublist.cons)), ?_⟩))
        obtain ⟨hb45, hM⟩ := chk_some hM
        refine az_one 9 rfl (st_append (r := r4.2) (r2 := r44) (by intro r'; repeat (first | exact Upd.head | apply Upd.tail)) (Kn.trow (e := 40) (r := r44) (by repeat (first | exact Has.head | apply Has.tail))) (OkL.flat (fun _ _ _ _ => trivial)) (of_decide_eq_true hb45) (fun r46 => ⟨fun w hm => hm.sub (by repeat (first | exact List.Sublist.refl _ | apply List.Sublist.cons_cons | apply List.Sublist.cons)), ?_⟩))
        refine az_ev 10 rfl (ev_field_addr 1) ?_
        refine az_last rfl (st_store_own (b := b5) (l' := [.slice r4.1.a y2.Supply.length r4.1.cap, .slice r46.a ((y2.Arcs ++ ([(Arc.mk (y39 - 1) y42 1 0)] : List Arc)).length) r46.cap]) (k := ?_))
        refine az_done (hJ1 ((y2.Supply, (y2.Arcs ++ ([(Arc.mk (y39 - 1) y42 1 0)] : List Arc))), (r4.1, r46)) _ _ hM ⟨rfl, rfl, trivial⟩ (fun w hm => hm.reord))
      ·
        replace hM := (ite_f hc38).symm.trans hM
        refine cw_seq fun K14 hK14 => ?_
        refine cw_region ?_
        refine ow_ev ev_eql ?_
        refine ow_ev ev_assign ?_
        refine ow_nil (hK14 _ _ ?_); clear hK14
        refine cw_cond rfl (fun hc47 => ?_) (fun hc47 => ?_)
        ·
          replace hM := (ite_t hc47).symm.trans hM
          refine cw_region_z [own b5 25 [.slice r4.1.a y2.Supply.length r4.1.cap, .slice r4.2.a y2.Arcs.length r4.2.cap], trow 3 r4.1 y2.Supply, own b1 25 [.slice r_g0.1.a g0.Supply.length r_g0.1.cap, .slice r_g0.2.a g0.Arcs.length r_g0.2.cap], imm (α := (List Int)) r_l0 l0, imm (α := (List Arc)) r_g0.2 g0.Arcs, imm (α := (List Int)) r_g0.1 g0.Supply] 9 ?_
          refine az_ev 0 rfl (ev_field_addr 1) ?_
          refine az_ev 1 rfl (ev_load_own (b := b5)) ?_
          refine az_ev 2 rfl ev_move ?_
          obtain ⟨y48, hy49, hM⟩ := bind_some hM
          refine az_one 3 rfl (st_callv (fun w hm => let ⟨S, hs⟩ := hm; keep_Pick_spec _ w v0 3 y48 hy49 (lend_lt hs) ) ⟨fun w hm => hm.sub (by repeat (first | exact List.Sublist.refl _ | apply List.Sublist.cons_cons | apply List.Sublist.cons)), ?_⟩)
          obtain ⟨hI50, hM⟩ := chk_some hM
          refine az_ev 4 rfl (ev_sub (hr := fun hg => i64b_I64 hI50)) ?_
          refine az_ev 5 rfl (ev_build [.int .i64 0, .int .i64 1, .int .i64 (y48 - 1), .int .i64 0]) ?_
          refine az_one 6 rfl (st_bslice (α := Arc) 40 (fun _ => ()) ([(Arc.mk 0 1 (y48 - 1) 0)] : List Arc) (OkL.flat (fun _ _ _ _ => trivial)) (fun r51 => ⟨fun w hm => hm.sub (by repeat (first | exact List.Sublist.refl _ | apply List.Sublist.cons_cons | apply List.Sublist.cons)), ?_⟩))
          obtain ⟨hb52, hM⟩ := chk_some hM
          refine az_one 7 rfl (st_append (r := r4.2) (r2 := r51) (by intro r'; repeat (first | exact Upd.head | apply Upd.tail)) (Kn.trow (e := 40) (r := r51) (by repeat (first | exact Has.head | apply Has.tail))) (OkL.flat (fun _ _ _ _ => trivial)) (of_decide_eq_true hb52) (fun r53 => ⟨fun w hm => hm.sub (by repeat (first | exact List.Sublist.refl _ | apply List.Sublist.cons_cons | apply List.Sublist.cons)), ?_⟩))
          refine az_ev 8 rfl (ev_field_addr 1) ?_
          refine az_last rfl (st_store_own (b := b5) (l' := [.slice r4.1.a y2.Supply.length r4.1.cap, .slice r53.a ((y2.Arcs ++ ([(Arc.mk 0 1 (y48 - 1) 0)] : List Arc)).length) r53.cap]) (k := ?_))
          refine az_done (hJ1 ((y2.Supply, (y2.Arcs ++ ([(Arc.mk 0 1 (y48 - 1) 0)] : List Arc))), (r4.1, r53)) _ _ hM ⟨rfl, rfl, trivial⟩ (fun w hm => hm.reord))
        ·
          replace hM := (ite_f hc47).symm.trans hM
          refine cw_seq fun K15 hK15 => ?_
          refine cw_region ?_
          refine ow_ev ev_eql ?_
          refine ow_ev ev_assign ?_
          refine ow_nil (hK15 _ _ ?_); clear hK15
          refine cw_cond rfl (fun hc54 => ?_) (fun hc54 => ?_)
          ·
            replace hM := (ite_t hc54).symm.trans hM
            refine cw_region_z [own b5 25 [.slice r4.1.a y2.Supply.length r4.1.cap, .slice r4.2.a y2.Arcs.length r4.2.cap], trow 3 r4.1 y2.Supply, own b1 25 [.slice r_g0.1.a g0.Supply.length r_g0.1.cap, .slice r_g0.2.a g0.Arcs.length r_g0.2.cap], imm (α := (List Int)) r_l0 l0, imm (α := (List Arc)) r_g0.2 g0.Arcs, imm (α := (List Int)) r_g0.1 g0.Supply] 9 ?_
            refine az_ev 0 rfl (ev_field_addr 1) ?_
            refine az_ev 1 rfl (ev_load_own (b := b5)) ?_
            refine az_ev 2 rfl ev_move ?_
            obtain ⟨y55, hy56, hM⟩ := bind_some hM
            refine az_one 3 rfl (st_callv (fun w hm => let ⟨S, hs⟩ := hm; keep_Pick_spec _ w v0 2 y55 hy56 (lend_lt hs) ) ⟨fun w hm => hm.sub (by repeat (first | exact List.Sublist.refl _ | apply List.Sublist.cons_cons | apply List.Sublist.cons)), ?_⟩)
            obtain ⟨hI57, hM⟩ := chk_some hM
            refine az_ev 4 rfl (ev_add (hr := fun hg => i64b_I64 hI57)) ?_
            refine az_ev 5 rfl (ev_build [.int .i64 0, .int .i64 1, .int .i64 0, .int .i64 (1048576 + y55)]) ?_
            refine az_one 6 rfl (st_bslice (α := Arc) 40 (fun _ => ()) ([(Arc.mk 0 1 0 (1048576 + y55))] : List Arc) (OkL.flat (fun _ _ _ _ => trivial)) (fun r58 => ⟨fun w hm => hm.sub (by repeat (first | exact List.Sublist.refl _ | apply List.Sublist.cons_cons | apply List.Sublist.cons)), ?_⟩))
            obtain ⟨hb59, hM⟩ := chk_some hM
            refine az_one 7 rfl (st_append (r := r4.2) (r2 := r58) (by intro r'; repeat (first | exact Upd.head | apply Upd.tail)) (Kn.trow (e := 40) (r := r58) (by repeat (first | exact Has.head | apply Has.tail))) (OkL.flat (fun _ _ _ _ => trivial)) (of_decide_eq_true hb59) (fun r60 => ⟨fun w hm => hm.sub (by repeat (first | exact List.Sublist.refl _ | apply List.Sublist.cons_cons | apply List.Sublist.cons)), ?_⟩))
            refine az_ev 8 rfl (ev_field_addr 1) ?_
            refine az_last rfl (st_store_own (b := b5) (l' := [.slice r4.1.a y2.Supply.length r4.1.cap, .slice r60.a ((y2.Arcs ++ ([(Arc.mk 0 1 0 (1048576 + y55))] : List Arc)).length) r60.cap]) (k := ?_))
            refine az_done (hJ1 ((y2.Supply, (y2.Arcs ++ ([(Arc.mk 0 1 0 (1048576 + y55))] : List Arc))), (r4.1, r60)) _ _ hM ⟨rfl, rfl, trivial⟩ (fun w hm => hm.reord))
          ·
            replace hM := (ite_f hc54).symm.trans hM
            refine cw_region ?_
            refine ow_ev (ev_field_addr 0) ?_
            refine ow_cons (st_store_own (b := b5) (l' := [.slice none 0 0, .slice r4.2.a y2.Arcs.length r4.2.cap]) (k := ?_))
            refine ow_imp (fun w hm => hm.row_nil (α := Int) 3 (fun _ => ())) ?_
            refine ow_nil (hJ1 ((([] : List Int), y2.Arcs), ((⟨none, 0, (fun _ => ())⟩ : SR (GoRep.R Int)  ), r4.2)) _ _ hM ⟨rfl, rfl, trivial⟩ (fun w hm => hm.reord))
  ·
    clear hM
    intro g hM
    obtain ⟨⟨lh_j1_0, lh_j1_1⟩, ⟨rh_j1_0, rh_j1_1⟩⟩ := g
    dsimp only at hM ⊢
    dsimp only [law27_FlowErrors_k1] at hM
    refine cw_seq fun K3 hK3 => ?_
    refine cw_region ?_
    refine ow_ev (ev_load_all (b := b5)) ?_
    obtain ⟨y6, hy7, hM⟩ := bind_some hM
    refine ow_cons (st_callF SelL.nil (fun S w hs hP => flow_Solve_spec _ w (Graph.mk lh_j1_0 lh_j1_1) (rh_j1_0, rh_j1_1) y6 hy7 (lend_lt hs) ⟨(Kn.lend (Kn.trow (e := 3) (r := rh_j1_0) (by repeat (first | exact Has.head | apply Has.tail))) hs), (Kn.lend (Kn.trow (e := 40) (r := rh_j1_1) (by repeat (first | exact Has.head | apply Has.tail))) hs)⟩) (by intro r c hc; simp only [List.mem_cons, List.not_mem_nil, or_false] at hc; rcases hc with rfl | rfl <;> first | exact flatC_own | exact flatC_trow (fun _ _ _ _ => trivial)) (fun r8 => ?_))
    dsimp only [List.cons_append, List.nil_append]
    refine ow_ev ev_move ?_
    refine ow_ev (ev_extract (vs := [.agg #[.slice r8.1.a y6.1.X.length r8.1.cap, .slice r8.2.a y6.1.Price.length r8.2.cap, .int .i64 y6.1.Cost], .int .i64 y6.2])) ?_
    refine ow_ev (ev_extract (vs := [.agg #[.slice r8.1.a y6.1.X.length r8.1.cap, .slice r8.2.a y6.1.Price.length r8.2.cap, .int .i64 y6.1.Cost], .int .i64 y6.2])) ?_
    refine ow_cons (st_alloc rfl (k := fun b9 => ?_))
    refine ow_cons (st_store_all (b := b9) (vs := [.slice r8.1.a y6.1.X.length r8.1.cap, .slice r8.2.a y6.1.Price.length r8.2.cap, .int .i64 y6.1.Cost]) (k := ?_))
    refine ow_ev ev_assign ?_
    refine ow_nil (hK3 _ _ ?_); clear hK3
    refine cw_seq fun K4 hK4 => ?_
    refine cw_region ?_
    refine ow_ev (ev_load_all (b := b5)) ?_
    obtain ⟨y10, hy11, hM⟩ := bind_some hM
    refine ow_cons (st_callF SelL.nil (fun S w hs hP => flow_Cut_spec _ w (Graph.mk lh_j1_0 lh_j1_1) (rh_j1_0, rh_j1_1) y10 hy11 (lend_lt hs) ⟨(Kn.lend (Kn.trow (e := 3) (r := rh_j1_0) (by repeat (first | exact Has.head | apply Has.tail))) hs), (Kn.lend (Kn.trow (e := 40) (r := rh_j1_1) (by repeat (first | exact Has.head | apply Has.tail))) hs)⟩) (by intro r c hc; simp only [List.mem_cons, List.not_mem_nil, or_false] at hc; rcases hc with rfl <;> first | exact flatC_own | exact flatC_trow (fun _ _ _ _ => trivial)) (fun r12 => ?_))
    dsimp only [List.cons_append, List.nil_append]
    refine ow_ev ev_move ?_
    refine ow_ev (ev_extract (vs := [.slice r12.a y10.1.length r12.cap, .bool y10.2])) ?_
    refine ow_ev (ev_extract (vs := [.slice r12.a y10.1.length r12.cap, .bool y10.2])) ?_
    refine ow_ev ev_assign ?_
    refine ow_ev ev_assign ?_
    refine ow_nil (hK4 _ _ ?_); clear hK4
    refine cw_seq fun K5 hK5 => ?_
    refine cw_seq fun K6 hK6 => ?_
    refine cw_region ?_
    refine ow_ev (ev_load_all (b := b5)) ?_
    obtain ⟨y13, hy14, hM⟩ := bind_some hM
    refine ow_cons (st_callv (fun w hm => let ⟨S, hs⟩ := hm; ref24_CheckGraph_spec _ w (Graph.mk lh_j1_0 lh_j1_1) (rh_j1_0, rh_j1_1) y13 hy14 (lend_lt hs) ⟨(Kn.lend (Kn.trow (e := 3) (r := rh_j1_0) (by repeat (first | exact Has.head | apply Has.tail))) hs), (Kn.lend (Kn.trow (e := 40) (r := rh_j1_1) (by repeat (first | exact Has.head | apply Has.tail))) hs)⟩) ?_)
    refine ow_ev ev_not ?_
    refine ow_ev ev_move ?_
    refine ow_evg rfl ev_move ?_
    refine ow_evg rfl ev_neq ?_
    refine ow_evg rfl ev_move ?_
    refine ow_evg rfl ev_move ?_
    refine ow_evg rfl ev_or ?_
    refine ow_evg rfl ev_move ?_
    refine ow_evg rfl (ev_load_all (b := b5)) ?_
    obtain ⟨y15, hy16, hM⟩ := bind_some hM
    refine ow_callg rfl (fun hg w hm => let ⟨S, hs⟩ := hm; flow_Check_spec _ w (Graph.mk lh_j1_0 lh_j1_1) (rh_j1_0, rh_j1_1) y15 (whn_some hy16 hg) (lend_lt hs) ⟨(Kn.lend (Kn.trow (e := 3) (r := rh_j1_0) (by repeat (first | exact Has.head | apply Has.tail))) hs), (Kn.lend (Kn.trow (e := 40) (r := rh_j1_1) (by repeat (first | exact Has.head | apply Has.tail))) hs)⟩) ?_
    refine ow_evg rfl ev_or ?_
    refine ow_ev ev_and ?_
    refine ow_nil (hK6 _ _ ?_); clear hK6
    refine cw_cond rfl (fun hc17 => ?_) (fun hc17 => ?_)
    ·
      replace hM := (ite_t hc17).symm.trans hM
      refine cw_seq fun K7 hK7 => ?_
      refine cw_region ?_
      refine ow_ev ev_assign ?_
      refine ow_nil (hK7 _ _ ?_); clear hK7
      obtain rfl := some_inj hM
      refine cw_ret (kw_retc1 (fun w hm => ret_of hm rfl))
    ·
      replace hM := (ite_f hc17).symm.trans hM
      refine cw_skip (hK5 _ _ ?_); clear hK5
      refine cw_seq fun K8 hK8 => ?_
      refine cw_region ?_
      refine ow_ev (ev_load_all (b := b1)) ?_
      obtain ⟨y18, hy19, hM⟩ := bind_some hM
      refine ow_cons (st_callF SelL.nil (fun S w hs hP => flow_Solve_spec _ w g0 r_g0 y18 hy19 (lend_lt hs) ⟨(Kn.lend (Kn.imm (α := List Int) (r := r_g0.1) (x := g0.Supply) (by repeat (first | exact Has.head | apply Has.tail))) hs), (Kn.lend (Kn.imm (α := List Arc) (r := r_g0.2) (x := g0.Arcs) (by repeat (first | exact Has.head | apply Has.tail))) hs)⟩) (by intro r c hc; simp only [List.mem_cons, List.not_mem_nil, or_false] at hc; rcases hc with rfl | rfl <;> first | exact flatC_own | exact flatC_trow (fun _ _ _ _ => trivial)) (fun r20 => ?_))
      dsimp only [List.cons_append, List.nil_append]
      refine ow_ev ev_move ?_
      refine ow_ev (ev_extract (vs := [.agg #[.slice r20.1.a y18.1.X.length r20.1.cap, .slice r20.2.a y18.1.Price.length r20.2.cap, .int .i64 y18.1.Cost], .int .i64 y18.2])) ?_
      refine ow_ev (ev_extract (vs := [.agg #[.slice r20.1.a y18.1.X.length r20.1.cap, .slice r20.2.a y18.1.Price.length r20.2.cap, .int .i64 y18.1.Cost], .int .i64 y18.2])) ?_
      refine ow_ev ev_assign ?_
      refine ow_nil (hK8 _ _ ?_); clear hK8
      refine cw_seq fun K9 hK9 => ?_
      refine cw_region ?_
      refine ow_ev (ev_load_all (b := b1)) ?_
      obtain ⟨y21, hy22, hM⟩ := bind_some hM
      refine ow_cons (st_callF SelL.nil (fun S w hs hP => flow_Cut_spec _ w g0 r_g0 y21 hy22 (lend_lt hs) ⟨(Kn.lend (Kn.imm (α := List Int) (r := r_g0.1) (x := g0.Supply) (by repeat (first | exact Has.head | apply Has.tail))) hs), (Kn.lend (Kn.imm (α := List Arc) (r := r_g0.2) (x := g0.Arcs) (by repeat (first | exact Has.head | apply Has.tail))) hs)⟩) (by intro r c hc; simp only [List.mem_cons, List.not_mem_nil, or_false] at hc; rcases hc with rfl <;> first | exact flatC_own | exact flatC_trow (fun _ _ _ _ => trivial)) (fun r23 => ?_))
      dsimp only [List.cons_append, List.nil_append]
      refine ow_ev ev_move ?_
      refine ow_ev (ev_extract (vs := [.slice r23.a y21.1.length r23.cap, .bool y21.2])) ?_
      refine ow_ev (ev_extract (vs := [.slice r23.a y21.1.length r23.cap, .bool y21.2])) ?_
      refine ow_ev ev_assign ?_
      refine ow_nil (hK9 _ _ ?_); clear hK9
      refine cw_seq fun K10 hK10 => ?_
      refine cw_region ?_
      obtain ⟨y24, hy25, hM⟩ := bind_some hM
      refine ow_cons (st_callv (fun w hm => let ⟨S, hs⟩ := hm; law27_awake_spec _ w  y24 hy25 (lend_lt hs) ) ?_)
      refine ow_ev ev_move ?_
      refine ow_evg rfl (ev_load_all (b := b1)) ?_
      obtain ⟨y26, hy27, hM⟩ := bind_some hM
      refine ow_callg rfl (fun hg w hm => let ⟨S, hs⟩ := hm; ref24_CheckGraph_spec _ w g0 r_g0 y26 (whn_some hy27 hg) (lend_lt hs) ⟨(Kn.lend (Kn.imm (α := List Int) (r := r_g0.1) (x := g0.Supply) (by repeat (first | exact Has.head | apply Has.tail))) hs), (Kn.lend (Kn.imm (α := List Arc) (r := r_g0.2) (x := g0.Arcs) (by repeat (first | exact Has.head | apply Has.tail))) hs)⟩) ?_
      refine ow_evg rfl ev_move ?_
      refine ow_evg rfl ev_move ?_
      refine ow_evg rfl ev_eql ?_
      refine ow_evg rfl ev_move ?_
      refine ow_evg rfl ev_move ?_
      refine ow_evg rfl ev_not ?_
      refine ow_evg rfl ev_and ?_
      refine ow_evg rfl ev_or ?_
      refine ow_ev ev_and ?_
      refine ow_ev ev_assign ?_
      refine ow_nil (hK10 _ _ ?_); clear hK10
      obtain rfl := some_inj hM
      refine cw_ret (kw_retc1 (fun w hm => ret_of hm rfl))

def law27_FlowProof_m (l0 : List Int) : Option Bool :=
  (keep2_Graph_m l0).bind fun y1 =>
  (flow_Solve_m y1).bind fun y5 =>
  (flow_Cut_m y1).bind fun y9 =>
  if decide (y5.2 = 0) then
    ((law27_awake_m).bind fun y13 =>
    (whn y13 default (ref24_VerifyFlow_m y1 y5.1)).bind fun y15 =>
    some (((y13 && y15) && (!y9.2)) && decide ((y9.1.length : Int) = 0)))
  else
    (if decide (y5.2 = 14) then
      ((law27_awake_m).bind fun y18 =>
      (whn (y18 && y9.2) default (ref24_Excess_m y1 y9.1)).bind fun y20 =>
      some (((y18 && y9.2) && decide (0 < y20)) && decide ((y5.1.X.length : Int) = 0)))
    else
      (some false))
theorem law27_FlowProof_spec (S : Soup) (w : World) (l0 : List Int) (r_l0 : GoRep.R (List Int)) (y : Bool) (hM : law27_FlowProof_m l0 = some y) (hS : ∀ k, S k → k < w.heap.size) (h_l0 : GoRep.ok S w r_l0 l0) :
    Calls Try.prog 10 #[.slice r_l0.a l0.length r_l0.cap] w (Ret w (.bool y)) := by
  refine calls_cw (args := [_]) Try.func10 rfl ((pre_nil hS).start |>.immP (α := List Int) (r := r_l0) (x := l0) h_l0) rfl ?_
  unfold law27_FlowProof_m at hM
  refine cw_seq fun K1 hK1 => ?_
  refine cw_region ?_
  refine ow_ev ev_assign ?_
  refine ow_nil (hK1 _ _ ?_); clear hK1
  refine cw_seq fun K2 hK2 => ?_
  refine cw_region ?_
  refine ow_ev ev_move ?_
  obtain ⟨y1, hy2, hM⟩ := bind_some hM
  refine ow_cons (st_callF SelL.nil (fun S w hs hP => keep2_Graph_spec _ w l0 r_l0 y1 hy2 (lend_lt hs) (Kn.lend (Kn.imm (α := List Int) (r := r_l0) (x := l0) (by repeat (first | exact Has.head | apply Has.tail))) hs)) (by intro r c hc; simp only [List.mem_cons, List.not_mem_nil, or_false] at hc; rcases hc with rfl | rfl <;> first | exact flatC_own | exact flatC_trow (fun _ _ _ _ => trivial)) (fun r3 => ?_))
  dsimp only [List.cons_append, List.nil_append]
  refine ow_cons (st_alloc rfl (k := fun b4 => ?_))
  refine ow_cons (st_store_all (b := b4) (vs := [.slice r3.1.a y1.Supply.length r3.1.cap, .slice r3.2.a y1.Arcs.length r3.2.cap]) (k := ?_))
  refine ow_nil (hK2 _ _ ?_); clear hK2
  refine cw_seq fun K3 hK3 => ?_
  refine cw_region ?_
  refine ow_ev (ev_load_all (b := b4)) ?_
  obtain ⟨y5, hy6, hM⟩ := bind_some hM
  refine ow_cons (st_callF SelL.nil (fun S w hs hP => flow_Solve_spec _ w y1 r3 y5 hy6 (lend_lt hs) ⟨(Kn.lend (Kn.trow (e := 3) (r := r3.1) (by repeat (first | exact Has.head | apply Has.tail))) hs), (Kn.lend (Kn.trow (e := 40) (r := r3.2) (by repeat (first | exact Has.head | apply Has.tail))) hs)⟩) (by intro r c hc; simp only [List.mem_cons, List.not_mem_nil, or_false] at hc; rcases hc with rfl | rfl <;> first | exact flatC_own | exact flatC_trow (fun _ _ _ _ => trivial)) (fun r7 => ?_))
  dsimp only [List.cons_append, List.nil_append]
  refine ow_ev ev_move ?_
  refine ow_ev (ev_extract (vs := [.agg #[.slice r7.1.a y5.1.X.length r7.1.cap, .slice r7.2.a y5.1.Price.length r7.2.cap, .int .i64 y5.1.Cost], .int .i64 y5.2])) ?_
  refine ow_ev (ev_extract (vs := [.agg #[.slice r7.1.a y5.1.X.length r7.1.cap, .slice r7.2.a y5.1.Price.length r7.2.cap, .int .i64 y5.1.Cost], .int .i64 y5.2])) ?_
  refine ow_cons (st_alloc rfl (k := fun b8 => ?_))
  refine ow_cons (st_store_all (b := b8) (vs := [.slice r7.1.a y5.1.X.length r7.1.cap, .slice r7.2.a y5.1.Price.length r7.2.cap, .int .i64 y5.1.Cost]) (k := ?_))
  refine ow_ev ev_assign ?_
  refine ow_nil (hK3 _ _ ?_); clear hK3
  refine cw_seq fun K4 hK4 => ?_
  refine cw_region ?_
  refine ow_ev (ev_load_all (b := b4)) ?_
  obtain ⟨y9, hy10, hM⟩ := bind_some hM
  refine ow_cons (st_callF SelL.nil (fun S w hs hP => flow_Cut_spec _ w y1 r3 y9 hy10 (lend_lt hs) ⟨(Kn.lend (Kn.trow (e := 3) (r := r3.1) (by repeat (first | exact Has.head | apply Has.tail))) hs), (Kn.lend (Kn.trow (e := 40) (r := r3.2) (by repeat (first | exact Has.head | apply Has.tail))) hs)⟩) (by intro r c hc; simp only [List.mem_cons, List.not_mem_nil, or_false] at hc; rcases hc with rfl <;> first | exact flatC_own | exact flatC_trow (fun _ _ _ _ => trivial)) (fun r11 => ?_))
  dsimp only [List.cons_append, List.nil_append]
  refine ow_ev ev_move ?_
  refine ow_ev (ev_extract (vs := [.slice r11.a y9.1.length r11.cap, .bool y9.2])) ?_
  refine ow_ev (ev_extract (vs := [.slice r11.a y9.1.length r11.cap, .bool y9.2])) ?_
  refine ow_ev ev_assign ?_
  refine ow_ev ev_assign ?_
  refine ow_nil (hK4 _ _ ?_); clear hK4
  refine cw_seq fun K5 hK5 => ?_
  refine cw_seq fun K6 hK6 => ?_
  refine cw_region ?_
  refine ow_ev ev_move ?_
  refine ow_nil (hK6 _ _ ?_); clear hK6
  refine cw_block ?_
  refine cw_seq fun K7 hK7 => ?_
  refine cw_region ?_
  refine ow_ev ev_eql ?_
  refine ow_ev ev_assign ?_
  refine ow_nil (hK7 _ _ ?_); clear hK7
  refine cw_cond rfl (fun hc12 => ?_) (fun hc12 => ?_)
  ·
    replace hM := (ite_t hc12).symm.trans hM
    refine cw_seq fun K8 hK8 => ?_
    refine cw_region ?_
    obtain ⟨y13, hy14, hM⟩ := bind_some hM
    refine ow_cons (st_callv (fun w hm => let ⟨S, hs⟩ := hm; law27_awake_spec _ w  y13 hy14 (lend_lt hs) ) ?_)
    refine ow_ev ev_move ?_
    refine ow_evg rfl (ev_load_all (b := b4)) ?_
    refine ow_evg rfl (ev_load_all (b := b8)) ?_
    obtain ⟨y15, hy16, hM⟩ := bind_some hM
    refine ow_callg rfl (fun hg w hm => let ⟨S, hs⟩ := hm; ref24_VerifyFlow_spec _ w y1 r3 y5.1 r7 y15 (whn_some hy16 hg) (lend_lt hs) ⟨(Kn.lend (Kn.trow (e := 3) (r := r3.1) (by repeat (first | exact Has.head | apply Has.tail))) hs), (Kn.lend (Kn.trow (e := 40) (r := r3.2) (by repeat (first | exact Has.head | apply Has.tail))) hs)⟩ ⟨(Kn.lend (Kn.trow (e := 3) (r := r7.1) (by repeat (first | exact Has.head | apply Has.tail))) hs), (Kn.lend (Kn.trow (e := 3) (r := r7.2) (by repeat (first | exact Has.head | apply Has.tail))) hs)⟩) ?_
    refine ow_ev ev_and ?_
    refine ow_ev ev_move ?_
    refine ow_evg rfl ev_move ?_
    refine ow_evg rfl ev_not ?_
    refine ow_ev ev_and ?_
    refine ow_ev ev_move ?_
    refine ow_evg rfl ev_move ?_
    refine ow_evg rfl ev_len ?_
    refine ow_evg rfl ev_eql ?_
    refine ow_ev ev_and ?_
    refine ow_ev ev_assign ?_
    refine ow_nil (hK8 _ _ ?_); clear hK8
    obtain rfl := some_inj hM
    refine cw_ret (kw_retc1 (fun w hm => ret_of hm rfl))
  ·
    replace hM := (ite_f hc12).symm.trans hM
    refine cw_seq fun K9 hK9 => ?_
    refine cw_region ?_
    refine ow_ev ev_eql ?_
    refine ow_ev ev_assign ?_
    refine ow_nil (hK9 _ _ ?_); clear hK9
    refine cw_cond rfl (fun hc17 => ?_) (fun hc17 => ?_)
    ·
      replace hM := (ite_t hc17).symm.trans hM
      refine cw_seq fun K10 hK10 => ?_
      refine cw_region ?_
      obtain ⟨y18, hy19, hM⟩ := bind_some hM
      refine ow_cons (st_callv (fun w hm => let ⟨S, hs⟩ := hm; law27_awake_spec _ w  y18 hy19 (lend_lt hs) ) ?_)
      refine ow_ev ev_move ?_
      refine ow_evg rfl ev_move ?_
      refine ow_ev ev_and ?_
      refine ow_ev ev_move ?_
      refine ow_evg rfl (ev_load_all (b := b4)) ?_
      refine ow_evg rfl ev_move ?_
      obtain ⟨y20, hy21, hM⟩ := bind_some hM
      refine ow_callg rfl (fun hg w hm => let ⟨S, hs⟩ := hm; ref24_Excess_spec _ w y1 r3 y9.1 r11 y20 (whn_some hy21 hg) (lend_lt hs) ⟨(Kn.lend (Kn.trow (e := 3) (r := r3.1) (by repeat (first | exact Has.head | apply Has.tail))) hs), (Kn.lend (Kn.trow (e := 40) (r := r3.2) (by repeat (first | exact Has.head | apply Has.tail))) hs)⟩ (Kn.lend (Kn.trow (e := 3) (r := r11) (by repeat (first | exact Has.head | apply Has.tail))) hs)) ?_
      refine ow_evg rfl ev_gtr ?_
      refine ow_ev ev_and ?_
      refine ow_ev ev_move ?_
      refine ow_evg rfl (ev_field_addr 0) ?_
      refine ow_evg rfl (ev_load_own (b := b8)) ?_
      refine ow_evg rfl ev_len ?_
      refine ow_evg rfl ev_eql ?_
      refine ow_ev ev_and ?_
      refine ow_ev ev_assign ?_
      refine ow_nil (hK10 _ _ ?_); clear hK10
      obtain rfl := some_inj hM
      refine cw_ret (kw_retc1 (fun w hm => ret_of hm rfl))
    ·
      replace hM := (ite_f hc17).symm.trans hM
      refine cw_skip (hK5 _ _ ?_); clear hK5
      refine cw_seq fun K11 hK11 => ?_
      refine cw_region ?_
      refine ow_ev ev_assign ?_
      refine ow_nil (hK11 _ _ ?_); clear hK11
      obtain rfl := some_inj hM
      refine cw_ret (kw_retc1 (fun w hm => ret_of hm rfl))

end Go.Proofs.Ytedocibniankjaa
