/- Models of functions, and that the code computes them. -/
import Derived.Test.YtedocibniankjaaCc
namespace Go.Proofs.Ytedocibniankjaa
open Go.Dc Go.RowKit
set_option maxRecDepth 10000
set_option linter.unusedVariables false
def law28_CirculationVerify_k1 (y2 : (List Task) × Rules) (next0 : List Int) (c0 : Cover) : ((List Int) × (List Int) × (List Int)) → Option Bool := fun (lmade_j1, lcover_j1_0, lcover_j1_1) =>
  (circulation_Empty_m y2.1 y2.2 lmade_j1).bind fun y14 =>
  (ref24_EmptySeconds_m y2.1 y2.2 lmade_j1).bind fun y16 =>
  (circulation_Empty_m y2.1 y2.2 next0).bind fun y18 =>
  (ref24_EmptySeconds_m y2.1 y2.2 next0).bind fun y20 =>
  (law28_awake_m).bind fun y22 =>
  (whn y22 default (circulation_Verify_m y2.1 y2.2 lmade_j1 (Cover.mk lcover_j1_0 lcover_j1_1))).bind fun y24 =>
  (whn y22 default (ref24_VerifyCover_m y2.1 y2.2 lmade_j1 (Cover.mk lcover_j1_0 lcover_j1_1))).bind fun y26 =>
  (whn (y22 && (y24 == y26)) default (circulation_Verify_m y2.1 y2.2 next0 c0)).bind fun y28 =>
  (whn (y22 && (y24 == y26)) default (ref24_VerifyCover_m y2.1 y2.2 next0 c0)).bind fun y30 =>
  some ((((((y22 && (y24 == y26)) && (y28 == y30)) && decide (y14.1 = y16.1)) && decide (y14.2 = y16.2)) && decide (y18.1 = y20.1)) && decide (y18.2 = y20.2))
def law28_CirculationVerify_m (l0 : List Int) (next0 : List Int) (c0 : Cover) (how0 : Int) (at0 : Int) (v0 : Int) : Option Bool :=
  (keep2_Tasks_m l0).bind fun y2 =>
  (circulation_Build_m y2.1 y2.2).bind fun y6 =>
  if (decide (y6.2.2 ≠ 0) || decide ((y6.1.length : Int) ≠ (y2.1.length : Int))) then
    (some false)
  else
    (chk (decide ((([] : List Int).length + y6.1.length) * 8 ≤ 140737488355328)) <|
    (keep_Pick_m how0 4).bind fun y32 =>
    if decide (y32 = 0) then
      (if decide (0 < ((([] : List Int) ++ y6.1).length : Int)) then
        ((keep_Pick_m at0 ((([] : List Int) ++ y6.1).length : Int)).bind fun y36 =>
        chk (i64b (((([] : List Int) ++ y6.1).length : Int) + 2)) <|
        (keep_Pick_m v0 (((([] : List Int) ++ y6.1).length : Int) + 2)).bind fun y39 =>
        chk (i64b (y39 - 2)) <|
        (idx (([] : List Int) ++ y6.1) y36).bind fun x42 =>
        law28_CirculationVerify_k1 y2 next0 c0 (((([] : List Int) ++ y6.1).set y36.toNat (y39 - 2)), y6.2.1.Left, y6.2.1.Right))
      else
        (law28_CirculationVerify_k1 y2 next0 c0 ((([] : List Int) ++ y6.1), y6.2.1.Left, y6.2.1.Right)))
    else
      (if decide (y32 = 1) then
        (chk (decide ((([] : List Int).length + y6.2.1.Left.length) * 8 ≤ 140737488355328)) <|
        (keep_Pick_m v0 6).bind fun y48 =>
        chk (decide (((([] : List Int) ++ y6.2.1.Left).length + ([y48] : List Int).length) * 8 ≤ 140737488355328)) <|
        law28_CirculationVerify_k1 y2 next0 c0 ((([] : List Int) ++ y6.1), ((([] : List Int) ++ y6.2.1.Left) ++ ([y48] : List Int)), y6.2.1.Right))
      else
        (if decide (y32 = 2) then
          (chk (i64b ((y6.2.1.Right.length : Int) - 1)) <|
          (sub y6.2.1.Right 0 (if ((y6.2.1.Right.length : Int) - 1) > 0 then ((y6.2.1.Right.length : Int) - 1) else 0)).bind fun l55 =>
          law28_CirculationVerify_k1 y2 next0 c0 ((([] : List Int) ++ y6.1), y6.2.1.Left, l55))
        else
          (law28_CirculationVerify_k1 y2 next0 c0 ((([] : List Int) ++ y6.1), y6.2.1.Right, y6.2.1.Left)))))
theorem law28_CirculationVerify_spec (S : Soup) (w : World) (l0 : List Int) (r_l0 : GoRep.R (List Int)) (next0 : List Int) (r_next0 : GoRep.R (List Int)) (c0 : Cover) (r_c0 : GoRep.R Cover) (how0 : Int) (at0 : Int) (v0 : Int) (y : Bool) (hM : law28_CirculationVerify_m l0 next0 c0 how0 at0 v0 = some y) (hS : ∀ k, S k → k < w.heap.size) (h_l0 : GoRep.ok S w r_l0 l0) (h_next0 : GoRep.ok S w r_next0 next0) (h_c0 : GoRep.ok S w r_c0 c0) :
    Calls Try.prog 18 #[.slice r_l0.a l0.length r_l0.cap, .slice r_next0.a next0.length r_next0.cap, .agg #[.slice r_c0.1.a c0.Left.length r_c0.1.cap, .slice r_c0.2.a c0.Right.length r_c0.2.cap], .int .i64 how0, .int .i64 at0, .int .i64 v0] w (Ret w (.bool y)) := by
  refine calls_cw (args := [_, _, _, _, _, _]) Try.func18 rfl ((pre_nil hS).start |>.immP (α := List Int) (r := r_l0) (x := l0) h_l0|>.immP (α := List Int) (r := r_next0) (x := next0) h_next0|>.immP (α := List Int) (r := r_c0.1) (x := c0.Left) h_c0.1|>.immP (α := List Int) (r := r_c0.2) (x := c0.Right) h_c0.2) rfl ?_
  unfold law28_CirculationVerify_m at hM
  refine cw_seq fun K1 hK1 => ?_
  refine cw_region ?_
  refine ow_cons (st_box (l := [.slice r_c0.1.a c0.Left.length r_c0.1.cap, .slice r_c0.2.a c0.Right.length r_c0.2.cap]) (k := fun b1 => ?_))
  refine ow_ev ev_assign ?_
  refine ow_nil (hK1 _ _ ?_); clear hK1
  refine cw_seq fun K2 hK2 => ?_
  refine cw_region ?_
  refine ow_ev ev_move ?_
  obtain ⟨y2, hy3, hM⟩ := bind_some hM
  refine ow_cons (st_callF SelL.nil (fun S w hs hP => keep2_Tasks_spec _ w l0 r_l0 y2 hy3 (lend_lt hs) (Kn.lend (Kn.imm (α := List Int) (r := r_l0) (x := l0) (by repeat (first | exact Has.head | apply Has.tail))) hs)) (by intro r c hc; simp only [List.mem_cons, List.not_mem_nil, or_false] at hc; rcases hc with rfl | rfl | rfl <;> first | exact flatC_own | exact flatC_trow (fun _ _ _ _ => trivial)) (fun r4 => ?_))
  dsimp only [List.cons_append, List.nil_append]
  refine ow_ev ev_move ?_
  refine ow_ev (ev_extract (vs := [.slice r4.1.a y2.1.length r4.1.cap, .agg #[.int .i64 y2.2.Turn, .slice r4.2.1.a y2.2.Empties.length r4.2.1.cap, .slice r4.2.2.a y2.2.Shops.length r4.2.2.cap, .int .i64 y2.2.Service, .int .i64 y2.2.Limit]])) ?_
  refine ow_ev (ev_extract (vs := [.slice r4.1.a y2.1.length r4.1.cap, .agg #[.int .i64 y2.2.Turn, .slice r4.2.1.a y2.2.Empties.length r4.2.1.cap, .slice r4.2.2.a y2.2.Shops.length r4.2.2.cap, .int .i64 y2.2.Service, .int .i64 y2.2.Limit]])) ?_
  refine ow_cons (st_alloc rfl (k := fun b5 => ?_))
  refine ow_ev ev_assign ?_
  refine ow_cons (st_store_all (b := b5) (vs := [.int .i64 y2.2.Turn, .slice r4.2.1.a y2.2.Empties.length r4.2.1.cap, .slice r4.2.2.a y2.2.Shops.length r4.2.2.cap, .int .i64 y2.2.Service, .int .i64 y2.2.Limit]) (k := ?_))
  refine ow_nil (hK2 _ _ ?_); clear hK2
  refine cw_seq fun K3 hK3 => ?_
  refine cw_region ?_
  refine ow_ev ev_move ?_
  refine ow_ev (ev_load_all (b := b5)) ?_
  obtain ⟨y6, hy7, hM⟩ := bind_some hM
  refine ow_cons (st_callF SelL.nil (fun S w hs hP => circulation_Build_spec _ w y2.1 r4.1 y2.2 r4.2 y6 hy7 (lend_lt hs) (Kn.lend (Kn.trow (e := 60) (r := r4.1) (by repeat (first | exact Has.head | apply Has.tail))) hs) ⟨(Kn.lend (Kn.trow (e := 58) (r := r4.2.1) (by repeat (first | exact Has.head | apply Has.tail))) hs), (Kn.lend (Kn.trow (e := 3) (r := r4.2.2) (by repeat (first | exact Has.head | apply Has.tail))) hs)⟩) (by intro r c hc; simp only [List.mem_cons, List.not_mem_nil, or_false] at hc; rcases hc with rfl | rfl | rfl <;> first | exact flatC_own | exact flatC_trow (fun _ _ _ _ => trivial)) (fun r8 => ?_))
  dsimp only [List.cons_append, List.nil_append]
  refine ow_ev ev_move ?_
  refine ow_ev (ev_extract (vs := [.slice r8.1.a y6.1.length r8.1.cap, .agg #[.slice r8.2.1.a y6.2.1.Left.length r8.2.1.cap, .slice r8.2.2.a y6.2.1.Right.length r8.2.2.cap], .int .i64 y6.2.2])) ?_
  refine ow_ev (ev_extract (vs := [.slice r8.1.a y6.1.length r8.1.cap, .agg #[.slice r8.2.1.a y6.2.1.Left.length r8.2.1.cap, .slice r8.2.2.a y6.2.1.Right.length r8.2.2.cap], .int .i64 y6.2.2])) ?_
  refine ow_ev (ev_extract (vs := [.slice r8.1.a y6.1.length r8.1.cap, .agg #[.slice r8.2.1.a y6.2.1.Left.length r8.2.1.cap, .slice r8.2.2.a y6.2.1.Right.length r8.2.2.cap], .int .i64 y6.2.2])) ?_
  refine ow_cons (st_alloc rfl (k := fun b9 => ?_))
  refine ow_ev ev_assign ?_
  refine ow_cons (st_store_all (b := b9) (vs := [.slice r8.2.1.a y6.2.1.Left.length r8.2.1.cap, .slice r8.2.2.a y6.2.1.Right.length r8.2.2.cap]) (k := ?_))
  refine ow_ev ev_assign ?_
  refine ow_nil (hK3 _ _ ?_); clear hK3
  refine cw_seq fun K4 hK4 => ?_
  refine cw_seq fun K5 hK5 => ?_
  refine cw_region ?_
  refine ow_ev ev_move ?_
  refine ow_ev ev_neq ?_
  refine ow_ev ev_move ?_
  refine ow_evg rfl ev_move ?_
  refine ow_evg rfl ev_len ?_
  refine ow_evg rfl ev_move ?_
  refine ow_evg rfl ev_len ?_
  refine ow_evg rfl ev_neq ?_
  refine ow_ev ev_or ?_
  refine ow_nil (hK5 _ _ ?_); clear hK5
  refine cw_cond rfl (fun hc10 => ?_) (fun hc10 => ?_)
  ·
    replace hM := (ite_t hc10).symm.trans hM
    refine cw_seq fun K6 hK6 => ?_
    refine cw_region ?_
    refine ow_ev ev_assign ?_
    refine ow_nil (hK6 _ _ ?_); clear hK6
    obtain rfl := some_inj hM
    refine cw_ret (kw_retc1 (fun w hm => ret_of hm rfl))
  ·
    replace hM := (ite_f hc10).symm.trans hM
    refine cw_skip (hK4 _ _ ?_); clear hK4
    refine cw_seq fun K7 hK7 => ?_
    refine cw_region ?_
    refine ow_ev ev_move ?_
    refine ow_imp (fun w hm => hm.row_nil (α := Int) 3 (fun _ => ())) ?_
    obtain ⟨hb12, hM⟩ := chk_some hM
    refine ow_cons (st_append (r := (⟨none, 0, (fun _ => ())⟩ : SR (GoRep.R Int) )) (r2 := r8.1) (by intro r'; repeat (first | exact Upd.head | apply Upd.tail)) (Kn.trow (e := 3) (r := r8.1) (by repeat (first | exact Has.head | apply Has.tail))) (OkL.flat (fun _ _ _ _ => trivial)) (of_decide_eq_true hb12) (fun r13 => ?_))
    refine ow_ev ev_assign ?_
    refine ow_nil (hK7 _ _ ?_); clear hK7
    refine cw_cut (γ := ((List Int) × (List Int) × (List Int)) × ((SR (GoRep.R Int)) × (SR (GoRep.R Int)))) (env := fun ((lmade_j1, lcover_j1_0, lcover_j1_1), (rcover_j1_0, rcover_j1_1)) => [(1, .v (.slice r_next0.a next0.length r_next0.cap)), (8, .v (.pointer (some ⟨b1, 0, none⟩))), (13, .v (.slice r4.1.a y2.1.length r4.1.cap)), (14, .v (.pointer (some ⟨b5, 0, none⟩))), (15, .v (.slice r13.a lmade_j1.length r13.cap)), (16, .v (.pointer (some ⟨b9, 0, none⟩)))]) (mem := fun ((lmade_j1, lcover_j1_0, lcover_j1_1), (rcover_j1_0, rcover_j1_1)) => [imm (α := (List Int)) r_next0 next0, imm (α := (List Int)) r_c0.1 c0.Left, imm (α := (List Int)) r_c0.2 c0.Right, own b1 72 [.slice r_c0.1.a c0.Left.length r_c0.1.cap, .slice r_c0.2.a c0.Right.length r_c0.2.cap], trow 60 r4.1 y2.1, trow 58 r4.2.1 y2.2.Empties, trow 3 r4.2.2 y2.2.Shops, own b5 53 [.int .i64 y2.2.Turn, .slice r4.2.1.a y2.2.Empties.length r4.2.1.cap, .slice r4.2.2.a y2.2.Shops.length r4.2.2.cap, .int .i64 y2.2.Service, .int .i64 y2.2.Limit], trow 3 r13 lmade_j1, trow 3 rcover_j1_0 lcover_j1_0, imm (α := (List Int)) rcover_j1_1 lcover_j1_1, own b9 72 [.slice rcover_j1_0.a lcover_j1_0.length rcover_j1_0.cap, .slice rcover_j1_1.a lcover_j1_1.length rcover_j1_1.cap]]) (R := fun g => law28_CirculationVerify_k1 y2 next0 c0 g.1 = some y) ?_ ?_
    · intro KJ1 hJ1
      refine cw_seq fun K13 hK13 => ?_
      refine cw_region ?_
      refine ow_ev ev_move ?_
      obtain ⟨y32, hy33, hM⟩ := bind_some hM
      refine ow_cons (st_callv (fun w hm => let ⟨S, hs⟩ := hm; keep_Pick_spec _ w how0 4 y32 hy33 (lend_lt hs) ) ?_)
      refine ow_nil (hK13 _ _ ?_); clear hK13
      refine cw_block ?_
      refine cw_seq fun K14 hK14 => ?_
      refine cw_region ?_
      refine ow_ev ev_eql ?_
      refine ow_ev ev_assign ?_
      refine ow_nil (hK14 _ _ ?_); clear hK14
      refine cw_cond rfl (fun hc34 => ?_) (fun hc34 => ?_)
      ·
        replace hM := (ite_t hc34).symm.trans hM
        refine cw_seq fun K15 hK15 => ?_
        refine cw_region ?_
        refine ow_ev ev_move ?_
        refine ow_ev ev_len ?_
        refine ow_ev ev_gtr ?_
        refine ow_nil (hK15 _ _ ?_); clear hK15
        refine cw_cond rfl (fun hc35 => ?_) (fun hc35 => ?_)
        ·
          replace hM := (ite_t hc35).symm.trans hM
          refine cw_region ?_
          refine ow_ev ev_move ?_
          refine ow_ev ev_move ?_
          refine ow_ev ev_move ?_
          refine ow_ev ev_len ?_
          obtain ⟨y36, hy37, hM⟩ := bind_some hM
          refine ow_cons (st_callv (fun w hm => let ⟨S, hs⟩ := hm; keep_Pick_spec _ w at0 ((([] : List Int) ++ y6.1).length : Int) y36 hy37 (lend_lt hs) ) ?_)
          refine ow_ev ev_move ?_
          refine ow_ev ev_move ?_
          refine ow_ev ev_len ?_
          obtain ⟨hI38, hM⟩ := chk_some hM
          refine ow_ev (ev_add (hr := fun hg => i64b_I64 hI38)) ?_
          obtain ⟨y39, hy40, hM⟩ := bind_some hM
          refine ow_cons (st_callv (fun w hm => let ⟨S, hs⟩ := hm; keep_Pick_spec _ w v0 (((([] : List Int) ++ y6.1).length : Int) + 2) y39 hy40 (lend_lt hs) ) ?_)
          obtain ⟨hI41, hM⟩ := chk_some hM
          refine ow_ev (ev_sub (hr := fun hg => i64b_I64 hI41)) ?_
          obtain ⟨x42, hx43, hM⟩ := bind_some hM
          refine ow_ev (ev_idx (xs := (([] : List Int) ++ y6.1)) 1 (Kn.trow (e := 3) (r := r13) (by repeat (first | exact Has.head | apply Has.tail))) (fun hg => let h := idx_some hx43; ⟨h.1, h.2.1⟩)) ?_
          refine ow_cons (st_set (r := r13) (i := y36) (xs := (([] : List Int) ++ y6.1)) (u := x42) (vs := [.int .i64 (y39 - 2)]) 0 (y39 - 2) hx43 rfl (fun _ _ h => h) (by repeat (first | exact Upd.head | apply Upd.tail)) ?_)
          refine ow_imp (fun w hm => hm.freeze (r := r8.2.2) (by repeat (first | exact Upd.head | apply Upd.tail))) ?_
          refine ow_nil (hJ1 ((((([] : List Int) ++ y6.1).set y36.toNat (y39 - 2)), y6.2.1.Left, y6.2.1.Right), (r8.2.1, r8.2.2)) _ _ hM ⟨rfl, rfl, rfl, rfl, (by simp only [List.length_set]; rfl), rfl, trivial⟩ (fun w hm => hm.reord))
        ·
          replace hM := (ite_f hc35).symm.trans hM
          refine cw_imp (fun w hm => hm.freeze (r := r8.2.2) (by repeat (first | exact Upd.head | apply Upd.tail))) ?_
          refine cw_skip (hJ1 (((([] : List Int) ++ y6.1), y6.2.1.Left, y6.2.1.Right), (r8.2.1, r8.2.2)) _ _ hM ⟨rfl, rfl, rfl, rfl, rfl, rfl, trivial⟩ (fun w hm => hm.reord))
      ·
        replace hM := (ite_f hc34).symm.trans hM
        refine cw_seq fun K16 hK16 => ?_
        refine cw_region ?_
        refine ow_ev ev_eql ?_
        refine ow_ev ev_assign ?_
        refine ow_nil (hK16 _ _ ?_); clear hK16
        refine cw_cond rfl (fun hc44 => ?_) (fun hc44 => ?_)
        ·
          replace hM := (ite_t hc44).symm.trans hM
          refine cw_region ?_
          refine ow_ev (ev_field_addr 0) ?_
          refine ow_ev (ev_load_own (b := b9)) ?_
          refine ow_imp (fun w hm => hm.row_nil (α := Int) 3 (fun _ => ())) ?_
          obtain ⟨hb46, hM⟩ := chk_some hM
          refine ow_cons (st_append (r := (⟨none, 0, (fun _ => ())⟩ : SR (GoRep.R Int)   )) (r2 := r8.2.1) (by intro r'; repeat (first | exact Upd.head | apply Upd.tail)) (Kn.trow (e := 3) (r := r8.2.1) (by repeat (first | exact Has.head | apply Has.tail))) (OkL.flat (fun _ _ _ _ => trivial)) (of_decide_eq_true hb46) (fun r47 => ?_))
          refine ow_ev ev_move ?_
          obtain ⟨y48, hy49, hM⟩ := bind_some hM
          refine ow_cons (st_callv (fun w hm => let ⟨S, hs⟩ := hm; keep_Pick_spec _ w v0 6 y48 hy49 (lend_lt hs) ) ?_)
          refine ow_cons (st_bslice (α := Int) 3 (fun _ => ()) ([y48] : List Int) (OkL.flat (fun _ _ _ _ => trivial)) (fun r50 => ?_))
          obtain ⟨hb51, hM⟩ := chk_some hM
          refine ow_cons (st_append (r := r47) (r2 := r50) (by intro r'; repeat (first | exact Upd.head | apply Upd.tail)) (Kn.trow (e := 3) (r := r50) (by repeat (first | exact Has.head | apply Has.tail))) (OkL.flat (fun _ _ _ _ => trivial)) (of_decide_eq_true hb51) (fun r52 => ?_))
          refine ow_ev (ev_field_addr 0) ?_
          refine ow_cons (st_store_own (b := b9) (l' := [.slice r52.a (((([] : List Int) ++ y6.2.1.Left) ++ ([y48] : List Int)).length) r52.cap, .slice r8.2.2.a y6.2.1.Right.length r8.2.2.cap]) (k := ?_))
          refine ow_imp (fun w hm => hm.freeze (r := r8.2.2) (by repeat (first | exact Upd.head | apply Upd.tail))) ?_
          refine ow_nil (hJ1 (((([] : List Int) ++ y6.1), ((([] : List Int) ++ y6.2.1.Left) ++ ([y48] : List Int)), y6.2.1.Right), (r52, r8.2.2)) _ _ hM ⟨rfl, rfl, rfl, rfl, rfl, rfl, trivial⟩ (fun w hm => hm.reord))
        ·
          replace hM := (ite_f hc44).symm.trans hM
          refine cw_seq fun K17 hK17 => ?_
          refine cw_region ?_
          refine ow_ev ev_eql ?_
          refine ow_ev ev_assign ?_
          refine ow_nil (hK17 _ _ ?_); clear hK17
          refine cw_cond rfl (fun hc53 => ?_) (fun hc53 => ?_)
          ·
            replace hM := (ite_t hc53).symm.trans hM
            refine cw_region ?_
            refine ow_ev (ev_field_addr 1) ?_
            refine ow_ev (ev_load_own (b := b9)) ?_
            refine ow_ev (ev_field_addr 1) ?_
            refine ow_ev (ev_load_own (b := b9)) ?_
            refine ow_ev ev_len ?_
            obtain ⟨hI54, hM⟩ := chk_some hM
            refine ow_ev (ev_sub (hr := fun hg => i64b_I64 hI54)) ?_
            refine ow_ev ev_max2 ?_
            obtain ⟨l55, hl56, hM⟩ := bind_some hM
            refine ow_imp (fun w hm => hm.freeze (r := r8.2.2) (by repeat (first | exact Upd.head | apply Upd.tail))) ?_
            refine ow_cons (st_sub (r := r8.2.2) (xs := y6.2.1.Right) (ol := none) (oh := some (.i64, (if ((y6.2.1.Right.length : Int) - 1) > 0 then ((y6.2.1.Right.length : Int) - 1) else 0))) (Sk.imm (α := List Int) (r := r8.2.2) (x := y6.2.1.Right) (by repeat (first | exact Has.head | apply Has.tail))) hl56 (fun r57 => ?_))
            refine ow_ev (ev_field_addr 1) ?_
            refine ow_cons (st_store_own (b := b9) (l' := [.slice r8.2.1.a y6.2.1.Left.length r8.2.1.cap, .slice r57.a l55.length r57.cap]) (k := ?_))
            refine ow_nil (hJ1 (((([] : List Int) ++ y6.1), y6.2.1.Left, l55), (r8.2.1, r57)) _ _ hM ⟨rfl, rfl, rfl, rfl, rfl, rfl, trivial⟩ (fun w hm => hm.reord))
          ·
            replace hM := (ite_f hc53).symm.trans hM
            refine cw_region ?_
            refine ow_ev (ev_field_addr 1) ?_
            refine ow_ev (ev_load_own (b := b9)) ?_
            refine ow_ev (ev_field_addr 0) ?_
            refine ow_ev (ev_load_own (b := b9)) ?_
            refine ow_ev (ev_field_addr 0) ?_
            refine ow_cons (st_store_own (b := b9) (l' := [.slice r8.2.2.a y6.2.1.Right.length r8.2.2.cap, .slice r8.2.2.a y6.2.1.Right.length r8.2.2.cap]) (k := ?_))
            refine ow_ev (ev_field_addr 1) ?_
            refine ow_cons (st_store_own (b := b9) (l' := [.slice r8.2.2.a y6.2.1.Right.length r8.2.2.cap, .slice r8.2.1.a y6.2.1.Left.length r8.2.1.cap]) (k := ?_))
            refine ow_imp (fun w hm => hm.freeze (r := r8.2.1) (by repeat (first | exact Upd.head | apply Upd.tail))) ?_
            refine ow_nil (hJ1 (((([] : List Int) ++ y6.1), y6.2.1.Right, y6.2.1.Left), (r8.2.2, r8.2.1)) _ _ hM ⟨rfl, rfl, rfl, rfl, rfl, rfl, trivial⟩ (fun w hm => hm.reord))
    ·
      clear hM
      intro g hM
      obtain ⟨⟨lmade_j1, lcover_j1_0, lcover_j1_1⟩, ⟨rcover_j1_0, rcover_j1_1⟩⟩ := g
      dsimp only at hM ⊢
      dsimp only [law28_CirculationVerify_k1] at hM
      refine cw_seq fun K8 hK8 => ?_
      refine cw_region ?_
      refine ow_ev ev_move ?_
      refine ow_ev (ev_load_all (b := b5)) ?_
      refine ow_ev ev_move ?_
      obtain ⟨y14, hy15, hM⟩ := bind_some hM
      refine ow_cons (st_callv (fun w hm => let ⟨S, hs⟩ := hm; circulation_Empty_spec _ w y2.1 r4.1 y2.2 r4.2 lmade_j1 r13 y14 hy15 (lend_lt hs) (Kn.lend (Kn.trow (e := 60) (r := r4.1) (by repeat (first | exact Has.head | apply Has.tail))) hs) ⟨(Kn.lend (Kn.trow (e := 58) (r := r4.2.1) (by repeat (first | exact Has.head | apply Has.tail))) hs), (Kn.lend (Kn.trow (e := 3) (r := r4.2.2) (by repeat (first | exact Has.head | apply Has.tail))) hs)⟩ (Kn.lend (Kn.trow (e := 3) (r := r13) (by repeat (first | exact Has.head | apply Has.tail))) hs)) ?_)
      refine ow_ev ev_move ?_
      refine ow_ev (ev_extract (vs := [.int .i64 y14.1, .int .i64 y14.2])) ?_
      refine ow_ev (ev_extract (vs := [.int .i64 y14.1, .int .i64 y14.2])) ?_
      refine ow_ev ev_assign ?_
      refine ow_ev ev_assign ?_
      refine ow_nil (hK8 _ _ ?_); clear hK8
      refine cw_seq fun K9 hK9 => ?_
      refine cw_region ?_
      refine ow_ev ev_move ?_
      refine ow_ev (ev_load_all (b := b5)) ?_
      refine ow_ev ev_move ?_
      obtain ⟨y16, hy17, hM⟩ := bind_some hM
      refine ow_cons (st_callv (fun w hm => let ⟨S, hs⟩ := hm; ref24_EmptySeconds_spec _ w y2.1 r4.1 y2.2 r4.2 lmade_j1 r13 y16 hy17 (lend_lt hs) (Kn.lend (Kn.trow (e := 60) (r := r4.1) (by repeat (first | exact Has.head | apply Has.tail))) hs) ⟨(Kn.lend (Kn.trow (e := 58) (r := r4.2.1) (by repeat (first | exact Has.head | apply Has.tail))) hs), (Kn.lend (Kn.trow (e := 3) (r := r4.2.2) (by repeat (first | exact Has.head | apply Has.tail))) hs)⟩ (Kn.lend (Kn.trow (e := 3) (r := r13) (by repeat (first | exact Has.head | apply Has.tail))) hs)) ?_)
      refine ow_ev ev_move ?_
      refine ow_ev (ev_extract (vs := [.int .i64 y16.1, .int .i64 y16.2])) ?_
      refine ow_ev (ev_extract (vs := [.int .i64 y16.1, .int .i64 y16.2])) ?_
      refine ow_ev ev_assign ?_
      refine ow_ev ev_assign ?_
      refine ow_nil (hK9 _ _ ?_); clear hK9
      refine cw_seq fun K10 hK10 => ?_
      refine cw_region ?_
      refine ow_ev ev_move ?_
      refine ow_ev (ev_load_all (b := b5)) ?_
      refine ow_ev ev_move ?_
      obtain ⟨y18, hy19, hM⟩ := bind_some hM
      refine ow_cons (st_callv (fun w hm => let ⟨S, hs⟩ := hm; circulation_Empty_spec _ w y2.1 r4.1 y2.2 r4.2 next0 r_next0 y18 hy19 (lend_lt hs) (Kn.lend (Kn.trow (e := 60) (r := r4.1) (by repeat (first | exact Has.head | apply Has.tail))) hs) ⟨(Kn.lend (Kn.trow (e := 58) (r := r4.2.1) (by repeat (first | exact Has.head | apply Has.tail))) hs), (Kn.lend (Kn.trow (e := 3) (r := r4.2.2) (by repeat (first | exact Has.head | apply Has.tail))) hs)⟩ (Kn.lend (Kn.imm (α := List Int) (r := r_next0) (x := next0) (by repeat (first | exact Has.head | apply Has.tail))) hs)) ?_)
      refine ow_ev ev_move ?_
      refine ow_ev (ev_extract (vs := [.int .i64 y18.1, .int .i64 y18.2])) ?_
      refine ow_ev (ev_extract (vs := [.int .i64 y18.1, .int .i64 y18.2])) ?_
      refine ow_ev ev_assign ?_
      refine ow_ev ev_assign ?_
      refine ow_nil (hK10 _ _ ?_); clear hK10
      refine cw_seq fun K11 hK11 => ?_
      refine cw_region ?_
      refine ow_ev ev_move ?_
      refine ow_ev (ev_load_all (b := b5)) ?_
      refine ow_ev ev_move ?_
      obtain ⟨y20, hy21, hM⟩ := bind_some hM
      refine ow_cons (st_callv (fun w hm => let ⟨S, hs⟩ := hm; ref24_EmptySeconds_spec _ w y2.1 r4.1 y2.2 r4.2 next0 r_next0 y20 hy21 (lend_lt hs) (Kn.lend (Kn.trow (e := 60) (r := r4.1) (by repeat (first | exact Has.head | apply Has.tail))) hs) ⟨(Kn.lend (Kn.trow (e := 58) (r := r4.2.1) (by repeat (first | exact Has.head | apply Has.tail))) hs), (Kn.lend (Kn.trow (e := 3) (r := r4.2.2) (by repeat (first | exact Has.head | apply Has.tail))) hs)⟩ (Kn.lend (Kn.imm (α := List Int) (r := r_next0) (x := next0) (by repeat (first | exact Has.head | apply Has.tail))) hs)) ?_)
      refine ow_ev ev_move ?_
      refine ow_ev (ev_extract (vs := [.int .i64 y20.1, .int .i64 y20.2])) ?_
      refine ow_ev (ev_extract (vs := [.int .i64 y20.1, .int .i64 y20.2])) ?_
      refine ow_ev ev_assign ?_
      refine ow_ev ev_assign ?_
      refine ow_nil (hK11 _ _ ?_); clear hK11
      refine cw_seq fun K12 hK12 => ?_
      refine cw_region_any _ (List.Sublist.refl _) ?_
      obtain ⟨y22, hy23, hM⟩ := bind_some hM
      refine aw_one 0 rfl (st_callv (fun w hm => let ⟨S, hs⟩ := hm; law28_awake_spec _ w  y22 hy23 (lend_lt hs) ) ⟨fun w hm => hm.sub (by repeat (first | exact List.Sublist.refl _ | apply List.Sublist.cons_cons | apply List.Sublist.cons)), ?_⟩)
      refine aw_ev 1 rfl ev_move ?_
      refine aw_evg 2 rfl rfl ev_move ?_
      refine aw_evg 3 rfl rfl (ev_load_all (b := b5)) ?_
      refine aw_evg 4 rfl rfl ev_move ?_
      refine aw_evg 5 rfl rfl (ev_load_all (b := b9)) ?_
      refine aw_evg 7 rfl rfl ev_move ?_
      refine aw_evg 8 rfl rfl (ev_load_all (b := b5)) ?_
      refine aw_evg 9 rfl rfl ev_move ?_
      refine aw_evg 10 rfl rfl (ev_load_all (b := b9)) ?_
      obtain ⟨y24, hy25, hM⟩ := bind_some hM
      refine aw_callg 6 rfl rfl (fun hg w hm => let ⟨S, hs⟩ := hm; circulation_Verify_spec _ w y2.1 r4.1 y2.2 r4.2 lmade_j1 r13 (Cover.mk lcover_j1_0 lcover_j1_1) (rcover_j1_0, rcover_j1_1) y24 (whn_some hy25 hg) (lend_lt hs) (Kn.lend (Kn.trow (e := 60) (r := r4.1) (by repeat (first | exact Has.head | apply Has.tail))) hs) ⟨(Kn.lend (Kn.trow (e := 58) (r := r4.2.1) (by repeat (first | exact Has.head | apply Has.tail))) hs), (Kn.lend (Kn.trow (e := 3) (r := r4.2.2) (by repeat (first | exact Has.head | apply Has.tail))) hs)⟩ (Kn.lend (Kn.trow (e := 3) (r := r13) (by repeat (first | exact Has.head | apply Has.tail))) hs) ⟨(Kn.lend (Kn.trow (e := 3) (r := rcover_j1_0) (by repeat (first | exact Has.head | apply Has.tail))) hs), (Kn.lend (Kn.imm (α := List Int) (r := rcover_j1_1) (x := lcover_j1_1) (by repeat (first | exact Has.head | apply Has.tail))) hs)⟩) ?_
      obtain ⟨y26, hy27, hM⟩ := bind_some hM
      refine aw_callg 11 rfl rfl (fun hg w hm => let ⟨S, hs⟩ := hm; ref24_VerifyCover_spec _ w y2.1 r4.1 y2.2 r4.2 lmade_j1 r13 (Cover.mk lcover_j1_0 lcover_j1_1) (rcover_j1_0, rcover_j1_1) y26 (whn_some hy27 hg) (lend_lt hs) (Kn.lend (Kn.trow (e := 60) (r := r4.1) (by repeat (first | exact Has.head | apply Has.tail))) hs) ⟨(Kn.lend (Kn.trow (e := 58) (r := r4.2.1) (by repeat (first | exact Has.head | apply Has.tail))) hs), (Kn.lend (Kn.trow (e := 3) (r := r4.2.2) (by repeat (first | exact Has.head | apply Has.tail))) hs)⟩ (Kn.lend (Kn.trow (e := 3) (r := r13) (by repeat (first | exact Has.head | apply Has.tail))) hs) ⟨(Kn.lend (Kn.trow (e := 3) (r := rcover_j1_0) (by repeat (first | exact Has.head | apply Has.tail))) hs), (Kn.lend (Kn.imm (α := List Int) (r := rcover_j1_1) (x := lcover_j1_1) (by repeat (first | exact Has.head | apply Has.tail))) hs)⟩) ?_
      refine aw_evg 12 rfl rfl ev_bool_eql ?_
      refine aw_ev 13 rfl ev_and ?_
      refine aw_ev 14 rfl ev_move ?_
      refine aw_evg 15 rfl rfl ev_move ?_
      refine aw_evg 16 rfl rfl (ev_load_all (b := b5)) ?_
      refine aw_evg 17 rfl rfl ev_move ?_
      refine aw_evg 18 rfl rfl (ev_load_all (b := b1)) ?_
      refine aw_evg 20 rfl rfl ev_move ?_
      refine aw_evg 21 rfl rfl (ev_load_all (b := b5)) ?_
      refine aw_evg 22 rfl rfl ev_move ?_
      refine aw_evg 23 rfl rfl (ev_load_all (b := b1)) ?_
      obtain ⟨y28, hy29, hM⟩ := bind_some hM
      refine aw_callg 19 rfl rfl (fun hg w hm => let ⟨S, hs⟩ := hm; circulation_Verify_spec _ w y2.1 r4.1 y2.2 r4.2 next0 r_next0 c0 r_c0 y28 (whn_some hy29 hg) (lend_lt hs) (Kn.lend (Kn.trow (e := 60) (r := r4.1) (by repeat (first | exact Has.head | apply Has.tail))) hs) ⟨(Kn.lend (Kn.trow (e := 58) (r := r4.2.1) (by repeat (first | exact Has.head | apply Has.tail))) hs), (Kn.lend (Kn.trow (e := 3) (r := r4.2.2) (by repeat (first | exact Has.head | apply Has.tail))) hs)⟩ (Kn.lend (Kn.imm (α := List Int) (r := r_next0) (x := next0) (by repeat (first | exact Has.head | apply Has.tail))) hs) ⟨(Kn.lend (Kn.imm (α := List Int) (r := r_c0.1) (x := c0.Left) (by repeat (first | exact Has.head | apply Has.tail))) hs), (Kn.lend (Kn.imm (α := List Int) (r := r_c0.2) (x := c0.Right) (by repeat (first | exact Has.head | apply Has.tail))) hs)⟩) ?_
      obtain ⟨y30, hy31, hM⟩ := bind_some hM
      refine aw_callg 24 rfl rfl (fun hg w hm => let ⟨S, hs⟩ := hm; ref24_VerifyCover_spec _ w y2.1 r4.1 y2.2 r4.2 next0 r_next0 c0 r_c0 y30 (whn_some hy31 hg) (lend_lt hs) (Kn.lend (Kn.trow (e := 60) (r := r4.1) (by repeat (first | exact Has.head | apply Has.tail))) hs) ⟨(Kn.lend (Kn.trow (e := 58) (r := r4.2.1) (by repeat (first | exact Has.head | apply Has.tail))) hs), (Kn.lend (Kn.trow (e := 3) (r := r4.2.2) (by repeat (first | exact Has.head | apply Has.tail))) hs)⟩ (Kn.lend (Kn.imm (α := List Int) (r := r_next0) (x := next0) (by repeat (first | exact Has.head | apply Has.tail))) hs) ⟨(Kn.lend (Kn.imm (α := List Int) (r := r_c0.1) (x := c0.Left) (by repeat (first | exact Has.head | apply Has.tail))) hs), (Kn.lend (Kn.imm (α := List Int) (r := r_c0.2) (x := c0.Right) (by repeat (first | exact Has.head | apply Has.tail))) hs)⟩) ?_
      refine aw_evg 25 rfl rfl ev_bool_eql ?_
      refine aw_ev 26 rfl ev_and ?_
      refine aw_ev 27 rfl ev_move ?_
      refine aw_evg 28 rfl rfl ev_move ?_
      refine aw_evg 29 rfl rfl ev_move ?_
      refine aw_evg 30 rfl rfl ev_eql ?_
      refine aw_ev 31 rfl ev_and ?_
      refine aw_ev 32 rfl ev_move ?_
      refine aw_evg 33 rfl rfl ev_move ?_
      refine aw_evg 34 rfl rfl ev_move ?_
      refine aw_evg 35 rfl rfl ev_eql ?_
      refine aw_ev 36 rfl ev_and ?_
      refine aw_ev 37 rfl ev_move ?_
      refine aw_evg 38 rfl rfl ev_move ?_
      refine aw_evg 39 rfl rfl ev_move ?_
      refine aw_evg 40 rfl rfl ev_eql ?_
      refine aw_ev 41 rfl ev_and ?_
      refine aw_ev 42 rfl ev_move ?_
      refine aw_evg 43 rfl rfl ev_move ?_
      refine aw_evg 44 rfl rfl ev_move ?_
      refine aw_evg 45 rfl rfl ev_eql ?_
      refine aw_ev 46 rfl ev_and ?_
      refine aw_ev 47 rfl ev_assign ?_
      refine aw_done (hK12 _ _ ?_); clear hK12
      obtain rfl := some_inj hM
      refine cw_ret (kw_retc1 (fun w hm => ret_of hm rfl))

end Go.Proofs.Ytedocibniankjaa
