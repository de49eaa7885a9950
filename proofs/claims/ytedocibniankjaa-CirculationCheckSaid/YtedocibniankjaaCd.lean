/- Models of functions, and that the code computes them. -/
import Derived.Test.YtedocibniankjaaCc
namespace Go.Proofs.Ytedocibniankjaa
open Go.Dc Go.RowKit
set_option maxRecDepth 10000
set_option linter.unusedVariables false
def law28_CirculationCheck_k1 (raw0 : List Task) (rules0 : Rules) : ((List Task) × Int × (List EmptyT) × (List Int) × Int × Int) → Option Bool := fun (lt_j1, r_j1_0, lr_j1_1, lr_j1_2, r_j1_3, r_j1_4) =>
  (law28_awake_m).bind fun y12 =>
  (whn y12 default (circulation_Check_m lt_j1 (Rules.mk r_j1_0 lr_j1_1 lr_j1_2 r_j1_3 r_j1_4))).bind fun y14 =>
  (whn y12 default (ref24_CheckTasks_m lt_j1 (Rules.mk r_j1_0 lr_j1_1 lr_j1_2 r_j1_3 r_j1_4))).bind fun y16 =>
  (whn (y12 && (y14 == y16)) default (circulation_Check_m raw0 rules0)).bind fun y18 =>
  (whn (y12 && (y14 == y16)) default (ref24_CheckTasks_m raw0 rules0)).bind fun y20 =>
  some ((y12 && (y14 == y16)) && (y18 == y20))
def law28_CirculationCheck_m (raw0 : List Task) (rules0 : Rules) (l0 : List Int) (how0 : Int) (at0 : Int) (v0 : Int) : Option Bool :=
  (keep2_Tasks_m l0).bind fun y2 =>
  (circulation_Check_m y2.1 y2.2).bind fun y6 =>
  if (!y6) then
    (some false)
  else
    ((keep_Pick_m v0 5).bind fun y9 =>
    chk (i64b (y9 - 2)) <|
    (keep_Pick_m how0 7).bind fun y22 =>
    if decide (y22 = 0) then
      (chk (i64b (7200 * (y9 - 2))) <|
      law28_CirculationCheck_k1 raw0 rules0 (y2.1, (7200 * (y9 - 2)), y2.2.Empties, y2.2.Shops, y2.2.Service, y2.2.Limit))
    else
      (if decide (y22 = 1) then
        (law28_CirculationCheck_k1 raw0 rules0 (y2.1, y2.2.Turn, y2.2.Empties, y2.2.Shops, y2.2.Service, (y9 - 2)))
      else
        (if decide (y22 = 2) then
          (chk (decide ((y2.2.Shops.length + ([(y9 - 2)] : List Int).length) * 8 ≤ 140737488355328)) <|
          law28_CirculationCheck_k1 raw0 rules0 (y2.1, y2.2.Turn, y2.2.Empties, (y2.2.Shops ++ ([(y9 - 2)] : List Int)), y2.2.Service, y2.2.Limit))
        else
          (if decide (y22 = 3) then
            (chk (decide ((y2.2.Empties.length + ([(EmptyT.mk (y9 - 2) 1 5)] : List EmptyT).length) * 24 ≤ 140737488355328)) <|
            law28_CirculationCheck_k1 raw0 rules0 (y2.1, y2.2.Turn, (y2.2.Empties ++ ([(EmptyT.mk (y9 - 2) 1 5)] : List EmptyT)), y2.2.Shops, y2.2.Service, y2.2.Limit))
          else
            (if decide (y22 = 4) then
              (chk (decide ((y2.1.length + ([(Task.mk 0 0 0 (y9 - 2) 1)] : List Task).length) * 40 ≤ 140737488355328)) <|
              law28_CirculationCheck_k1 raw0 rules0 ((y2.1 ++ ([(Task.mk 0 0 0 (y9 - 2) 1)] : List Task)), y2.2.Turn, y2.2.Empties, y2.2.Shops, y2.2.Service, y2.2.Limit))
            else
              (if decide (y22 = 5) then
                ((keep_Pick_m at0 2).bind fun y40 =>
                chk (i64b (4194304 + y40)) <|
                chk (decide ((y2.1.length + ([(Task.mk 0 (y9 - 2) 0 1 (4194304 + y40))] : List Task).length) * 40 ≤ 140737488355328)) <|
                law28_CirculationCheck_k1 raw0 rules0 ((y2.1 ++ ([(Task.mk 0 (y9 - 2) 0 1 (4194304 + y40))] : List Task)), y2.2.Turn, y2.2.Empties, y2.2.Shops, y2.2.Service, y2.2.Limit))
              else
                (chk (i64b (86400 + (y9 - 2))) <|
                law28_CirculationCheck_k1 raw0 rules0 (y2.1, y2.2.Turn, y2.2.Empties, y2.2.Shops, (86400 + (y9 - 2)), y2.2.Limit))))))))
theorem law28_CirculationCheck_spec (S : Soup) (w : World) (raw0 : List Task) (r_raw0 : GoRep.R (List Task)) (rules0 : Rules) (r_rules0 : GoRep.R Rules) (l0 : List Int) (r_l0 : GoRep.R (List Int)) (how0 : Int) (at0 : Int) (v0 : Int) (y : Bool) (hM : law28_CirculationCheck_m raw0 rules0 l0 how0 at0 v0 = some y) (hS : ∀ k, S k → k < w.heap.size) (h_raw0 : GoRep.ok S w r_raw0 raw0) (h_rules0 : GoRep.ok S w r_rules0 rules0) (h_l0 : GoRep.ok S w r_l0 l0) :
    Calls Try.prog 11 #[.slice r_raw0.a raw0.length r_raw0.cap, .agg #[.int .i64 rules0.Turn, .slice r_rules0.1.a rules0.Empties.length r_rules0.1.cap, .slice r_rules0.2.a rules0.Shops.length r_rules0.2.cap, .int .i64 rules0.Service, .int .i64 rules0.Limit], .slice r_l0.a l0.length r_l0.cap, .int .i64 how0, .int .i64 at0, .int .i64 v0] w (Ret w (.bool y)) := by
  refine calls_cw (args := [_, _, _, _, _, _]) Try.func11 rfl ((pre_nil hS).start |>.immP (α := List Task) (r := r_raw0) (x := raw0) h_raw0|>.immP (α := List EmptyT) (r := r_rules0.1) (x := rules0.Empties) h_rules0.1|>.immP (α := List Int) (r := r_rules0.2) (x := rules0.Shops) h_rules0.2|>.immP (α := List Int) (r := r_l0) (x := l0) h_l0) rfl ?_
  unfold law28_CirculationCheck_m at hM
  refine cw_seq fun K1 hK1 => ?_
  refine cw_region ?_
  refine ow_cons (st_box (l := [.int .i64 rules0.Turn, .slice r_rules0.1.a rules0.Empties.length r_rules0.1.cap, .slice r_rules0.2.a rules0.Shops.length r_rules0.2.cap, .int .i64 rules0.Service, .int .i64 rules0.Limit]) (k := fun b1 => ?_))
  refine ow_ev ev_assign ?_
  refine ow_nil (hK1 _ _ ?_); clear hK1
  refine cw_seq fun K2 hK2 => ?_
  refine cw_region ?_
  refine ow_ev ev_move ?_
  obtain ⟨y2, hy3, hM⟩ := bind_some hM
  refine ow_cons (st_callF SelL.nil (fun S w hs hP => keep2_Tasks_spec _ w l0 r_l0 y2 hy3 (lend_lt hs) (Kn.lend (Kn.imm (α := List Int) (r := r_l0) (x := l0) (by repeat (first | exact Has.head | apply Has.tail))) hs)) (by intro r c hc; simp only [List.mem_cons, List.not_mem_nil, or_false] at hc; rcases hc with rfl | rfl | rfl <;> first | exact flatC_own | exact flatC_trow (fun _ _ _ _ => trivial)) (fun r4 => ?_))
  dsimp only [List.cons_append, List.nil_append]
  refine ow_ev ev_move ?_
  refine ow_ev (ev_extract (vs := [.slice r4.1.a y2.1.length r4.1.cap, .agg #[.int .i64 y2.2.Turn, .slice r4.2.1.a y2.2.Empties.length r4.2.1.cap, .slice r4.2.2.a y2.2.Shops.length r4.2.2.cap, .int .i64 y2.2.Service, .int .i64 y2.2.Limit]])) ?_
  refine ow_ev (ev_extract (vs := [.slice r4.1.a y2.1.length r4.1.cap, .agg #[.int .i64 y2.2.Turn, .slice r4.2.1.a y2.2.Empties.length r4.2.1.cap, .slice r4.2.2.a y2.2.Shops.length r4.2.2.cap, .int .i64 y2.2.Service, .int .i64 y2.2.Limit]])) ?_
  refine ow_cons (st_alloc rfl (k := fun b5 => ?_))
  refine ow_ev ev_assign ?_
  refine ow_cons (st_store_all (b := b5) (vs := [.int .i64 y2.2.Turn, .slice r4.2.1.a y2.2.Empties.length r4.2.1.cap, .slice r4.2.2.a y2.2.Shops.length r4.2.2.cap, .int .i64 y2.2.Service, .int .i64 y2.2.Limit]) (k := ?_))
  refine ow_nil (hK2 _ _ ?_); clear hK2
  refine cw_seq fun K3 hK3 => ?_
  refine cw_seq fun K4 hK4 => ?_
  refine cw_region ?_
  refine ow_ev ev_move ?_
  refine ow_ev (ev_load_all (b := b5)) ?_
  obtain ⟨y6, hy7, hM⟩ := bind_some hM
  refine ow_cons (st_callv (fun w hm => let ⟨S, hs⟩ := hm; circulation_Check_spec _ w y2.1 r4.1 y2.2 r4.2 y6 hy7 (lend_lt hs) (Kn.lend (Kn.trow (e := 60) (r := r4.1) (by repeat (first | exact Has.head | apply Has.tail))) hs) ⟨(Kn.lend (Kn.trow (e := 58) (r := r4.2.1) (by repeat (first | exact Has.head | apply Has.tail))) hs), (Kn.lend (Kn.trow (e := 3) (r := r4.2.2) (by repeat (first | exact Has.head | apply Has.tail))) hs)⟩) ?_)
  refine ow_ev ev_not ?_
  refine ow_nil (hK4 _ _ ?_); clear hK4
  refine cw_cond rfl (fun hc8 => ?_) (fun hc8 => ?_)
  ·
    replace hM := (ite_t hc8).symm.trans hM
    refine cw_seq fun K5 hK5 => ?_
    refine cw_region ?_
    refine ow_ev ev_assign ?_
    refine ow_nil (hK5 _ _ ?_); clear hK5
    obtain rfl := some_inj hM
    refine cw_ret (kw_retc1 (fun w hm => ret_of hm rfl))
  ·
    replace hM := (ite_f hc8).symm.trans hM
    refine cw_skip (hK3 _ _ ?_); clear hK3
    refine cw_seq fun K6 hK6 => ?_
    refine cw_region ?_
    refine ow_ev ev_move ?_
    obtain ⟨y9, hy10, hM⟩ := bind_some hM
    refine ow_cons (st_callv (fun w hm => let ⟨S, hs⟩ := hm; keep_Pick_spec _ w v0 5 y9 hy10 (lend_lt hs) ) ?_)
    obtain ⟨hI11, hM⟩ := chk_some hM
    refine ow_ev (ev_sub (hr := fun hg => i64b_I64 hI11)) ?_
    refine ow_ev ev_assign ?_
    refine ow_nil (hK6 _ _ ?_); clear hK6
    refine cw_cut (γ := ((List Task) × Int × (List EmptyT) × (List Int) × Int × Int) × ((SR (GoRep.R Task)) × (SR (GoRep.R EmptyT)) × (SR (GoRep.R Int)))) (env := fun ((lt_j1, r_j1_0, lr_j1_1, lr_j1_2, r_j1_3, r_j1_4), (rt_j1, rr_j1_1, rr_j1_2)) => [(0, .v (.slice r_raw0.a raw0.length r_raw0.cap)), (7, .v (.pointer (some ⟨b1, 0, none⟩))), (13, .v (.slice rt_j1.a lt_j1.length rt_j1.cap)), (14, .v (.pointer (some ⟨b5, 0, none⟩)))]) (mem := fun ((lt_j1, r_j1_0, lr_j1_1, lr_j1_2, r_j1_3, r_j1_4), (rt_j1, rr_j1_1, rr_j1_2)) => [imm (α := (List Task)) r_raw0 raw0, imm (α := (List EmptyT)) r_rules0.1 rules0.Empties, imm (α := (List Int)) r_rules0.2 rules0.Shops, own b1 53 [.int .i64 rules0.Turn, .slice r_rules0.1.a rules0.Empties.length r_rules0.1.cap, .slice r_rules0.2.a rules0.Shops.length r_rules0.2.cap, .int .i64 rules0.Service, .int .i64 rules0.Limit], trow 60 rt_j1 lt_j1, trow 58 rr_j1_1 lr_j1_1, trow 3 rr_j1_2 lr_j1_2, own b5 53 [.int .i64 r_j1_0, .slice rr_j1_1.a lr_j1_1.length rr_j1_1.cap, .slice rr_j1_2.a lr_j1_2.length rr_j1_2.cap, .int .i64 r_j1_3, .int .i64 r_j1_4]]) (R := fun g => law28_CirculationCheck_k1 raw0 rules0 g.1 = some y) ?_ ?_
    · intro KJ1 hJ1
      refine cw_seq fun K8 hK8 => ?_
      refine cw_region ?_
      refine ow_ev ev_move ?_
      obtain ⟨y22, hy23, hM⟩ := bind_some hM
      refine ow_cons (st_callv (fun w hm => let ⟨S, hs⟩ := hm; keep_Pick_spec _ w how0 7 y22 hy23 (lend_lt hs) ) ?_)
      refine ow_nil (hK8 _ _ ?_); clear hK8
      refine cw_block ?_
      refine cw_seq fun K9 hK9 => ?_
      refine cw_region ?_
      refine ow_ev ev_eql ?_
      refine ow_ev ev_assign ?_
      refine ow_nil (hK9 _ _ ?_); clear hK9
      refine cw_cond rfl (fun hc24 => ?_) (fun hc24 => ?_)
      ·
        replace hM := (ite_t hc24).symm.trans hM
        refine cw_region ?_
        refine ow_ev ev_move ?_
        obtain ⟨hI25, hM⟩ := chk_some hM
        refine ow_ev (ev_mul (hr := fun hg => i64b_I64 hI25)) ?_
        refine ow_ev (ev_field_addr 0) ?_
        refine ow_cons (st_store_own (b := b5) (l' := [.int .i64 (7200 * (y9 - 2)), .slice r4.2.1.a y2.2.Empties.length r4.2.1.cap, .slice r4.2.2.a y2.2.Shops.length r4.2.2.cap, .int .i64 y2.2.Service, .int .i64 y2.2.Limit]) (k := ?_))
        refine ow_nil (hJ1 ((y2.1, (7200 * (y9 - 2)), y2.2.Empties, y2.2.Shops, y2.2.Service, y2.2.Limit), (r4.1, r4.2.1, r4.2.2)) _ _ hM ⟨rfl, rfl, rfl, rfl, trivial⟩ (fun w hm => hm.reord))
      ·
        replace hM := (ite_f hc24).symm.trans hM
        refine cw_seq fun K10 hK10 => ?_
        refine cw_region ?_
        refine ow_ev ev_eql ?_
        refine ow_ev ev_assign ?_
        refine ow_nil (hK10 _ _ ?_); clear hK10
        refine cw_cond rfl (fun hc26 => ?_) (fun hc26 => ?_)
        ·
          replace hM := (ite_t hc26).symm.trans hM
          refine cw_region ?_
          refine ow_ev ev_move ?_
          refine ow_ev (ev_field_addr 4) ?_
          refine ow_cons (st_store_own (b := b5) (l' := [.int .i64 y2.2.Turn, .slice r4.2.1.a y2.2.Empties.length r4.2.1.cap, .slice r4.2.2.a y2.2.Shops.length r4.2.2.cap, .int .i64 y2.2.Service, .int .i64 (y9 - 2)]) (k := ?_))
          refine ow_nil (hJ1 ((y2.1, y2.2.Turn, y2.2.Empties, y2.2.Shops, y2.2.Service, (y9 - 2)), (r4.1, r4.2.1, r4.2.2)) _ _ hM ⟨rfl, rfl, rfl, rfl, trivial⟩ (fun w hm => hm.reord))
        ·
          replace hM := (ite_f hc26).symm.trans hM
          refine cw_seq fun K11 hK11 => ?_
          refine cw_region ?_
          refine ow_ev ev_eql ?_
          refine ow_ev ev_assign ?_
          refine ow_nil (hK11 _ _ ?_); clear hK11
          refine cw_cond rfl (fun hc27 => ?_) (fun hc27 => ?_)
          ·
            replace hM := (ite_t hc27).symm.trans hM
            refine cw_region ?_
            refine ow_ev (ev_field_addr 2) ?_
            refine ow_ev (ev_load_own (b := b5)) ?_
            refine ow_ev ev_move ?_
            refine ow_cons (st_bslice (α := Int) 3 (fun _ => ()) ([(y9 - 2)] : List Int) (OkL.flat (fun _ _ _ _ => trivial)) (fun r28 => ?_))
            obtain ⟨hb29, hM⟩ := chk_some hM
            refine ow_cons (st_append (r := r4.2.2) (r2 := r28) (by intro r'; repeat (first | exact Upd.head | apply Upd.tail)) (Kn.trow (e := 3) (r := r28) (by repeat (first | exact Has.head | apply Has.tail))) (OkL.flat (fun _ _ _ _ => trivial)) (of_decide_eq_true hb29) (fun r30 => ?_))
            refine ow_ev (ev_field_addr 2) ?_
            refine ow_cons (st_store_own (b := b5) (l' := [.int .i64 y2.2.Turn, .slice r4.2.1.a y2.2.Empties.length r4.2.1.cap, .slice r30.a ((y2.2.Shops ++ ([(y9 - 2)] : List Int)).length) r30.cap, .int .i64 y2.2.Service, .int .i64 y2.2.Limit]) (k := ?_))
            refine ow_nil (hJ1 ((y2.1, y2.2.Turn, y2.2.Empties, (y2.2.Shops ++ ([(y9 - 2)] : List Int)), y2.2.Service, y2.2.Limit), (r4.1, r4.2.1, r30)) _ _ hM ⟨rfl, rfl, rfl, rfl, trivial⟩ (fun w hm => hm.reord))
          ·
            replace hM := (ite_f hc27).symm.trans hM
            refine cw_seq fun K12 hK12 => ?_
            refine cw_region ?_
            refine ow_ev ev_eql ?_
            refine ow_ev ev_assign ?_
            refine ow_nil (hK12 _ _ ?_); clear hK12
            refine cw_cond rfl (fun hc31 => ?_) (fun hc31 => ?_)
            ·
              replace hM := (ite_t hc31).symm.trans hM
              refine cw_region ?_
              refine ow_ev (ev_field_addr 1) ?_
              refine ow_ev (ev_load_own (b := b5)) ?_
              refine ow_ev ev_move ?_
              refine ow_ev (ev_build [.int .i64 (y9 - 2), .int .i64 1, .int .i64 5]) ?_
              refine ow_cons (st_bslice (α := EmptyT) 58 (fun _ => ()) ([(EmptyT.mk (y9 - 2) 1 5)] : List EmptyT) (OkL.flat (fun _ _ _ _ => trivial)) (fun r32 => ?_))
              obtain ⟨hb33, hM⟩ := chk_some hM
              refine ow_cons (st_append (r := r4.2.1) (r2 := r32) (by intro r'; repeat (first | exact Upd.head | apply Upd.tail)) (Kn.trow (e := 58) (r := r32) (by repeat (first | exact Has.head | apply Has.tail))) (OkL.flat (fun _ _ _ _ => trivial)) (of_decide_eq_true hb33) (fun r34 => ?_))
              refine ow_ev (ev_field_addr 1) ?_
              refine ow_cons (st_store_own (b := b5) (l' := [.int .i64 y2.2.Turn, .slice r34.a ((y2.2.Empties ++ ([(EmptyT.mk (y9 - 2) 1 5)] : List EmptyT)).length) r34.cap, .slice r4.2.2.a y2.2.Shops.length r4.2.2.cap, .int .i64 y2.2.Service, .int .i64 y2.2.Limit]) (k := ?_))
              refine ow_nil (hJ1 ((y2.1, y2.2.Turn, (y2.2.Empties ++ ([(EmptyT.mk (y9 - 2) 1 5)] : List EmptyT)), y2.2.Shops, y2.2.Service, y2.2.Limit), (r4.1, r34, r4.2.2)) _ _ hM ⟨rfl, rfl, rfl, rfl, trivial⟩ (fun w hm => hm.reord))
            ·
              replace hM := (ite_f hc31).symm.trans hM
              refine cw_seq fun K13 hK13 => ?_
              refine cw_region ?_
              refine ow_ev ev_eql ?_
              refine ow_ev ev_assign ?_
              refine ow_nil (hK13 _ _ ?_); clear hK13
              refine cw_cond rfl (fun hc35 => ?_) (fun hc35 => ?_)
              ·
                replace hM := (ite_t hc35).symm.trans hM
                refine cw_region ?_
                refine ow_ev ev_move ?_
                refine ow_ev ev_move ?_
                refine ow_ev (ev_build [.int .i64 0, .int .i64 0, .int .i64 0, .int .i64 (y9 - 2), .int .i64 1]) ?_
                refine ow_cons (st_bslice (α := Task) 60 (fun _ => ()) ([(Task.mk 0 0 0 (y9 - 2) 1)] : List Task) (OkL.flat (fun _ _ _ _ => trivial)) (fun r36 => ?_))
                obtain ⟨hb37, hM⟩ := chk_some hM
                refine ow_cons (st_append (r := r4.1) (r2 := r36) (by intro r'; repeat (first | exact Upd.head | apply Upd.tail)) (Kn.trow (e := 60) (r := r36) (by repeat (first | exact Has.head | apply Has.tail))) (OkL.flat (fun _ _ _ _ => trivial)) (of_decide_eq_true hb37) (fun r38 => ?_))
                refine ow_ev ev_assign ?_
                refine ow_nil (hJ1 (((y2.1 ++ ([(Task.mk 0 0 0 (y9 - 2) 1)] : List Task)), y2.2.Turn, y2.2.Empties, y2.2.Shops, y2.2.Service, y2.2.Limit), (r38, r4.2.1, r4.2.2)) _ _ hM ⟨rfl, rfl, rfl, rfl, trivial⟩ (fun w hm => hm.reord))
              ·
                replace hM := (ite_f hc35).symm.trans hM
                refine cw_seq fun K14 hK14 => ?_
                refine cw_region ?_
                refine ow_ev ev_eql ?_
                refine ow_ev ev_assign ?_
                refine ow_nil (hK14 _ _ ?_); clear hK14
                refine cw_cond rfl (fun hc39 => ?_) (fun hc39 => ?_)
                ·
                  replace hM := (ite_t hc39).symm.trans hM
                  refine cw_region ?_
                  refine ow_ev ev_move ?_
                  refine ow_ev ev_move ?_
                  refine ow_ev ev_move ?_
                  obtain ⟨y40, hy41, hM⟩ := bind_some hM
                  refine ow_cons (st_callv (fun w hm => let ⟨S, hs⟩ := hm; keep_Pick_spec _ w at0 2 y40 hy41 (lend_lt hs) ) ?_)
                  obtain ⟨hI42, hM⟩ := chk_some hM
                  refine ow_ev (ev_add (hr := fun hg => i64b_I64 hI42)) ?_
                  refine ow_ev (ev_build [.int .i64 0, .int .i64 (y9 - 2), .int .i64 0, .int .i64 1, .int .i64 (4194304 + y40)]) ?_
                  refine ow_cons (st_bslice (α := Task) 60 (fun _ => ()) ([(Task.mk 0 (y9 - 2) 0 1 (4194304 + y40))] : List Task) (OkL.flat (fun _ _ _ _ => trivial)) (fun r43 => ?_))
                  obtain ⟨hb44, hM⟩ := chk_some hM
                  refine ow_cons (st_append (r := r4.1) (r2 := r43) (by intro r'; repeat (first | exact Upd.head | apply Upd.tail)) (Kn.trow (e := 60) (r := r43) (by repeat (first | exact Has.head | apply Has.tail))) (OkL.flat (fun _ _ _ _ => trivial)) (of_decide_eq_true hb44) (fun r45 => ?_))
                  refine ow_ev ev_assign ?_
                  refine ow_nil (hJ1 (((y2.1 ++ ([(Task.mk 0 (y9 - 2) 0 1 (4194304 + y40))] : List Task)), y2.2.Turn, y2.2.Empties, y2.2.Shops, y2.2.Service, y2.2.Limit), (r45, r4.2.1, r4.2.2)) _ _ hM ⟨rfl, rfl, rfl, rfl, trivial⟩ (fun w hm => hm.reord))
                ·
                  replace hM := (ite_f hc39).symm.trans hM
                  refine cw_region ?_
                  refine ow_ev ev_move ?_
                  obtain ⟨hI46, hM⟩ := chk_some hM
                  refine ow_ev (ev_add (hr := fun hg => i64b_I64 hI46)) ?_
                  refine ow_ev (ev_field_addr 3) ?_
                  refine ow_cons (st_store_own (b := b5) (l' := [.int .i64 y2.2.Turn, .slice r4.2.1.a y2.2.Empties.length r4.2.1.cap, .slice r4.2.2.a y2.2.Shops.length r4.2.2.cap, .int .i64 (86400 + (y9 - 2)), .int .i64 y2.2.Limit]) (k := ?_))
                  refine ow_nil (hJ1 ((y2.1, y2.2.Turn, y2.2.Empties, y2.2.Shops, (86400 + (y9 - 2)), y2.2.Limit), (r4.1, r4.2.1, r4.2.2)) _ _ hM ⟨rfl, rfl, rfl, rfl, trivial⟩ (fun w hm => hm.reord))
    ·
      clear hM
      intro g hM
      obtain ⟨⟨lt_j1, r_j1_0, lr_j1_1, lr_j1_2, r_j1_3, r_j1_4⟩, ⟨rt_j1, rr_j1_1, rr_j1_2⟩⟩ := g
      dsimp only at hM ⊢
      dsimp only [law28_CirculationCheck_k1] at hM
      refine cw_seq fun K7 hK7 => ?_
      refine cw_region_any _ (List.Sublist.refl _) ?_
      obtain ⟨y12, hy13, hM⟩ := bind_some hM
      refine aw_one 0 rfl (st_callv (fun w hm => let ⟨S, hs⟩ := hm; law28_awake_spec _ w  y12 hy13 (lend_lt hs) ) ⟨fun w hm => hm.sub (by repeat (first | exact List.Sublist.refl _ | apply List.Sublist.cons_cons | apply List.Sublist.cons)), ?_⟩)
      refine aw_ev 1 rfl ev_move ?_
      refine aw_evg 2 rfl rfl ev_move ?_
      refine aw_evg 3 rfl rfl (ev_load_all (b := b5)) ?_
      refine aw_evg 5 rfl rfl ev_move ?_
      refine aw_evg 6 rfl rfl (ev_load_all (b := b5)) ?_
      obtain ⟨y14, hy15, hM⟩ := bind_some hM
      refine aw_callg 4 rfl rfl (fun hg w hm => let ⟨S, hs⟩ := hm; circulation_Check_spec _ w lt_j1 rt_j1 (Rules.mk r_j1_0 lr_j1_1 lr_j1_2 r_j1_3 r_j1_4) (rr_j1_1, rr_j1_2) y14 (whn_some hy15 hg) (lend_lt hs) (Kn.lend (Kn.trow (e := 60) (r := rt_j1) (by repeat (first | exact Has.head | apply Has.tail))) hs) ⟨(Kn.lend (Kn.trow (e := 58) (r := rr_j1_1) (by repeat (first | exact Has.head | apply Has.tail))) hs), (Kn.lend (Kn.trow (e := 3) (r := rr_j1_2) (by repeat (first | exact Has.head | apply Has.tail))) hs)⟩) ?_
      obtain ⟨y16, hy17, hM⟩ := bind_some hM
      refine aw_callg 7 rfl rfl (fun hg w hm => let ⟨S, hs⟩ := hm; ref24_CheckTasks_spec _ w lt_j1 rt_j1 (Rules.mk r_j1_0 lr_j1_1 lr_j1_2 r_j1_3 r_j1_4) (rr_j1_1, rr_j1_2) y16 (whn_some hy17 hg) (lend_lt hs) (Kn.lend (Kn.trow (e := 60) (r := rt_j1) (by repeat (first | exact Has.head | apply Has.tail))) hs) ⟨(Kn.lend (Kn.trow (e := 58) (r := rr_j1_1) (by repeat (first | exact Has.head | apply Has.tail))) hs), (Kn.lend (Kn.trow (e := 3) (r := rr_j1_2) (by repeat (first | exact Has.head | apply Has.tail))) hs)⟩) ?_
      refine aw_evg 8 rfl rfl ev_bool_eql ?_
      refine aw_ev 9 rfl ev_and ?_
      refine aw_ev 10 rfl ev_move ?_
      refine aw_evg 11 rfl rfl ev_move ?_
      refine aw_evg 12 rfl rfl (ev_load_all (b := b1)) ?_
      refine aw_evg 14 rfl rfl ev_move ?_
      refine aw_evg 15 rfl rfl (ev_load_all (b := b1)) ?_
      obtain ⟨y18, hy19, hM⟩ := bind_some hM
      refine aw_callg 13 rfl rfl (fun hg w hm => let ⟨S, hs⟩ := hm; circulation_Check_spec _ w raw0 r_raw0 rules0 r_rules0 y18 (whn_some hy19 hg) (lend_lt hs) (Kn.lend (Kn.imm (α := List Task) (r := r_raw0) (x := raw0) (by repeat (first | exact Has.head | apply Has.tail))) hs) ⟨(Kn.lend (Kn.imm (α := List EmptyT) (r := r_rules0.1) (x := rules0.Empties) (by repeat (first | exact Has.head | apply Has.tail))) hs), (Kn.lend (Kn.imm (α := List Int) (r := r_rules0.2) (x := rules0.Shops) (by repeat (first | exact Has.head | apply Has.tail))) hs)⟩) ?_
      obtain ⟨y20, hy21, hM⟩ := bind_some hM
      refine aw_callg 16 rfl rfl (fun hg w hm => let ⟨S, hs⟩ := hm; ref24_CheckTasks_spec _ w raw0 r_raw0 rules0 r_rules0 y20 (whn_some hy21 hg) (lend_lt hs) (Kn.lend (Kn.imm (α := List Task) (r := r_raw0) (x := raw0) (by repeat (first | exact Has.head | apply Has.tail))) hs) ⟨(Kn.lend (Kn.imm (α := List EmptyT) (r := r_rules0.1) (x := rules0.Empties) (by repeat (first | exact Has.head | apply Has.tail))) hs), (Kn.lend (Kn.imm (α := List Int) (r := r_rules0.2) (x := rules0.Shops) (by repeat (first | exact Has.head | apply Has.tail))) hs)⟩) ?_
      refine aw_evg 17 rfl rfl ev_bool_eql ?_
      refine aw_ev 18 rfl ev_and ?_
      refine aw_ev 19 rfl ev_assign ?_
      refine aw_done (hK7 _ _ ?_); clear hK7
      obtain rfl := some_inj hM
      refine cw_ret (kw_retc1 (fun w hm => ret_of hm rfl))

def law28_CirculationFollows_k2 (cont1 : Nat → Option Bool) (t20_1 : Nat) : Unit → Option Bool := fun _ =>
  cont1 (t20_1 + 1)
def law28_CirculationFollows_b2 (y1 : (List Task) × Rules) (x7 : Task) (cont1 : Nat → Option Bool) (t20_1 : Nat) (cont2 : Nat → Option Bool) : Nat → Option Bool := fun t26_2 =>
  if decide ((t26_2 : Int) < (y1.1.length : Int)) then
    ((idx y1.1 (t26_2 : Int)).bind fun x12 =>
    (circulation_Follows_m y1.2 x7 x12).bind fun y15 =>
    (ref24_Follows_m y1.2 x7 x12).bind fun y17 =>
    chk (!((!(decide (y15.1 ≠ y17.1) || (!(y15.2 == y17.2)))) && y15.2) || i64b (x7.End + y1.2.Turn)) <|
    chk (!((!(decide (y15.1 ≠ y17.1) || (!(y15.2 == y17.2)))) && y15.2) || i64b ((x7.End + y1.2.Turn) + y15.1)) <|
    if ((decide (y15.1 ≠ y17.1) || (!(y15.2 == y17.2))) || (y15.2 && decide (x12.Start < ((x7.End + y1.2.Turn) + y15.1)))) then
      (some false)
    else
      (cont2 (t26_2 + 1)))
  else
    (law28_CirculationFollows_k2 cont1 t20_1 ())
def law28_CirculationFollows_k1 : Unit → Option Bool := fun _ =>
  (law28_awake_m).bind fun y22 =>
  some y22
def law28_CirculationFollows_b1 (y1 : (List Task) × Rules) (cont1 : Nat → Option Bool) : Nat → Option Bool := fun t20_1 =>
  if decide ((t20_1 : Int) < (y1.1.length : Int)) then
    ((idx y1.1 (t20_1 : Int)).bind fun x7 =>
    iter (law28_CirculationFollows_b2 y1 x7 cont1 t20_1) FUEL 0)
  else
    (law28_CirculationFollows_k1 ())
def law28_CirculationFollows_m (l0 : List Int) : Option Bool :=
  (keep2_Tasks_m l0).bind fun y1 =>
  iter (law28_CirculationFollows_b1 y1) FUEL 0
theorem law28_CirculationFollows_spec (S : Soup) (w : World) (l0 : List Int) (r_l0 : GoRep.R (List Int)) (y : Bool) (hM : law28_CirculationFollows_m l0 = some y) (hS : ∀ k, S k → k < w.heap.size) (h_l0 : GoRep.ok S w r_l0 l0) :
    Calls Try.prog 12 #[.slice r_l0.a l0.length r_l0.cap] w (Ret w (.bool y)) := by
  refine calls_cw (args := [_]) Try.func12 rfl ((pre_nil hS).start |>.immP (α := List Int) (r := r_l0) (x := l0) h_l0) rfl ?_
  unfold law28_CirculationFollows_m at hM
  refine cw_seq fun K1 hK1 => ?_
  refine cw_region ?_
  refine ow_ev ev_assign ?_
  refine ow_nil (hK1 _ _ ?_); clear hK1
  refine cw_seq fun K2 hK2 => ?_
  refine cw_region ?_
  refine ow_ev ev_move ?_
  obtain ⟨y1, hy2, hM⟩ := bind_some hM
  refine ow_cons (st_callF SelL.nil (fun S w hs hP => keep2_Tasks_spec _ w l0 r_l0 y1 hy2 (lend_lt hs) (Kn.lend (Kn.imm (α := List Int) (r := r_l0) (x := l0) (by repeat (first | exact Has.head | apply Has.tail))) hs)) (by intro r c hc; simp only [List.mem_cons, List.not_mem_nil, or_false] at hc; rcases hc with rfl | rfl | rfl <;> first | exact flatC_own | exact flatC_trow (fun _ _ _ _ => trivial)) (fun r3 => ?_))
  dsimp only [List.cons_append, List.nil_append]
  refine ow_ev ev_move ?_
  refine ow_ev (ev_extract (vs := [.slice r3.1.a y1.1.length r3.1.cap, .agg #[.int .i64 y1.2.Turn, .slice r3.2.1.a y1.2.Empties.length r3.2.1.cap, .slice r3.2.2.a y1.2.Shops.length r3.2.2.cap, .int .i64 y1.2.Service, .int .i64 y1.2.Limit]])) ?_
  refine ow_ev (ev_extract (vs := [.slice r3.1.a y1.1.length r3.1.cap, .agg #[.int .i64 y1.2.Turn, .slice r3.2.1.a y1.2.Empties.length r3.2.1.cap, .slice r3.2.2.a y1.2.Shops.length r3.2.2.cap, .int .i64 y1.2.Service, .int .i64 y1.2.Limit]])) ?_
  refine ow_cons (st_alloc rfl (k := fun b4 => ?_))
  refine ow_ev ev_assign ?_
  refine ow_cons (st_store_all (b := b4) (vs := [.int .i64 y1.2.Turn, .slice r3.2.1.a y1.2.Empties.length r3.2.1.cap, .slice r3.2.2.a y1.2.Shops.length r3.2.2.cap, .int .i64 y1.2.Service, .int .i64 y1.2.Limit]) (k := ?_))
  refine ow_nil (hK2 _ _ ?_); clear hK2
  refine cw_seq fun K3 hK3 => ?_
  refine cw_seq fun K4 hK4 => ?_
  refine cw_region ?_
  refine ow_ev ev_move ?_
  refine ow_have (fun w hm => Kn.len (Kn.trow (e := 60) (r := r3.1) (by repeat (first | exact Has.head | apply Has.tail))) hm) fun hl5 => ?_
  refine ow_ev ev_len ?_
  refine ow_ev ev_move ?_
  refine ow_nil (hK4 _ _ ?_); clear hK4
  refine cw_block ?_
  refine cw_loop (γ := Nat × Nat × Unit) (env := fun (_, t20_1, _) => [(3, .v (.slice r3.1.a y1.1.length r3.1.cap)), (4, .v (.pointer (some ⟨b4, 0, none⟩))), (18, .v (.slice r3.1.a y1.1.length r3.1.cap)), (19, .v (.int .i64 (y1.1.length : Int))), (20, .v (.int .i64 (t20_1 : Int)))]) (mem := fun (_, t20_1, _) => [trow 60 r3.1 y1.1, trow 58 r3.2.1 y1.2.Empties, trow 3 r3.2.2 y1.2.Shops, own b4 53 [.int .i64 y1.2.Turn, .slice r3.2.1.a y1.2.Empties.length r3.2.1.cap, .slice r3.2.2.a y1.2.Shops.length r3.2.2.cap, .int .i64 y1.2.Service, .int .i64 y1.2.Limit]]) (R := fun g => iter (law28_CirculationFollows_b1 y1) g.1 g.2.1 = some y) (μ := fun g => g.1) (FUEL, 0, ()) hM ⟨rfl, rfl, rfl, rfl, rfl, trivial⟩ (fun w hm => hm.reord) ?_
  clear hM
  intro g hM KL1 hL1
  obtain ⟨nn1, t20_1, ⟨⟩⟩ := g
  dsimp only at hM ⊢
  obtain ⟨nn1, cont1, rfl, hcont1, hM⟩ := iter_open' hM
  dsimp only [law28_CirculationFollows_b1] at hM
  refine cw_seq fun K5 hK5 => ?_
  refine cw_region ?_
  refine ow_ev ev_lss ?_
  refine ow_nil (hK5 _ _ ?_); clear hK5
  refine cw_seq fun K6 hK6 => ?_
  refine cw_cond rfl (fun hc6 => ?_) (fun hc6 => ?_)
  ·
    replace hM := (ite_t hc6).symm.trans hM
    have hc6d := of_decide_eq_true hc6
    refine cw_skip (hK6 _ _ ?_); clear hK6
    refine cw_seq fun K7 hK7 => ?_
    refine cw_block ?_
    refine cw_seq fun K8 hK8 => ?_
    refine cw_region ?_
    obtain ⟨x7, hx8, hM⟩ := bind_some hM
    refine ow_ev (ev_idx (xs := y1.1) 5 (Kn.trow (e := 60) (r := r3.1) (by repeat (first | exact Has.head | apply Has.tail))) (fun hg => let h := idx_some hx8; ⟨h.1, h.2.1⟩)) ?_
    refine ow_ev (ev_lds (m := 5) (i := (t20_1 : Int)) (xs := y1.1) (y := x7) (l := [.int .i64 x7.Type_, .int .i64 x7.From, .int .i64 x7.To, .int .i64 x7.Start, .int .i64 x7.End]) 0 (Kn.trow (e := 60) (r := r3.1) (by repeat (first | exact Has.head | apply Has.tail))) (fun _ => hx8)) ?_
    refine ow_cons (st_alloc rfl (k := fun b9 => ?_))
    refine ow_cons (st_store_all (b := b9) (vs := [.int .i64 x7.Type_, .int .i64 x7.From, .int .i64 x7.To, .int .i64 x7.Start, .int .i64 x7.End]) (k := ?_))
    refine ow_nil (hK8 _ _ ?_); clear hK8
    refine cw_seq fun K9 hK9 => ?_
    refine cw_region ?_
    refine ow_ev ev_move ?_
    refine ow_have (fun w hm => Kn.len (Kn.trow (e := 60) (r := r3.1) (by repeat (first | exact Has.head | apply Has.tail))) hm) fun hl10 => ?_
    refine ow_ev ev_len ?_
    refine ow_ev ev_move ?_
    refine ow_nil (hK9 _ _ ?_); clear hK9
    refine cw_block ?_
    refine cw_loop (γ := Nat × Nat × Unit) (env := fun (_, t26_2, _) => [(3, .v (.slice r3.1.a y1.1.length r3.1.cap)), (4, .v (.pointer (some ⟨b4, 0, none⟩))), (6, .v (.pointer (some ⟨b9, 0, none⟩))), (18, .v (.slice r3.1.a y1.1.length r3.1.cap)), (19, .v (.int .i64 (y1.1.length : Int))), (20, .v (.int .i64 (t20_1 : Int))), (24, .v (.slice r3.1.a y1.1.length r3.1.cap)), (25, .v (.int .i64 (y1.1.length : Int))), (26, .v (.int .i64 (t26_2 : Int)))]) (mem := fun (_, t26_2, _) => [trow 60 r3.1 y1.1, trow 58 r3.2.1 y1.2.Empties, trow 3 r3.2.2 y1.2.Shops, own b4 53 [.int .i64 y1.2.Turn, .slice r3.2.1.a y1.2.Empties.length r3.2.1.cap, .slice r3.2.2.a y1.2.Shops.length r3.2.2.cap, .int .i64 y1.2.Service, .int .i64 y1.2.Limit], own b9 60 [.int .i64 x7.Type_, .int .i64 x7.From, .int .i64 x7.To, .int .i64 x7.Start, .int .i64 x7.End]]) (R := fun g => iter (law28_CirculationFollows_b2 y1 x7 cont1 t20_1) g.1 g.2.1 = some y) (μ := fun g => g.1) (FUEL, 0, ()) hM ⟨rfl, rfl, rfl, rfl, rfl, rfl, rfl, rfl, rfl, trivial⟩ (fun w hm => hm.reord) ?_
    clear hM
    intro g hM KL2 hL2
    obtain ⟨nn2, t26_2, ⟨⟩⟩ := g
    dsimp only at hM ⊢
    obtain ⟨nn2, cont2, rfl, hcont2, hM⟩ := iter_open' hM
    dsimp only [law28_CirculationFollows_b2] at hM
    refine cw_seq fun K10 hK10 => ?_
    refine cw_region ?_
    refine ow_ev ev_lss ?_
    refine ow_nil (hK10 _ _ ?_); clear hK10
    refine cw_seq fun K11 hK11 => ?_
    refine cw_cond rfl (fun hc11 => ?_) (fun hc11 => ?_)
    ·
      replace hM := (ite_t hc11).symm.trans hM
      have hc11d := of_decide_eq_true hc11
      refine cw_skip (hK11 _ _ ?_); clear hK11
      refine cw_seq fun K12 hK12 => ?_
      refine cw_block ?_
      refine cw_seq fun K13 hK13 => ?_
      refine cw_region ?_
      obtain ⟨x12, hx13, hM⟩ := bind_some hM
      refine ow_ev (ev_idx (xs := y1.1) 5 (Kn.trow (e := 60) (r := r3.1) (by repeat (first | exact Has.head | apply Has.tail))) (fun hg => let h := idx_some hx13; ⟨h.1, h.2.1⟩)) ?_
      refine ow_ev (ev_lds (m := 5) (i := (t26_2 : Int)) (xs := y1.1) (y := x12) (l := [.int .i64 x12.Type_, .int .i64 x12.From, .int .i64 x12.To, .int .i64 x12.Start, .int .i64 x12.End]) 0 (Kn.trow (e := 60) (r := r3.1) (by repeat (first | exact Has.head | apply Has.tail))) (fun _ => hx13)) ?_
      refine ow_cons (st_alloc rfl (k := fun b14 => ?_))
      refine ow_cons (st_store_all (b := b14) (vs := [.int .i64 x12.Type_, .int .i64 x12.From, .int .i64 x12.To, .int .i64 x12.Start, .int .i64 x12.End]) (k := ?_))
      refine ow_nil (hK13 _ _ ?_); clear hK13
      refine cw_seq fun K14 hK14 => ?_
      refine cw_region ?_
      refine ow_ev (ev_load_all (b := b4)) ?_
      refine ow_ev (ev_load_all (b := b9)) ?_
      refine ow_ev (ev_load_all (b := b14)) ?_
      obtain ⟨y15, hy16, hM⟩ := bind_some hM
      refine ow_cons (st_callv (fun w hm => let ⟨S, hs⟩ := hm; circulation_Follows_spec _ w y1.2 r3.2 x7 x12 y15 hy16 (lend_lt hs) ⟨(Kn.lend (Kn.trow (e := 58) (r := r3.2.1) (by repeat (first | exact Has.head | apply Has.tail))) hs), (Kn.lend (Kn.trow (e := 3) (r := r3.2.2) (by repeat (first | exact Has.head | apply Has.tail))) hs)⟩) ?_)
      refine ow_ev ev_move ?_
      refine ow_ev (ev_extract (vs := [.int .i64 y15.1, .bool y15.2])) ?_
      refine ow_ev (ev_extract (vs := [.int .i64 y15.1, .bool y15.2])) ?_
      refine ow_ev ev_assign ?_
      refine ow_ev ev_assign ?_
      refine ow_nil (hK14 _ _ ?_); clear hK14
      refine cw_seq fun K15 hK15 => ?_
      refine cw_region ?_
      refine ow_ev (ev_load_all (b := b4)) ?_
      refine ow_ev (ev_load_all (b := b9)) ?_
      refine ow_ev (ev_load_all (b := b14)) ?_
      obtain ⟨y17, hy18, hM⟩ := bind_some hM
      refine ow_cons (st_callv (fun w hm => let ⟨S, hs⟩ := hm; ref24_Follows_spec _ w y1.2 r3.2 x7 x12 y17 hy18 (lend_lt hs) ⟨(Kn.lend (Kn.trow (e := 58) (r := r3.2.1) (by repeat (first | exact Has.head | apply Has.tail))) hs), (Kn.lend (Kn.trow (e := 3) (r := r3.2.2) (by repeat (first | exact Has.head | apply Has.tail))) hs)⟩) ?_)
      refine ow_ev ev_move ?_
      refine ow_ev (ev_extract (vs := [.int .i64 y17.1, .bool y17.2])) ?_
      refine ow_ev (ev_extract (vs := [.int .i64 y17.1, .bool y17.2])) ?_
      refine ow_ev ev_assign ?_
      refine ow_ev ev_assign ?_
      refine ow_nil (hK15 _ _ ?_); clear hK15
      refine cw_seq fun K16 hK16 => ?_
      refine cw_region ?_
      refine ow_ev ev_move ?_
      refine ow_ev ev_move ?_
      refine ow_ev ev_neq ?_
      refine ow_ev ev_move ?_
      refine ow_evg rfl ev_move ?_
      refine ow_evg rfl ev_move ?_
      refine ow_evg rfl ev_bool_neq ?_
      refine ow_ev ev_or ?_
      refine ow_ev ev_move ?_
      refine ow_evg rfl ev_move ?_
      refine ow_evg rfl ev_move ?_
      refine ow_evg rfl (ev_field_addr 4) ?_
      refine ow_evg rfl (ev_load_own (b := b9)) ?_
      refine ow_evg rfl (ev_field_addr 0) ?_
      refine ow_evg rfl (ev_load_own (b := b4)) ?_
      obtain ⟨hI19, hM⟩ := chk_some hM
      refine ow_evg rfl (ev_add (hr := fun hg => i64b_I64 (gor hI19 hg))) ?_
      refine ow_evg rfl ev_move ?_
      obtain ⟨hI20, hM⟩ := chk_some hM
      refine ow_evg rfl (ev_add (hr := fun hg => i64b_I64 (gor hI20 hg))) ?_
      refine ow_evg rfl (ev_field_addr 3) ?_
      refine ow_evg rfl (ev_load_own (b := b14)) ?_
      refine ow_evg rfl ev_gtr ?_
      refine ow_evg rfl ev_and ?_
      refine ow_ev ev_or ?_
      refine ow_nil (hK16 _ _ ?_); clear hK16
      refine cw_cond rfl (fun hc21 => ?_) (fun hc21 => ?_)
      ·
        replace hM := (ite_t hc21).symm.trans hM
        refine cw_seq fun K17 hK17 => ?_
        refine cw_region ?_
        refine ow_ev ev_assign ?_
        refine ow_nil (hK17 _ _ ?_); clear hK17
        obtain rfl := some_inj hM
        refine cw_ret (kw_retc1 (fun w hm => ret_of hm rfl))
      ·
        replace hM := (ite_f hc21).symm.trans hM
        refine cw_skip (hK12 _ _ ?_); clear hK12
        refine cw_region ?_
        refine ow_ev (ev_add (hr := fun _ => by unfold I64; omega)) ?_
        refine ow_ev ev_move ?_
        refine ow_nil (hL2 (nn2, (t26_2 + 1), ()) _ _ (eqc hcont2 hM) (Nat.lt_succ_self _) ⟨rfl, rfl, rfl, rfl, rfl, rfl, rfl, rfl, rfl, trivial⟩ (fun w hm => hm.reord))
    ·
      replace hM := (ite_f hc11).symm.trans hM
      refine cw_exit (hK7 _ _ ?_); clear hK7
      dsimp only [law28_CirculationFollows_k2] at hM
      refine cw_region ?_
      refine ow_ev (ev_add (hr := fun _ => by unfold I64; omega)) ?_
      refine ow_ev ev_move ?_
      refine ow_nil (hL1 (nn1, (t20_1 + 1), ()) _ _ (eqc hcont1 hM) (Nat.lt_succ_self _) ⟨rfl, rfl, rfl, rfl, rfl, trivial⟩ (fun w hm => hm.reord))
  ·
    replace hM := (ite_f hc6).symm.trans hM
    refine cw_exit (hK3 _ _ ?_); clear hK3
    dsimp only [law28_CirculationFollows_k1] at hM
    refine cw_seq fun K18 hK18 => ?_
    refine cw_region ?_
    obtain ⟨y22, hy23, hM⟩ := bind_some hM
    refine ow_cons (st_callv (fun w hm => let ⟨S, hs⟩ := hm; law28_awake_spec _ w  y22 hy23 (lend_lt hs) ) ?_)
    refine ow_ev ev_assign ?_
    refine ow_nil (hK18 _ _ ?_); clear hK18
    obtain rfl := some_inj hM
    refine cw_ret (kw_retc1 (fun w hm => ret_of hm rfl))

def law28_CirculationChains_k1 (lnext_1 : List Int) (raw0 : List Int) : Unit → Option Bool := fun _ =>
  (circulation_Chains_m lnext_1).bind fun y17 =>
  (ref24_Chains_m lnext_1).bind fun y20 =>
  (circulation_Chains_m raw0).bind fun y23 =>
  (ref24_Chains_m raw0).bind fun y26 =>
  (law28_awake_m).bind fun y29 =>
  (whn y29 default (keep_SameLists_int_m y17.1 y20.1)).bind fun y31 =>
  (whn ((y29 && y31) && decide (y17.2 = y20.2)) default (keep_SameLists_int_m y23.1 y26.1)).bind fun y33 =>
  some ((((y29 && y31) && decide (y17.2 = y20.2)) && y33) && decide (y23.2 = y26.2))
def law28_CirculationChains_b1 (y1 : Keep_Source) (raw0 : List Int) (cont1 : ((List Int) × Int × Int) → Option Bool) : ((List Int) × Int × Int) → Option Bool := fun (lnext_1, s_1_1, n_1) =>
  if decide (0 < n_1) then
    ((keep_Source_Next_m (Keep_Source.mk y1.l s_1_1) 9).bind fun y9 =>
    chk (i64b (y9.1 - 2)) <|
    chk (decide ((lnext_1.length + ([(y9.1 - 2)] : List Int).length) * 8 ≤ 140737488355328)) <|
    chk (i64b (n_1 - 1)) <|
    cont1 ((lnext_1 ++ ([(y9.1 - 2)] : List Int)), y9.2, (n_1 - 1)))
  else
    (law28_CirculationChains_k1 lnext_1 raw0 ())
def law28_CirculationChains_m (raw0 : List Int) (l0 : List Int) : Option Bool :=
  (keep_From_m l0).bind fun y1 =>
  (keep_Source_Next_m y1 7).bind fun y4 =>
  iter (law28_CirculationChains_b1 y1 raw0) FUEL (([] : List Int), y4.2, y4.1)
theorem law28_CirculationChains_spec (S : Soup) (w : World) (raw0 : List Int) (r_raw0 : GoRep.R (List Int)) (l0 : List Int) (r_l0 : GoRep.R (List Int)) (y : Bool) (hM : law28_CirculationChains_m raw0 l0 = some y) (hS : ∀ k, S k → k < w.heap.size) (h_raw0 : GoRep.ok S w r_raw0 raw0) (h_l0 : GoRep.ok S w r_l0 l0) :
    Calls Try.prog 13 #[.slice r_raw0.a raw0.length r_raw0.cap, .slice r_l0.a l0.length r_l0.cap] w (Ret w (.bool y)) := by
  refine calls_cw (args := [_, _]) Try.func13 rfl ((pre_nil hS).start |>.immP (α := List Int) (r := r_raw0) (x := raw0) h_raw0|>.immP (α := List Int) (r := r_l0) (x := l0) h_l0) rfl ?_
  unfold law28_CirculationChains_m at hM
  refine cw_seq fun K1 hK1 => ?_
  refine cw_region ?_
  refine ow_ev ev_assign ?_
  refine ow_nil (hK1 _ _ ?_); clear hK1
  refine cw_seq fun K2 hK2 => ?_
  refine cw_region ?_
  refine ow_ev ev_assign ?_
  refine ow_nil (hK2 _ _ ?_); clear hK2
  refine cw_seq fun K3 hK3 => ?_
  refine cw_region ?_
  refine ow_ev ev_move ?_
  obtain ⟨y1, hy2, hM⟩ := bind_some hM
  refine ow_cons (st_callS SelL.nil (fun S w hs hP => keep_From_spec _ w l0 r_l0 y1 hy2 hs.lt ((Sk.imm (α := List Int) (r := r_l0) (x := l0) (by repeat (first | exact Has.head | apply Has.tail))) S w hs))  (fun r3 => ?_))
  dsimp only [List.cons_append, List.nil_append]
  refine ow_ev ev_assign ?_
  refine ow_nil (hK3 _ _ ?_); clear hK3
  refine cw_seq fun K4 hK4 => ?_
  refine cw_seq fun K5 hK5 => ?_
  refine cw_region ?_
  refine ow_ev ev_move ?_
  obtain ⟨y4, hy5, hM⟩ := bind_some hM
  refine ow_cons (st_callF (by repeat (first | exact SelL.nil | (apply SelL.cons; · (repeat (first | exact Sel.head | apply Sel.tail))))) (fun S w hs hP => keep_Source_Next_spec _ w r3.1 y1 r3.2 7 y4 hy5 hP (Kn.lend (Kn.imm (α := List Int) (r := r3.2) (x := y1.l) (by repeat (first | exact Has.head | apply Has.tail))) hs)) (by intro r c hc; simp only [List.mem_cons, List.not_mem_nil, or_false] at hc; rcases hc with rfl <;> first | exact flatC_own | exact flatC_trow (fun _ _ _ _ => trivial)) (fun r6 => ?_))
  dsimp only [List.cons_append, List.nil_append]
  refine ow_ev ev_assign ?_
  refine ow_nil (hK5 _ _ ?_); clear hK5
  refine cw_block ?_
  refine cw_imp (fun w hm => hm.row_nil (α := Int) 3 (fun _ => ())) ?_
  refine cw_loop (γ := Nat × ((List Int) × Int × Int) × (SR (GoRep.R Int))) (env := fun (_, (lnext_1, s_1_1, n_1), rnext_1) => [(0, .v (.slice r_raw0.a raw0.length r_raw0.cap)), (5, .v (.slice rnext_1.a lnext_1.length rnext_1.cap)), (6, .v (.pointer (some ⟨r3.1, 0, none⟩))), (7, .v (.int .i64 n_1))]) (mem := fun (_, (lnext_1, s_1_1, n_1), rnext_1) => [imm (α := (List Int)) r_raw0 raw0, trow 3 rnext_1 lnext_1, imm (α := (List Int)) r3.2 y1.l, own r3.1 99 [.slice r3.2.a y1.l.length r3.2.cap, .int .i64 s_1_1]]) (R := fun g => iter (law28_CirculationChains_b1 y1 raw0) g.1 g.2.1 = some y) (μ := fun g => g.1) (FUEL, (([] : List Int), y4.2, y4.1), (⟨none, 0, (fun _ => ())⟩ : SR (GoRep.R Int) )) hM ⟨rfl, rfl, rfl, rfl, trivial⟩ (fun w hm => hm.reord) ?_
  clear hM
  intro g hM KL1 hL1
  obtain ⟨nn1, ⟨lnext_1, s_1_1, n_1⟩, rnext_1⟩ := g
  dsimp only at hM ⊢
  obtain ⟨nn1, cont1, rfl, hcont1, hM⟩ := iter_open' hM
  dsimp only [law28_CirculationChains_b1] at hM
  refine cw_seq fun K6 hK6 => ?_
  refine cw_seq fun K7 hK7 => ?_
  refine cw_region ?_
  refine ow_ev ev_move ?_
  refine ow_ev ev_gtr ?_
  refine ow_nil (hK7 _ _ ?_); clear hK7
  refine cw_cond rfl (fun hc8 => ?_) (fun hc8 => ?_)
  ·
    replace hM := (ite_t hc8).symm.trans hM
    refine cw_skip (hK6 _ _ ?_); clear hK6
    refine cw_seq fun K8 hK8 => ?_
    refine cw_block ?_
    refine cw_region ?_
    refine ow_ev ev_move ?_
    refine ow_ev ev_move ?_
    obtain ⟨y9, hy10, hM⟩ := bind_some hM
    refine ow_cons (st_callF (by repeat (first | exact SelL.nil | (apply SelL.cons; · (repeat (first | exact Sel.head | apply Sel.tail))))) (fun S w hs hP => keep_Source_Next_spec _ w r3.1 (Keep_Source.mk y1.l s_1_1) r3.2 9 y9 hy10 hP (Kn.lend (Kn.imm (α := List Int) (r := r3.2) (x := y1.l) (by repeat (first | exact Has.head | apply Has.tail))) hs)) (by intro r c hc; simp only [List.mem_cons, List.not_mem_nil, or_false] at hc; rcases hc with rfl <;> first | exact flatC_own | exact flatC_trow (fun _ _ _ _ => trivial)) (fun r11 => ?_))
    dsimp only [List.cons_append, List.nil_append]
    obtain ⟨hI12, hM⟩ := chk_some hM
    refine ow_ev (ev_sub (hr := fun hg => i64b_I64 hI12)) ?_
    refine ow_cons (st_bslice (α := Int) 3 (fun _ => ()) ([(y9.1 - 2)] : List Int) (OkL.flat (fun _ _ _ _ => trivial)) (fun r13 => ?_))
    obtain ⟨hb14, hM⟩ := chk_some hM
    refine ow_cons (st_append (r := rnext_1) (r2 := r13) (by intro r'; repeat (first | exact Upd.head | apply Upd.tail)) (Kn.trow (e := 3) (r := r13) (by repeat (first | exact Has.head | apply Has.tail))) (OkL.flat (fun _ _ _ _ => trivial)) (of_decide_eq_true hb14) (fun r15 => ?_))
    refine ow_ev ev_assign ?_
    refine ow_nil (hK8 _ _ ?_); clear hK8
    refine cw_region ?_
    refine ow_ev ev_move ?_
    obtain ⟨hI16, hM⟩ := chk_some hM
    refine ow_ev (ev_sub (hr := fun hg => i64b_I64 hI16)) ?_
    refine ow_ev ev_assign ?_
    refine ow_nil (hL1 (nn1, ((lnext_1 ++ ([(y9.1 - 2)] : List Int)), y9.2, (n_1 - 1)), r15) _ _ (eqc hcont1 hM) (Nat.lt_succ_self _) ⟨rfl, rfl, rfl, rfl, trivial⟩ (fun w hm => hm.reord))
  ·
    replace hM := (ite_f hc8).symm.trans hM
    refine cw_exit (hK4 _ _ ?_); clear hK4
    dsimp only [law28_CirculationChains_k1] at hM
    refine cw_seq fun K9 hK9 => ?_
    refine cw_region ?_
    refine ow_ev ev_move ?_
    refine ow_imp (fun w hm => hm.freeze (r := rnext_1) (by repeat (first | exact Upd.head | apply Upd.tail))) ?_
    obtain ⟨y17, hy18, hM⟩ := bind_some hM
    refine ow_cons (st_callS SelL.nil (fun S w hs hP => circulation_Chains_spec _ w lnext_1 rnext_1 y17 hy18 hs.lt ((Sk.imm (α := List Int) (r := rnext_1) (x := lnext_1) (by repeat (first | exact Has.head | apply Has.tail))) S w hs))  (fun r19 => ?_))
    dsimp only [List.cons_append, List.nil_append]
    refine ow_ev ev_move ?_
    refine ow_ev (ev_extract (vs := [.slice r19.a y17.1.length r19.cap, .int .i64 y17.2])) ?_
    refine ow_ev (ev_extract (vs := [.slice r19.a y17.1.length r19.cap, .int .i64 y17.2])) ?_
    refine ow_ev ev_assign ?_
    refine ow_ev ev_assign ?_
    refine ow_nil (hK9 _ _ ?_); clear hK9
    refine cw_seq fun K10 hK10 => ?_
    refine cw_region ?_
    refine ow_ev ev_move ?_
    obtain ⟨y20, hy21, hM⟩ := bind_some hM
    refine ow_cons (st_callS SelL.nil (fun S w hs hP => ref24_Chains_spec _ w lnext_1 rnext_1 y20 hy21 hs.lt ((Sk.imm (α := List Int) (r := rnext_1) (x := lnext_1) (by repeat (first | exact Has.head | apply Has.tail))) S w hs))  (fun r22 => ?_))
    dsimp only [List.cons_append, List.nil_append]
    refine ow_ev ev_move ?_
    refine ow_ev (ev_extract (vs := [.slice r22.a y20.1.length r22.cap, .int .i64 y20.2])) ?_
    refine ow_ev (ev_extract (vs := [.slice r22.a y20.1.length r22.cap, .int .i64 y20.2])) ?_
    refine ow_ev ev_assign ?_
    refine ow_ev ev_assign ?_
    refine ow_nil (hK10 _ _ ?_); clear hK10
    refine cw_seq fun K11 hK11 => ?_
    refine cw_region ?_
    refine ow_ev ev_move ?_
    obtain ⟨y23, hy24, hM⟩ := bind_some hM
    refine ow_cons (st_callS SelL.nil (fun S w hs hP => circulation_Chains_spec _ w raw0 r_raw0 y23 hy24 hs.lt ((Sk.imm (α := List Int) (r := r_raw0) (x := raw0) (by repeat (first | exact Has.head | apply Has.tail))) S w hs))  (fun r25 => ?_))
    dsimp only [List.cons_append, List.nil_append]
    refine ow_ev ev_move ?_
    refine ow_ev (ev_extract (vs := [.slice r25.a y23.1.length r25.cap, .int .i64 y23.2])) ?_
    refine ow_ev (ev_extract (vs := [.slice r25.a y23.1.length r25.cap, .int .i64 y23.2])) ?_
    refine ow_ev ev_assign ?_
    refine ow_ev ev_assign ?_
    refine ow_nil (hK11 _ _ ?_); clear hK11
    refine cw_seq fun K12 hK12 => ?_
    refine cw_region ?_
    refine ow_ev ev_move ?_
    obtain ⟨y26, hy27, hM⟩ := bind_some hM
    refine ow_cons (st_callS SelL.nil (fun S w hs hP => ref24_Chains_spec _ w raw0 r_raw0 y26 hy27 hs.lt ((Sk.imm (α := List Int) (r := r_raw0) (x := raw0) (by repeat (first | exact Has.head | apply Has.tail))) S w hs))  (fun r28 => ?_))
    dsimp only [List.cons_append, List.nil_append]
    refine ow_ev ev_move ?_
    refine ow_ev (ev_extract (vs := [.slice r28.a y26.1.length r28.cap, .int .i64 y26.2])) ?_
    refine ow_ev (ev_extract (vs := [.slice r28.a y26.1.length r28.cap, .int .i64 y26.2])) ?_
    refine ow_ev ev_assign ?_
    refine ow_ev ev_assign ?_
    refine ow_nil (hK12 _ _ ?_); clear hK12
    refine cw_seq fun K13 hK13 => ?_
    refine cw_region ?_
    obtain ⟨y29, hy30, hM⟩ := bind_some hM
    refine ow_cons (st_callv (fun w hm => let ⟨S, hs⟩ := hm; law28_awake_spec _ w  y29 hy30 (lend_lt hs) ) ?_)
    refine ow_ev ev_move ?_
    refine ow_evg rfl ev_move ?_
    refine ow_evg rfl ev_move ?_
    obtain ⟨y31, hy32, hM⟩ := bind_some hM
    refine ow_callg rfl (fun hg w hm => let ⟨S, hs⟩ := hm; keep_SameLists_int_spec _ w y17.1 r19 y20.1 r22 y31 (whn_some hy32 hg) (lend_lt hs) (Kn.lend (Kn.trow (e := 22) (r := r19) (by repeat (first | exact Has.head | apply Has.tail))) hs) (Kn.lend (Kn.trow (e := 22) (r := r22) (by repeat (first | exact Has.head | apply Has.tail))) hs)) ?_
    refine ow_ev ev_and ?_
    refine ow_ev ev_move ?_
    refine ow_evg rfl ev_move ?_
    refine ow_evg rfl ev_move ?_
    refine ow_evg rfl ev_eql ?_
    refine ow_ev ev_and ?_
    refine ow_ev ev_move ?_
    refine ow_evg rfl ev_move ?_
    refine ow_evg rfl ev_move ?_
    obtain ⟨y33, hy34, hM⟩ := bind_some hM
    refine ow_callg rfl (fun hg w hm => let ⟨S, hs⟩ := hm; keep_SameLists_int_spec _ w y23.1 r25 y26.1 r28 y33 (whn_some hy34 hg) (lend_lt hs) (Kn.lend (Kn.trow (e := 22) (r := r25) (by repeat (first | exact Has.head | apply Has.tail))) hs) (Kn.lend (Kn.trow (e := 22) (r := r28) (by repeat (first | exact Has.head | apply Has.tail))) hs)) ?_
    refine ow_ev ev_and ?_
    refine ow_ev ev_move ?_
    refine ow_evg rfl ev_move ?_
    refine ow_evg rfl ev_move ?_
    refine ow_evg rfl ev_eql ?_
    refine ow_ev ev_and ?_
    refine ow_ev ev_assign ?_
    refine ow_nil (hK13 _ _ ?_); clear hK13
    obtain rfl := some_inj hM
    refine cw_ret (kw_retc1 (fun w hm => ret_of hm rfl))

def law28_CirculationVerify_k1 (y2 : (List Task) × Rules) (next0 : List Int) (c0 : Cover) : ((List Int) × (List Int) × (List Int)) → Option Bool := fun (lmade_j1, lcover_j1_0, lcover_j1_1) =>
  (circulation_Empty_m y2.1 y2.2 lmade_j1).bind fun y14 =>
  (ref24_EmptySeconds_m y2.1 y2.2 lmade_j1).bind fun y16 =>
  (circulation_Empty_m y2.1 y2.2 next0).bind fun y18 =>
  (ref24_EmptySeconds_m y2.1 y2.2 next0).bind fun y20 =>
  (law28_awake_m).bind fun y22 =>
  (whn y22 default (circulation_Verify_m y2.1 y2.2 lmade_j1 (Cover.mk lcover_j1_0 lcover_j1_1))).bind fun y24 =>
  (whn y22 default (ref24_VerifyCover_m y2.1 y2.2 lmade_j1 (Cover.mk lcover_j1_0 lcover_j1_1))).bind fun y26 =>
  (whn (y22 && (y24 == y26)) default (circulation_Verify_m y2.1 y2.2 next0 c0)).bind fun y28 =>
  (whn (y22 && (y24 == y26)) default (ref24_VerifyCover_m y2.1 y2.2 next0 c0)).bind fun y30 =>
  some ((((((y22 && (y24 == y26)) && (y28 == y30)) && decide (y14.1 = y16.1)) && decide (y14.2 = y16.2)) && decide (y18.1 = y20.1)) && decide (y18.2 = y20.2))
def law28_CirculationVerify_m (l0 : List Int) (next0 : List Int) (c0 : Cover) (how0 : Int) (at0 : Int) (v0 : Int) : Option Bool :=
  (keep2_Tasks_m l0).bind fun y2 =>
  (circulation_Build_m y2.1 y2.2).bind fun y6 =>
  if (decide (y6.2.2 ≠ 0) || decide ((y6.1.length : Int) ≠ (y2.1.length : Int))) then
    (some false)
  else
    (chk (decide ((([] : List Int).length + y6.1.length) * 8 ≤ 140737488355328)) <|
    (keep_Pick_m how0 4).bind fun y32 =>
    if decide (y32 = 0) then
      (if decide (0 < ((([] : List Int) ++ y6.1).length : Int)) then
        ((keep_Pick_m at0 ((([] : List Int) ++ y6.1).length : Int)).bind fun y36 =>
        chk (i64b (((([] : List Int) ++ y6.1).length : Int) + 2)) <|
        (keep_Pick_m v0 (((([] : List Int) ++ y6.1).length : Int) + 2)).bind fun y39 =>
        chk (i64b (y39 - 2)) <|
        (idx (([] : List Int) ++ y6.1) y36).bind fun x42 =>
        law28_CirculationVerify_k1 y2 next0 c0 (((([] : List Int) ++ y6.1).set y36.toNat (y39 - 2)), y6.2.1.Left, y6.2.1.Right))
      else
        (law28_CirculationVerify_k1 y2 next0 c0 ((([] : List Int) ++ y6.1), y6.2.1.Left, y6.2.1.Right)))
    else
      (if decide (y32 = 1) then
        (chk (decide ((([] : List Int).length + y6.2.1.Left.length) * 8 ≤ 140737488355328)) <|
        (keep_Pick_m v0 6).bind fun y48 =>
        chk (decide (((([] : List Int) ++ y6.2.1.Left).length + ([y48] : List Int).length) * 8 ≤ 140737488355328)) <|
        law28_CirculationVerify_k1 y2 next0 c0 ((([] : List Int) ++ y6.1), ((([] : List Int) ++ y6.2.1.Left) ++ ([y48] : List Int)), y6.2.1.Right))
      else
        (if decide (y32 = 2) then
          (chk (i64b ((y6.2.1.Right.length : Int) - 1)) <|
          (sub y6.2.1.Right 0 (if ((y6.2.1.Right.length : Int) - 1) > 0 then ((y6.2.1.Right.length : Int) - 1) else 0)).bind fun l55 =>
          law28_CirculationVerify_k1 y2 next0 c0 ((([] : List Int) ++ y6.1), y6.2.1.Left, l55))
        else
          (law28_CirculationVerify_k1 y2 next0 c0 ((([] : List Int) ++ y6.1), y6.2.1.Right, y6.2.1.Left)))))
theorem law28_CirculationVerify_spec (S : Soup) (w : World) (l0 : List Int) (r_l0 : GoRep.R (List Int)) (next0 : List Int) (r_next0 : GoRep.R (List Int)) (c0 : Cover) (r_c0 : GoRep.R Cover) (how0 : Int) (at0 : Int) (v0 : Int) (y : Bool) (hM : law28_CirculationVerify_m l0 next0 c0 how0 at0 v0 = some y) (hS : ∀ k, S k → k < w.heap.size) (h_l0 : GoRep.ok S w r_l0 l0) (h_next0 : GoRep.ok S w r_next0 next0) (h_c0 : GoRep.ok S w r_c0 c0) :
    Calls Try.prog 18 #[.slice r_l0.a l0.length r_l0.cap, .slice r_next0.a next0.length r_next0.cap, .agg #[.slice r_c0.1.a c0.Left.length r_c0.1.cap, .slice r_c0.2.a c0.Right.length r_c0.2.cap], .int .i64 how0, .int .i64 at0, .int .i64 v0] w (Ret w (.bool y)) := by
  refine calls_cw (args := [_, _, _, _, _, _]) Try.func18 rfl ((pre_nil hS).start |>.immP (α := List Int) (r := r_l0) (x := l0) h_l0|>.immP (α := List Int) (r := r_next0) (x := next0) h_next0|>.immP (α := List Int) (r := r_c0.1) (x := c0.Left) h_c0.1|>.immP (α := List Int) (r := r_c0.2) (x := c0.Right) h_c0.2) rfl ?_
  unfold law28_CirculationVerify_m at hM
  refine cw_seq fun K1 hK1 => ?_
  refine cw_region ?_
  refine ow_cons (st_box (l := [.slice r_c0.1.a c0.Left.length r_c0.1.cap, .slice r_c0.2.a c0.Right.length r_c0.2.cap]) (k := fun b1 => ?_))
  refine ow_ev ev_assign ?_
  refine ow_nil (hK1 _ _ ?_); clear hK1
  refine cw_seq fun K2 hK2 => ?_
  refine cw_region ?_
  refine ow_ev ev_move ?_
  obtain ⟨y2, hy3, hM⟩ := bind_some hM
  refine ow_cons (st_callF SelL.nil (fun S w hs hP => keep2_Tasks_spec _ w l0 r_l0 y2 hy3 (lend_lt hs) (Kn.lend (Kn.imm (α := List Int) (r := r_l0) (x := l0) (by repeat (first | exact Has.head | apply Has.tail))) hs)) (by intro r c hc; simp only [List.mem_cons, List.not_mem_nil, or_false] at hc; rcases hc with rfl | rfl | rfl <;> first | exact flatC_own | exact flatC_trow (fun _ _ _ _ => trivial)) (fun r4 => ?_))
  dsimp only [List.cons_append, List.nil_append]
  refine ow_ev ev_move ?_
  refine ow_ev (ev_extract (vs := [.slice r4.1.a y2.1.length r4.1.cap, .agg #[.int .i64 y2.2.Turn, .slice r4.2.1.a y2.2.Empties.length r4.2.1.cap, .slice r4.2.2.a y2.2.Shops.length r4.2.2.cap, .int .i64 y2.2.Service, .int .i64 y2.2.Limit]])) ?_
  refine ow_ev (ev_extract (vs := [.slice r4.1.a y2.1.length r4.1.cap, .agg #[.int .i64 y2.2.Turn, .slice r4.2.1.a y2.2.Empties.length r4.2.1.cap, .slice r4.2.2.a y2.2.Shops.length r4.2.2.cap, .int .i64 y2.2.Service, .int .i64 y2.2.Limit]])) ?_
  refine ow_cons (st_alloc rfl (k := fun b5 => ?_))
  refine ow_ev ev_assign ?_
  refine ow_cons (st_store_all (b := b5) (vs := [.int .i64 y2.2.Turn, .slice r4.2.1.a y2.2.Empties.length r4.2.1.cap, .slice r4.2.2.a y2.2.Shops.length r4.2.2.cap, .int .i64 y2.2.Service, .int .i64 y2.2.Limit]) (k := ?_))
  refine ow_nil (hK2 _ _ ?_); clear hK2
  refine cw_seq fun K3 hK3 => ?_
  refine cw_region ?_
  refine ow_ev ev_move ?_
  refine ow_ev (ev_load_all (b := b5)) ?_
  obtain ⟨y6, hy7, hM⟩ := bind_some hM
  refine ow_cons (st_callF SelL.nil (fun S w hs hP => circulation_Build_spec _ w y2.1 r4.1 y2.2 r4.2 y6 hy7 (lend_lt hs) (Kn.lend (Kn.trow (e := 60) (r := r4.1) (by repeat (first | exact Has.head | apply Has.tail))) hs) ⟨(Kn.lend (Kn.trow (e := 58) (r := r4.2.1) (by repeat (first | exact Has.head | apply Has.tail))) hs), (Kn.lend (Kn.trow (e := 3) (r := r4.2.2) (by repeat (first | exact Has.head | apply Has.tail))) hs)⟩) (by intro r c hc; simp only [List.mem_cons, List.not_mem_nil, or_false] at hc; rcases hc with rfl | rfl | rfl <;> first | exact flatC_own | exact flatC_trow (fun _ _ _ _ => trivial)) (fun r8 => ?_))
  dsimp only [List.cons_append, List.nil_append]
  refine ow_ev ev_move ?_
  refine ow_ev (ev_extract (vs := [.slice r8.1.a y6.1.length r8.1.cap, .agg #[.slice r8.2.1.a y6.2.1.Left.length r8.2.1.cap, .slice r8.2.2.a y6.2.1.Right.length r8.2.2.cap], .int .i64 y6.2.2])) ?_
  refine ow_ev (ev_extract (vs := [.slice r8.1.a y6.1.length r8.1.cap, .agg #[.slice r8.2.1.a y6.2.1.Left.length r8.2.1.cap, .slice r8.2.2.a y6.2.1.Right.length r8.2.2.cap], .int .i64 y6.2.2])) ?_
  refine ow_ev (ev_extract (vs := [.slice r8.1.a y6.1.length r8.1.cap, .agg #[.slice r8.2.1.a y6.2.1.Left.length r8.2.1.cap, .slice r8.2.2.a y6.2.1.Right.length r8.2.2.cap], .int .i64 y6.2.2])) ?_
  refine ow_cons (st_alloc rfl (k := fun b9 => ?_))
  refine ow_ev ev_assign ?_
  refine ow_cons (st_store_all (b := b9) (vs := [.slice r8.2.1.a y6.2.1.Left.length r8.2.1.cap, .slice r8.2.2.a y6.2.1.Right.length r8.2.2.cap]) (k := ?_))
  refine ow_ev ev_assign ?_
  refine ow_nil (hK3 _ _ ?_); clear hK3
  refine cw_seq fun K4 hK4 => ?_
  refine cw_seq fun K5 hK5 => ?_
  refine cw_region ?_
  refine ow_ev ev_move ?_
  refine ow_ev ev_neq ?_
  refine ow_ev ev_move ?_
  refine ow_evg rfl ev_move ?_
  refine ow_evg rfl ev_len ?_
  refine ow_evg rfl ev_move ?_
  refine ow_evg rfl ev_len ?_
  refine ow_evg rfl ev_neq ?_
  refine ow_ev ev_or ?_
  refine ow_nil (hK5 _ _ ?_); clear hK5
  refine cw_cond rfl (fun hc10 => ?_) (fun hc10 => ?_)
  ·
    replace hM := (ite_t hc10).symm.trans hM
    refine cw_seq fun K6 hK6 => ?_
    refine cw_region ?_
    refine ow_ev ev_assign ?_
    refine ow_nil (hK6 _ _ ?_); clear hK6
    obtain rfl := some_inj hM
    refine cw_ret (kw_retc1 (fun w hm => ret_of hm rfl))
  ·
    replace hM := (ite_f hc10).symm.trans hM
    refine cw_skip (hK4 _ _ ?_); clear hK4
    refine cw_seq fun K7 hK7 => ?_
    refine cw_region ?_
    refine ow_ev ev_move ?_
    refine ow_imp (fun w hm => hm.row_nil (α := Int) 3 (fun _ => ())) ?_
    obtain ⟨hb12, hM⟩ := chk_some hM
    refine ow_cons (st_append (r := (⟨none, 0, (fun _ => ())⟩ : SR (GoRep.R Int) )) (r2 := r8.1) (by intro r'; repeat (first | exact Upd.head | apply Upd.tail)) (Kn.trow (e := 3) (r := r8.1) (by repeat (first | exact Has.head | apply Has.tail))) (OkL.flat (fun _ _ _ _ => trivial)) (of_decide_eq_true hb12) (fun r13 => ?_))
    refine ow_ev ev_assign ?_
    refine ow_nil (hK7 _ _ ?_); clear hK7
    refine cw_cut (γ := ((List Int) × (List Int) × (List Int)) × ((SR (GoRep.R Int)) × (SR (GoRep.R Int)))) (env := fun ((lmade_j1, lcover_j1_0, lcover_j1_1), (rcover_j1_0, rcover_j1_1)) => [(1, .v (.slice r_next0.a next0.length r_next0.cap)), (8, .v (.pointer (some ⟨b1, 0, none⟩))), (13, .v (.slice r4.1.a y2.1.length r4.1.cap)), (14, .v (.pointer (some ⟨b5, 0, none⟩))), (15, .v (.slice r13.a lmade_j1.length r13.cap)), (16, .v (.pointer (some ⟨b9, 0, none⟩)))]) (mem := fun ((lmade_j1, lcover_j1_0, lcover_j1_1), (rcover_j1_0, rcover_j1_1)) => [imm (α := (List Int)) r_next0 next0, imm (α := (List Int)) r_c0.1 c0.Left, imm (α := (List Int)) r_c0.2 c0.Right, own b1 72 [.slice r_c0.1.a c0.Left.length r_c0.1.cap, .slice r_c0.2.a c0.Right.length r_c0.2.cap], trow 60 r4.1 y2.1, trow 58 r4.2.1 y2.2.Empties, trow 3 r4.2.2 y2.2.Shops, own b5 53 [.int .i64 y2.2.Turn, .slice r4.2.1.a y2.2.Empties.length r4.2.1.cap, .slice r4.2.2.a y2.2.Shops.length r4.2.2.cap, .int .i64 y2.2.Service, .int .i64 y2.2.Limit], trow 3 r13 lmade_j1, trow 3 rcover_j1_0 lcover_j1_0, imm (α := (List Int)) rcover_j1_1 lcover_j1_1, own b9 72 [.slice rcover_j1_0.a lcover_j1_0.length rcover_j1_0.cap, .slice rcover_j1_1.a lcover_j1_1.length rcover_j1_1.cap]]) (R := fun g => law28_CirculationVerify_k1 y2 next0 c0 g.1 = some y) ?_ ?_
    · intro KJ1 hJ1
      refine cw_seq fun K13 hK13 => ?_
      refine cw_region ?_
      refine ow_ev ev_move ?_
      obtain ⟨y32, hy33, hM⟩ := bind_some hM
      refine ow_cons (st_callv (fun w hm => let ⟨S, hs⟩ := hm; keep_Pick_spec _ w how0 4 y32 hy33 (lend_lt hs) ) ?_)
      refine ow_nil (hK13 _ _ ?_); clear hK13
      refine cw_block ?_
      refine cw_seq fun K14 hK14 => ?_
      refine cw_region ?_
      refine ow_ev ev_eql ?_
      refine ow_ev ev_assign ?_
      refine ow_nil (hK14 _ _ ?_); clear hK14
      refine cw_cond rfl (fun hc34 => ?_) (fun hc34 => ?_)
      ·
        replace hM := (ite_t hc34).symm.trans hM
        refine cw_seq fun K15 hK15 => ?_
        refine cw_region ?_
        refine ow_ev ev_move ?_
        refine ow_ev ev_len ?_
        refine ow_ev ev_gtr ?_
        refine ow_nil (hK15 _ _ ?_); clear hK15
        refine cw_cond rfl (fun hc35 => ?_) (fun hc35 => ?_)
        ·
          replace hM := (ite_t hc35).symm.trans hM
          refine cw_region ?_
          refine ow_ev ev_move ?_
          refine ow_ev ev_move ?_
          refine ow_ev ev_move ?_
          refine ow_ev ev_len ?_
          obtain ⟨y36, hy37, hM⟩ := bind_some hM
          refine ow_cons (st_callv (fun w hm => let ⟨S, hs⟩ := hm; keep_Pick_spec _ w at0 ((([] : List Int) ++ y6.1).length : Int) y36 hy37 (lend_lt hs) ) ?_)
          refine ow_ev ev_move ?_
          refine ow_ev ev_move ?_
          refine ow_ev ev_len ?_
          obtain ⟨hI38, hM⟩ := chk_some hM
          refine ow_ev (ev_add (hr := fun hg => i64b_I64 hI38)) ?_
          obtain ⟨y39, hy40, hM⟩ := bind_some hM
          refine ow_cons (st_callv (fun w hm => let ⟨S, hs⟩ := hm; keep_Pick_spec _ w v0 (((([] : List Int) ++ y6.1).length : Int) + 2) y39 hy40 (lend_lt hs) ) ?_)
          obtain ⟨hI41, hM⟩ := chk_some hM
          refine ow_ev (ev_sub (hr := fun hg => i64b_I64 hI41)) ?_
          obtain ⟨x42, hx43, hM⟩ := bind_some hM
          refine ow_ev (ev_idx (xs := (([] : List Int) ++ y6.1)) 1 (Kn.trow (e := 3) (r := r13) (by repeat (first | exact Has.head | apply Has.tail))) (fun hg => let h := idx_some hx43; ⟨h.1, h.2.1⟩)) ?_
          refine ow_cons (st_set (r := r13) (i := y36) (xs := (([] : List Int) ++ y6.1)) (u := x42) (vs := [.int .i64 (y39 - 2)]) 0 (y39 - 2) hx43 rfl (fun _ _ h => h) (by repeat (first | exact Upd.head | apply Upd.tail)) ?_)
          refine ow_imp (fun w hm => hm.freeze (r := r8.2.2) (by repeat (first | exact Upd.head | apply Upd.tail))) ?_
          refine ow_nil (hJ1 ((((([] : List Int) ++ y6.1).set y36.toNat (y39 - 2)), y6.2.1.Left, y6.2.1.Right), (r8.2.1, r8.2.2)) _ _ hM ⟨rfl, rfl, rfl, rfl, (by simp only [List.length_set]; rfl), rfl, trivial⟩ (fun w hm => hm.reord))
        ·
          replace hM := (ite_f hc35).symm.trans hM
          refine cw_imp (fun w hm => hm.freeze (r := r8.2.2) (by repeat (first | exact Upd.head | apply Upd.tail))) ?_
          refine cw_skip (hJ1 (((([] : List Int) ++ y6.1), y6.2.1.Left, y6.2.1.Right), (r8.2.1, r8.2.2)) _ _ hM ⟨rfl, rfl, rfl, rfl, rfl, rfl, trivial⟩ (fun w hm => hm.reord))
      ·
        replace hM := (ite_f hc34).symm.trans hM
        refine cw_seq fun K16 hK16 => ?_
        refine cw_region ?_
        refine ow_ev ev_eql ?_
        refine ow_ev ev_assign ?_
        refine ow_nil (hK16 _ _ ?_); clear hK16
        refine cw_cond rfl (fun hc44 => ?_) (fun hc44 => ?_)
        ·
          replace hM := (ite_t hc44).symm.trans hM
          refine cw_region ?_
          refine ow_ev (ev_field_addr 0) ?_
          refine ow_ev (ev_load_own (b := b9)) ?_
          refine ow_imp (fun w hm => hm.row_nil (α := Int) 3 (fun _ => ())) ?_
          obtain ⟨hb46, hM⟩ := chk_some hM
          refine ow_cons (st_append (r := (⟨none, 0, (fun _ => ())⟩ : SR (GoRep.R Int)   )) (r2 := r8.2.1) (by intro r'; repeat (first | exact Upd.head | apply Upd.tail)) (Kn.trow (e := 3) (r := r8.2.1) (by repeat (first | exact Has.head | apply Has.tail))) (OkL.flat (fun _ _ _ _ => trivial)) (of_decide_eq_true hb46) (fun r47 => ?_))
          refine ow_ev ev_move ?_
          obtain ⟨y48, hy49, hM⟩ := bind_some hM
          refine ow_cons (st_callv (fun w hm => let ⟨S, hs⟩ := hm; keep_Pick_spec _ w v0 6 y48 hy49 (lend_lt hs) ) ?_)
          refine ow_cons (st_bslice (α := Int) 3 (fun _ => ()) ([y48] : List Int) (OkL.flat (fun _ _ _ _ => trivial)) (fun r50 => ?_))
          obtain ⟨hb51, hM⟩ := chk_some hM
          refine ow_cons (st_append (r := r47) (r2 := r50) (by intro r'; repeat (first | exact Upd.head | apply Upd.tail)) (Kn.trow (e := 3) (r := r50) (by repeat (first | exact Has.head | apply Has.tail))) (OkL.flat (fun _ _ _ _ => trivial)) (of_decide_eq_true hb51) (fun r52 => ?_))
          refine ow_ev (ev_field_addr 0) ?_
          refine ow_cons (st_store_own (b := b9) (l' := [.slice r52.a (((([] : List Int) ++ y6.2.1.Left) ++ ([y48] : List Int)).length) r52.cap, .slice r8.2.2.a y6.2.1.Right.length r8.2.2.cap]) (k := ?_))
          refine ow_imp (fun w hm => hm.freeze (r := r8.2.2) (by repeat (first | exact Upd.head | apply Upd.tail))) ?_
          refine ow_nil (hJ1 (((([] : List Int) ++ y6.1), ((([] : List Int) ++ y6.2.1.Left) ++ ([y48] : List Int)), y6.2.1.Right), (r52, r8.2.2)) _ _ hM ⟨rfl, rfl, rfl, rfl, rfl, rfl, trivial⟩ (fun w hm => hm.reord))
        ·
          replace hM := (ite_f hc44).symm.trans hM
          refine cw_seq fun K17 hK17 => ?_
          refine cw_region ?_
          refine ow_ev ev_eql ?_
          refine ow_ev ev_assign ?_
          refine ow_nil (hK17 _ _ ?_); clear hK17
          refine cw_cond rfl (fun hc53 => ?_) (fun hc53 => ?_)
          ·
            replace hM := (ite_t hc53).symm.trans hM
            refine cw_region ?_
            refine ow_ev (ev_field_addr 1) ?_
            refine ow_ev (ev_load_own (b := b9)) ?_
            refine ow_ev (ev_field_addr 1) ?_
            refine ow_ev (ev_load_own (b := b9)) ?_
            refine ow_ev ev_len ?_
            obtain ⟨hI54, hM⟩ := chk_some hM
            refine ow_ev (ev_sub (hr := fun hg => i64b_I64 hI54)) ?_
            refine ow_ev ev_max2 ?_
            obtain ⟨l55, hl56, hM⟩ := bind_some hM
            refine ow_imp (fun w hm => hm.freeze (r := r8.2.2) (by repeat (first | exact Upd.head | apply Upd.tail))) ?_
            refine ow_cons (st_sub (r := r8.2.2) (xs := y6.2.1.Right) (ol := none) (oh := some (.i64, (if ((y6.2.1.Right.length : Int) - 1) > 0 then ((y6.2.1.Right.length : Int) - 1) else 0))) (Sk.imm (α := List Int) (r := r8.2.2) (x := y6.2.1.Right) (by repeat (first | exact Has.head | apply Has.tail))) hl56 (fun r57 => ?_))
            refine ow_ev (ev_field_addr 1) ?_
            refine ow_cons (st_store_own (b := b9) (l' := [.slice r8.2.1.a y6.2.1.Left.length r8.2.1.cap, .slice r57.a l55.length r57.cap]) (k := ?_))
            refine ow_nil (hJ1 (((([] : List Int) ++ y6.1), y6.2.1.Left, l55), (r8.2.1, r57)) _ _ hM ⟨rfl, rfl, rfl, rfl, rfl, rfl, trivial⟩ (fun w hm => hm.reord))
          ·
            replace hM := (ite_f hc53).symm.trans hM
            refine cw_region ?_
            refine ow_ev (ev_field_addr 1) ?_
            refine ow_ev (ev_load_own (b := b9)) ?_
            refine ow_ev (ev_field_addr 0) ?_
            refine ow_ev (ev_load_own (b := b9)) ?_
            refine ow_ev (ev_field_addr 0) ?_
            refine ow_cons (st_store_own (b := b9) (l' := [.slice r8.2.2.a y6.2.1.Right.length r8.2.2.cap, .slice r8.2.2.a y6.2.1.Right.length r8.2.2.cap]) (k := ?_))
            refine ow_ev (ev_field_addr 1) ?_
            refine ow_cons (st_store_own (b := b9) (l' := [.slice r8.2.2.a y6.2.1.Right.length r8.2.2.cap, .slice r8.2.1.a y6.2.1.Left.length r8.2.1.cap]) (k := ?_))
            refine ow_imp (fun w hm => hm.freeze (r := r8.2.1) (by repeat (first | exact Upd.head | apply Upd.tail))) ?_
            refine ow_nil (hJ1 (((([] : List Int) ++ y6.1), y6.2.1.Right, y6.2.1.Left), (r8.2.2, r8.2.1)) _ _ hM ⟨rfl, rfl, rfl, rfl, rfl, rfl, trivial⟩ (fun w hm => hm.reord))
    ·
      clear hM
      intro g hM
      obtain ⟨⟨lmade_j1, lcover_j1_0, lcover_j1_1⟩, ⟨rcover_j1_0, rcover_j1_1⟩⟩ := g
      dsimp only at hM ⊢
      dsimp only [law28_CirculationVerify_k1] at hM
      refine cw_seq fun K8 hK8 => ?_
      refine cw_region ?_
      refine ow_ev ev_move ?_
      refine ow_ev (ev_load_all (b := b5)) ?_
      refine ow_ev ev_move ?_
      obtain ⟨y14, hy15, hM⟩ := bind_some hM
      refine ow_cons (st_callv (fun w hm => let ⟨S, hs⟩ := hm; circulation_Empty_spec _ w y2.1 r4.1 y2.2 r4.2 lmade_j1 r13 y14 hy15 (lend_lt hs) (Kn.lend (Kn.trow (e := 60) (r := r4.1) (by repeat (first | exact Has.head | apply Has.tail))) hs) ⟨(Kn.lend (Kn.trow (e := 58) (r := r4.2.1) (by repeat (first | exact Has.head | apply Has.tail))) hs), (Kn.lend (Kn.trow (e := 3) (r := r4.2.2) (by repeat (first | exact Has.head | apply Has.tail))) hs)⟩ (Kn.lend (Kn.trow (e := 3) (r := r13) (by repeat (first | exact Has.head | apply Has.tail))) hs)) ?_)
      refine ow_ev ev_move ?_
      refine ow_ev (ev_extract (vs := [.int .i64 y14.1, .int .i64 y14.2])) ?_
      refine ow_ev (ev_extract (vs := [.int .i64 y14.1, .int .i64 y14.2])) ?_
      refine ow_ev ev_assign ?_
      refine ow_ev ev_assign ?_
      refine ow_nil (hK8 _ _ ?_); clear hK8
      refine cw_seq fun K9 hK9 => ?_
      refine cw_region ?_
      refine ow_ev ev_move ?_
      refine ow_ev (ev_load_all (b := b5)) ?_
      refine ow_ev ev_move ?_
      obtain ⟨y16, hy17, hM⟩ := bind_some hM
      refine ow_cons (st_callv (fun w hm => let ⟨S, hs⟩ := hm; ref24_EmptySeconds_spec _ w y2.1 r4.1 y2.2 r4.2 lmade_j1 r13 y16 hy17 (lend_lt hs) (Kn.lend (Kn.trow (e := 60) (r := r4.1) (by repeat (first | exact Has.head | apply Has.tail))) hs) ⟨(Kn.lend (Kn.trow (e := 58) (r := r4.2.1) (by repeat (first | exact Has.head | apply Has.tail))) hs), (Kn.lend (Kn.trow (e := 3) (r := r4.2.2) (by repeat (first | exact Has.head | apply Has.tail))) hs)⟩ (Kn.lend (Kn.trow (e := 3) (r := r13) (by repeat (first | exact Has.head | apply Has.tail))) hs)) ?_)
      refine ow_ev ev_move ?_
      refine ow_ev (ev_extract (vs := [.int .i64 y16.1, .int .i64 y16.2])) ?_
      refine ow_ev (ev_extract (vs := [.int .i64 y16.1, .int .i64 y16.2])) ?_
      refine ow_ev ev_assign ?_
      refine ow_ev ev_assign ?_
      refine ow_nil (hK9 _ _ ?_); clear hK9
      refine cw_seq fun K10 hK10 => ?_
      refine cw_region ?_
      refine ow_ev ev_move ?_
      refine ow_ev (ev_load_all (b := b5)) ?_
      refine ow_ev ev_move ?_
      obtain ⟨y18, hy19, hM⟩ := bind_some hM
      refine ow_cons (st_callv (fun w hm => let ⟨S, hs⟩ := hm; circulation_Empty_spec _ w y2.1 r4.1 y2.2 r4.2 next0 r_next0 y18 hy19 (lend_lt hs) (Kn.lend (Kn.trow (e := 60) (r := r4.1) (by repeat (first | exact Has.head | apply Has.tail))) hs) ⟨(Kn.lend (Kn.trow (e := 58) (r := r4.2.1) (by repeat (first | exact Has.head | apply Has.tail))) hs), (Kn.lend (Kn.trow (e := 3) (r := r4.2.2) (by repeat (first | exact Has.head | apply Has.tail))) hs)⟩ (Kn.lend (Kn.imm (α := List Int) (r := r_next0) (x := next0) (by repeat (first | exact Has.head | apply Has.tail))) hs)) ?_)
      refine ow_ev ev_move ?_
      refine ow_ev (ev_extract (vs := [.int .i64 y18.1, .int .i64 y18.2])) ?_
      refine ow_ev (ev_extract (vs := [.int .i64 y18.1, .int .i64 y18.2])) ?_
      refine ow_ev ev_assign ?_
      refine ow_ev ev_assign ?_
      refine ow_nil (hK10 _ _ ?_); clear hK10
      refine cw_seq fun K11 hK11 => ?_
      refine cw_region ?_
      refine ow_ev ev_move ?_
      refine ow_ev (ev_load_all (b := b5)) ?_
      refine ow_ev ev_move ?_
      obtain ⟨y20, hy21, hM⟩ := bind_some hM
      refine ow_cons (st_callv (fun w hm => let ⟨S, hs⟩ := hm; ref24_EmptySeconds_spec _ w y2.1 r4.1 y2.2 r4.2 next0 r_next0 y20 hy21 (lend_lt hs) (Kn.lend (Kn.trow (e := 60) (r := r4.1) (by repeat (first | exact Has.head | apply Has.tail))) hs) ⟨(Kn.lend (Kn.trow (e := 58) (r := r4.2.1) (by repeat (first | exact Has.head | apply Has.tail))) hs), (Kn.lend (Kn.trow (e := 3) (r := r4.2.2) (by repeat (first | exact Has.head | apply Has.tail))) hs)⟩ (Kn.lend (Kn.imm (α := List Int) (r := r_next0) (x := next0) (by repeat (first | exact Has.head | apply Has.tail))) hs)) ?_)
      refine ow_ev ev_move ?_
      refine ow_ev (ev_extract (vs := [.int .i64 y20.1, .int .i64 y20.2])) ?_
      refine ow_ev (ev_extract (vs := [.int .i64 y20.1, .int .i64 y20.2])) ?_
      refine ow_ev ev_assign ?_
      refine ow_ev ev_assign ?_
      refine ow_nil (hK11 _ _ ?_); clear hK11
      refine cw_seq fun K12 hK12 => ?_
      refine cw_region_any _ (List.Sublist.refl _) ?_
      obtain ⟨y22, hy23, hM⟩ := bind_some hM
      refine aw_one 0 rfl (st_callv (fun w hm => let ⟨S, hs⟩ := hm; law28_awake_spec _ w  y22 hy23 (lend_lt hs) ) ⟨fun w hm => hm.sub (by repeat (first | exact List.Sublist.refl _ | apply List.Sublist.cons_cons | apply List.Sublist.cons)), ?_⟩)
      refine aw_ev 1 rfl ev_move ?_
      refine aw_evg 2 rfl rfl ev_move ?_
      refine aw_evg 3 rfl rfl (ev_load_all (b := b5)) ?_
      refine aw_evg 4 rfl rfl ev_move ?_
      refine aw_evg 5 rfl rfl (ev_load_all (b := b9)) ?_
      refine aw_evg 7 rfl rfl ev_move ?_
      refine aw_evg 8 rfl rfl (ev_load_all (b := b5)) ?_
      refine aw_evg 9 rfl rfl ev_move ?_
      refine aw_evg 10 rfl rfl (ev_load_all (b := b9)) ?_
      obtain ⟨y24, hy25, hM⟩ := bind_some hM
      refine aw_callg 6 rfl rfl (fun hg w hm => let ⟨S, hs⟩ := hm; circulation_Verify_spec _ w y2.1 r4.1 y2.2 r4.2 lmade_j1 r13 (Cover.mk lcover_j1_0 lcover_j1_1) (rcover_j1_0, rcover_j1_1) y24 (whn_some hy25 hg) (lend_lt hs) (Kn.lend (Kn.trow (e := 60) (r := r4.1) (by repeat (first | exact Has.head | apply Has.tail))) hs) ⟨(Kn.lend (Kn.trow (e := 58) (r := r4.2.1) (by repeat (first | exact Has.head | apply Has.tail))) hs), (Kn.lend (Kn.trow (e := 3) (r := r4.2.2) (by repeat (first | exact Has.head | apply Has.tail))) hs)⟩ (Kn.lend (Kn.trow (e := 3) (r := r13) (by repeat (first | exact Has.head | apply Has.tail))) hs) ⟨(Kn.lend (Kn.trow (e := 3) (r := rcover_j1_0) (by repeat (first | exact Has.head | apply Has.tail))) hs), (Kn.lend (Kn.imm (α := List Int) (r := rcover_j1_1) (x := lcover_j1_1) (by repeat (first | exact Has.head | apply Has.tail))) hs)⟩) ?_
      obtain ⟨y26, hy27, hM⟩ := bind_some hM
      refine aw_callg 11 rfl rfl (fun hg w hm => let ⟨S, hs⟩ := hm; ref24_VerifyCover_spec _ w y2.1 r4.1 y2.2 r4.2 lmade_j1 r13 (Cover.mk lcover_j1_0 lcover_j1_1) (rcover_j1_0, rcover_j1_1) y26 (whn_some hy27 hg) (lend_lt hs) (Kn.lend (Kn.trow (e := 60) (r := r4.1) (by repeat (first | exact Has.head | apply Has.tail))) hs) ⟨(Kn.lend (Kn.trow (e := 58) (r := r4.2.1) (by repeat (first | exact Has.head | apply Has.tail))) hs), (Kn.lend (Kn.trow (e := 3) (r := r4.2.2) (by repeat (first | exact Has.head | apply Has.tail))) hs)⟩ (Kn.lend (Kn.trow (e := 3) (r := r13) (by repeat (first | exact Has.head | apply Has.tail))) hs) ⟨(Kn.lend (Kn.trow (e := 3) (r := rcover_j1_0) (by repeat (first | exact Has.head | apply Has.tail))) hs), (Kn.lend (Kn.imm (α := List Int) (r := rcover_j1_1) (x := lcover_j1_1) (by repeat (first | exact Has.head | apply Has.tail))) hs)⟩) ?_
      refine aw_evg 12 rfl rfl ev_bool_eql ?_
      refine aw_ev 13 rfl ev_and ?_
      refine aw_ev 14 rfl ev_move ?_
      refine aw_evg 15 rfl rfl ev_move ?_
      refine aw_evg 16 rfl rfl (ev_load_all (b := b5)) ?_
      refine aw_evg 17 rfl rfl ev_move ?_
      refine aw_evg 18 rfl rfl (ev_load_all (b := b1)) ?_
      refine aw_evg 20 rfl rfl ev_move ?_
      refine aw_evg 21 rfl rfl (ev_load_all (b := b5)) ?_
      refine aw_evg 22 rfl rfl ev_move ?_
      refine aw_evg 23 rfl rfl (ev_load_all (b := b1)) ?_
      obtain ⟨y28, hy29, hM⟩ := bind_some hM
      refine aw_callg 19 rfl rfl (fun hg w hm => let ⟨S, hs⟩ := hm; circulation_Verify_spec _ w y2.1 r4.1 y2.2 r4.2 next0 r_next0 c0 r_c0 y28 (whn_some hy29 hg) (lend_lt hs) (Kn.lend (Kn.trow (e := 60) (r := r4.1) (by repeat (first | exact Has.head | apply Has.tail))) hs) ⟨(Kn.lend (Kn.trow (e := 58) (r := r4.2.1) (by repeat (first | exact Has.head | apply Has.tail))) hs), (Kn.lend (Kn.trow (e := 3) (r := r4.2.2) (by repeat (first | exact Has.head | apply Has.tail))) hs)⟩ (Kn.lend (Kn.imm (α := List Int) (r := r_next0) (x := next0) (by repeat (first | exact Has.head | apply Has.tail))) hs) ⟨(Kn.lend (Kn.imm (α := List Int) (r := r_c0.1) (x := c0.Left) (by repeat (first | exact Has.head | apply Has.tail))) hs), (Kn.lend (Kn.imm (α := List Int) (r := r_c0.2) (x := c0.Right) (by repeat (first | exact Has.head | apply Has.tail))) hs)⟩) ?_
      obtain ⟨y30, hy31, hM⟩ := bind_some hM
      refine aw_callg 24 rfl rfl (fun hg w hm => let ⟨S, hs⟩ := hm; ref24_VerifyCover_spec _ w y2.1 r4.1 y2.2 r4.2 next0 r_next0 c0 r_c0 y30 (whn_some hy31 hg) (lend_lt hs) (Kn.lend (Kn.trow (e := 60) (r := r4.1) (by repeat (first | exact Has.head | apply Has.tail))) hs) ⟨(Kn.lend (Kn.trow (e := 58) (r := r4.2.1) (by repeat (first | exact Has.head | apply Has.tail))) hs), (Kn.lend (Kn.trow (e := 3) (r := r4.2.2) (by repeat (first | exact Has.head | apply Has.tail))) hs)⟩ (Kn.lend (Kn.imm (α := List Int) (r := r_next0) (x := next0) (by repeat (first | exact Has.head | apply Has.tail))) hs) ⟨(Kn.lend (Kn.imm (α := List Int) (r := r_c0.1) (x := c0.Left) (by repeat (first | exact Has.head | apply Has.tail))) hs), (Kn.lend (Kn.imm (α := List Int) (r := r_c0.2) (x := c0.Right) (by repeat (first | exact Has.head | apply Has.tail))) hs)⟩) ?_
      refine aw_evg 25 rfl rfl ev_bool_eql ?_
      refine aw_ev 26 rfl ev_and ?_
      refine aw_ev 27 rfl ev_move ?_
      refine aw_evg 28 rfl rfl ev_move ?_
      refine aw_evg 29 rfl rfl ev_move ?_
      refine aw_evg 30 rfl rfl ev_eql ?_
      refine aw_ev 31 rfl ev_and ?_
      refine aw_ev 32 rfl ev_move ?_
      refine aw_evg 33 rfl rfl ev_move ?_
      refine aw_evg 34 rfl rfl ev_move ?_
      refine aw_evg 35 rfl rfl ev_eql ?_
      refine aw_ev 36 rfl ev_and ?_
      refine aw_ev 37 rfl ev_move ?_
      refine aw_evg 38 rfl rfl ev_move ?_
      refine aw_evg 39 rfl rfl ev_move ?_
      refine aw_evg 40 rfl rfl ev_eql ?_
      refine aw_ev 41 rfl ev_and ?_
      refine aw_ev 42 rfl ev_move ?_
      refine aw_evg 43 rfl rfl ev_move ?_
      refine aw_evg 44 rfl rfl ev_move ?_
      refine aw_evg 45 rfl rfl ev_eql ?_
      refine aw_ev 46 rfl ev_and ?_
      refine aw_ev 47 rfl ev_assign ?_
      refine aw_done (hK12 _ _ ?_); clear hK12
      obtain rfl := some_inj hM
      refine cw_ret (kw_retc1 (fun w hm => ret_of hm rfl))

def law28_CirculationPartition_k3 (cont2 : ((List Int) × Nat) → Option Bool) (t59_2 : Nat) : (List Int) → Option Bool := fun lseen_j3 =>
  cont2 (lseen_j3, t59_2 + 1)
def law28_CirculationPartition_k2 (cont1 : ((List Int) × Nat) → Option Bool) (lseen_2 : List Int) (t53_1 : Nat) : Unit → Option Bool := fun _ =>
  cont1 (lseen_2, t53_1 + 1)
def law28_CirculationPartition_b2 (x19 : List Int) (y1 : (List Task) × Rules) (cont1 : ((List Int) × Nat) → Option Bool) (t53_1 : Nat) (cont2 : ((List Int) × Nat) → Option Bool) : ((List Int) × Nat) → Option Bool := fun (lseen_2, t59_2) =>
  if decide ((t59_2 : Int) < (x19.length : Int)) then
    ((idx x19 (t59_2 : Int)).bind fun x23 =>
    if (decide (x23 < 0) || decide ((y1.1.length : Int) ≤ x23)) then
      (some false)
    else
      ((idx lseen_2 x23).bind fun x26 =>
      chk (i64b (x26 + 1)) <|
      (idx lseen_2 x23).bind fun x29 =>
      if decide (0 < (t59_2 : Int)) then
        (chk (i64b ((t59_2 : Int) - 1)) <|
        (idx x19 ((t59_2 : Int) - 1)).bind fun x33 =>
        (idx y1.1 x33).bind fun x35 =>
        (idx y1.1 x23).bind fun x37 =>
        (ref24_Follows_m y1.2 x35 x37).bind fun y39 =>
        if (!y39.2) then
          (some false)
        else
          (law28_CirculationPartition_k3 cont2 t59_2 (lseen_2.set x23.toNat (x26 + 1))))
      else
        (law28_CirculationPartition_k3 cont2 t59_2 (lseen_2.set x23.toNat (x26 + 1)))))
  else
    (law28_CirculationPartition_k2 cont1 lseen_2 t53_1 ())
def law28_CirculationPartition_k4 : Unit → Option Bool := fun _ =>
  (law28_awake_m).bind fun y47 =>
  some y47
def law28_CirculationPartition_b3 (y1 : (List Task) × Rules) (lseen_1 : List Int) (cont3 : Nat → Option Bool) : Nat → Option Bool := fun t102_3 =>
  if decide ((t102_3 : Int) < (y1.1.length : Int)) then
    ((idx lseen_1 (t102_3 : Int)).bind fun x44 =>
    if decide (x44 ≠ 1) then
      (some false)
    else
      (cont3 (t102_3 + 1)))
  else
    (law28_CirculationPartition_k4 ())
def law28_CirculationPartition_k1 (y1 : (List Task) × Rules) (lseen_1 : List Int) : Unit → Option Bool := fun _ =>
  iter (law28_CirculationPartition_b3 y1 lseen_1) FUEL 0
def law28_CirculationPartition_b1 (y9 : (List (List Int)) × Int) (y1 : (List Task) × Rules) (cont1 : ((List Int) × Nat) → Option Bool) : ((List Int) × Nat) → Option Bool := fun (lseen_1, t53_1) =>
  if decide ((t53_1 : Int) < (y9.1.length : Int)) then
    ((idx y9.1 (t53_1 : Int)).bind fun x19 =>
    iter (law28_CirculationPartition_b2 x19 y1 cont1 t53_1) FUEL (lseen_1, 0))
  else
    (law28_CirculationPartition_k1 y1 lseen_1 ())
def law28_CirculationPartition_m (l0 : List Int) : Option Bool :=
  (keep2_Tasks_m l0).bind fun y1 =>
  (circulation_Build_m y1.1 y1.2).bind fun y5 =>
  (circulation_Chains_m y5.1).bind fun y9 =>
  (whn (!(decide (y5.2.2 ≠ 0) || decide (y9.2 ≠ 0))) default (ref24_Joined_m y5.1)).bind fun y12 =>
  chk (!(!(decide (y5.2.2 ≠ 0) || decide (y9.2 ≠ 0))) || i64b ((y1.1.length : Int) - y12)) <|
  if ((decide (y5.2.2 ≠ 0) || decide (y9.2 ≠ 0)) || decide ((y9.1.length : Int) ≠ ((y1.1.length : Int) - y12))) then
    (some false)
  else
    (iter (law28_CirculationPartition_b1 y9 y1) FUEL ((List.replicate 8 0), 0))
theorem law28_CirculationPartition_spec (S : Soup) (w : World) (l0 : List Int) (r_l0 : GoRep.R (List Int)) (y : Bool) (hM : law28_CirculationPartition_m l0 = some y) (hS : ∀ k, S k → k < w.heap.size) (h_l0 : GoRep.ok S w r_l0 l0) :
    Calls Try.prog 14 #[.slice r_l0.a l0.length r_l0.cap] w (Ret w (.bool y)) := by
  refine calls_cw (args := [_]) Try.func14 rfl ((pre_nil hS).start |>.immP (α := List Int) (r := r_l0) (x := l0) h_l0) rfl ?_
  unfold law28_CirculationPartition_m at hM
  refine cw_seq fun K1 hK1 => ?_
  refine cw_region ?_
  refine ow_ev ev_assign ?_
  refine ow_nil (hK1 _ _ ?_); clear hK1
  refine cw_seq fun K2 hK2 => ?_
  refine cw_region ?_
  refine ow_ev ev_move ?_
  obtain ⟨y1, hy2, hM⟩ := bind_some hM
  refine ow_cons (st_callF SelL.nil (fun S w hs hP => keep2_Tasks_spec _ w l0 r_l0 y1 hy2 (lend_lt hs) (Kn.lend (Kn.imm (α := List Int) (r := r_l0) (x := l0) (by repeat (first | exact Has.head | apply Has.tail))) hs)) (by intro r c hc; simp only [List.mem_cons, List.not_mem_nil, or_false] at hc; rcases hc with rfl | rfl | rfl <;> first | exact flatC_own | exact flatC_trow (fun _ _ _ _ => trivial)) (fun r3 => ?_))
  dsimp only [List.cons_append, List.nil_append]
  refine ow_ev ev_move ?_
  refine ow_ev (ev_extract (vs := [.slice r3.1.a y1.1.length r3.1.cap, .agg #[.int .i64 y1.2.Turn, .slice r3.2.1.a y1.2.Empties.length r3.2.1.cap, .slice r3.2.2.a y1.2.Shops.length r3.2.2.cap, .int .i64 y1.2.Service, .int .i64 y1.2.Limit]])) ?_
  refine ow_ev (ev_extract (vs := [.slice r3.1.a y1.1.length r3.1.cap, .agg #[.int .i64 y1.2.Turn, .slice r3.2.1.a y1.2.Empties.length r3.2.1.cap, .slice r3.2.2.a y1.2.Shops.length r3.2.2.cap, .int .i64 y1.2.Service, .int .i64 y1.2.Limit]])) ?_
  refine ow_cons (st_alloc rfl (k := fun b4 => ?_))
  refine ow_ev ev_assign ?_
  refine ow_cons (st_store_all (b := b4) (vs := [.int .i64 y1.2.Turn, .slice r3.2.1.a y1.2.Empties.length r3.2.1.cap, .slice r3.2.2.a y1.2.Shops.length r3.2.2.cap, .int .i64 y1.2.Service, .int .i64 y1.2.Limit]) (k := ?_))
  refine ow_nil (hK2 _ _ ?_); clear hK2
  refine cw_seq fun K3 hK3 => ?_
  refine cw_region ?_
  refine ow_ev ev_move ?_
  refine ow_ev (ev_load_all (b := b4)) ?_
  obtain ⟨y5, hy6, hM⟩ := bind_some hM
  refine ow_cons (st_callF SelL.nil (fun S w hs hP => circulation_Build_spec _ w y1.1 r3.1 y1.2 r3.2 y5 hy6 (lend_lt hs) (Kn.lend (Kn.trow (e := 60) (r := r3.1) (by repeat (first | exact Has.head | apply Has.tail))) hs) ⟨(Kn.lend (Kn.trow (e := 58) (r := r3.2.1) (by repeat (first | exact Has.head | apply Has.tail))) hs), (Kn.lend (Kn.trow (e := 3) (r := r3.2.2) (by repeat (first | exact Has.head | apply Has.tail))) hs)⟩) (by intro r c hc; simp only [List.mem_cons, List.not_mem_nil, or_false] at hc; rcases hc with rfl | rfl | rfl <;> first | exact flatC_own | exact flatC_trow (fun _ _ _ _ => trivial)) (fun r7 => ?_))
  dsimp only [List.cons_append, List.nil_append]
  refine ow_ev ev_move ?_
  refine ow_ev (ev_extract (vs := [.slice r7.1.a y5.1.length r7.1.cap, .agg #[.slice r7.2.1.a y5.2.1.Left.length r7.2.1.cap, .slice r7.2.2.a y5.2.1.Right.length r7.2.2.cap], .int .i64 y5.2.2])) ?_
  refine ow_ev (ev_extract (vs := [.slice r7.1.a y5.1.length r7.1.cap, .agg #[.slice r7.2.1.a y5.2.1.Left.length r7.2.1.cap, .slice r7.2.2.a y5.2.1.Right.length r7.2.2.cap], .int .i64 y5.2.2])) ?_
  refine ow_ev (ev_extract (vs := [.slice r7.1.a y5.1.length r7.1.cap, .agg #[.slice r7.2.1.a y5.2.1.Left.length r7.2.1.cap, .slice r7.2.2.a y5.2.1.Right.length r7.2.2.cap], .int .i64 y5.2.2])) ?_
  refine ow_cons (st_alloc rfl (k := fun b8 => ?_))
  refine ow_ev ev_assign ?_
  refine ow_cons (st_store_all (b := b8) (vs := [.slice r7.2.1.a y5.2.1.Left.length r7.2.1.cap, .slice r7.2.2.a y5.2.1.Right.length r7.2.2.cap]) (k := ?_))
  refine ow_ev ev_assign ?_
  refine ow_nil (hK3 _ _ ?_); clear hK3
  refine cw_seq fun K4 hK4 => ?_
  refine cw_region ?_
  refine ow_ev ev_move ?_
  refine ow_imp (fun w hm => hm.freeze (r := r7.1) (by repeat (first | exact Upd.head | apply Upd.tail))) ?_
  obtain ⟨y9, hy10, hM⟩ := bind_some hM
  refine ow_cons (st_callS SelL.nil (fun S w hs hP => circulation_Chains_spec _ w y5.1 r7.1 y9 hy10 hs.lt ((Sk.imm (α := List Int) (r := r7.1) (x := y5.1) (by repeat (first | exact Has.head | apply Has.tail))) S w hs))  (fun r11 => ?_))
  dsimp only [List.cons_append, List.nil_append]
  refine ow_ev ev_move ?_
  refine ow_ev (ev_extract (vs := [.slice r11.a y9.1.length r11.cap, .int .i64 y9.2])) ?_
  refine ow_ev (ev_extract (vs := [.slice r11.a y9.1.length r11.cap, .int .i64 y9.2])) ?_
  refine ow_ev ev_assign ?_
  refine ow_ev ev_assign ?_
  refine ow_nil (hK4 _ _ ?_); clear hK4
  refine cw_seq fun K5 hK5 => ?_
  refine cw_seq fun K6 hK6 => ?_
  refine cw_region ?_
  refine ow_ev ev_move ?_
  refine ow_ev ev_neq ?_
  refine ow_ev ev_move ?_
  refine ow_evg rfl ev_move ?_
  refine ow_evg rfl ev_neq ?_
  refine ow_ev ev_or ?_
  refine ow_ev ev_move ?_
  refine ow_evg rfl ev_move ?_
  refine ow_evg rfl ev_len ?_
  refine ow_evg rfl ev_move ?_
  refine ow_evg rfl ev_len ?_
  refine ow_evg rfl ev_move ?_
  obtain ⟨y12, hy13, hM⟩ := bind_some hM
  refine ow_callg rfl (fun hg w hm => let ⟨S, hs⟩ := hm; ref24_Joined_spec _ w y5.1 r7.1 y12 (whn_some hy13 hg) (lend_lt hs) (Kn.lend (Kn.imm (α := List Int) (r := r7.1) (x := y5.1) (by repeat (first | exact Has.head | apply Has.tail))) hs)) ?_
  obtain ⟨hI14, hM⟩ := chk_some hM
  refine ow_evg rfl (ev_sub (hr := fun hg => i64b_I64 (gor hI14 hg))) ?_
  refine ow_evg rfl ev_neq ?_
  refine ow_ev ev_or ?_
  refine ow_nil (hK6 _ _ ?_); clear hK6
  refine cw_cond rfl (fun hc15 => ?_) (fun hc15 => ?_)
  ·
    replace hM := (ite_t hc15).symm.trans hM
    refine cw_seq fun K7 hK7 => ?_
    refine cw_region ?_
    refine ow_ev ev_assign ?_
    refine ow_nil (hK7 _ _ ?_); clear hK7
    obtain rfl := some_inj hM
    refine cw_ret (kw_retc1 (fun w hm => ret_of hm rfl))
  ·
    replace hM := (ite_f hc15).symm.trans hM
    refine cw_skip (hK5 _ _ ?_); clear hK5
    refine cw_seq fun K8 hK8 => ?_
    refine cw_region ?_
    refine ow_cons (st_alloc rfl (k := fun b16 => ?_))
    refine ow_imp (fun w hm => hm.arr (α := Int) (b := b16) (T := 76) (m := 8) (x0 := 0) (rz := ()) rfl (fun _ _ => trivial) (by decide) (by repeat (first | exact Upd.head | apply Upd.tail))) ?_
    refine ow_nil (hK8 _ _ ?_); clear hK8
    refine cw_seq fun K9 hK9 => ?_
    refine cw_seq fun K10 hK10 => ?_
    refine cw_region ?_
    refine ow_ev ev_move ?_
    refine ow_have (fun w hm => Kn.len (Kn.trow (e := 22) (r := r11) (by repeat (first | exact Has.head | apply Has.tail))) hm) fun hl17 => ?_
    refine ow_ev ev_len ?_
    refine ow_ev ev_move ?_
    refine ow_nil (hK10 _ _ ?_); clear hK10
    refine cw_block ?_
    refine cw_loop (γ := Nat × ((List Int) × Nat) × Unit) (env := fun (_, (lseen_1, t53_1), _) => [(3, .v (.slice r3.1.a y1.1.length r3.1.cap)), (4, .v (.pointer (some ⟨b4, 0, none⟩))), (10, .v (.pointer (some ⟨b16, 0, none⟩))), (51, .v (.slice r11.a y9.1.length r11.cap)), (52, .v (.int .i64 (y9.1.length : Int))), (53, .v (.int .i64 (t53_1 : Int)))]) (mem := fun (_, (lseen_1, t53_1), _) => [trow 60 r3.1 y1.1, trow 58 r3.2.1 y1.2.Empties, trow 3 r3.2.2 y1.2.Shops, own b4 53 [.int .i64 y1.2.Turn, .slice r3.2.1.a y1.2.Empties.length r3.2.1.cap, .slice r3.2.2.a y1.2.Shops.length r3.2.2.cap, .int .i64 y1.2.Service, .int .i64 y1.2.Limit], trow 76 (⟨some ⟨b16, 0, none⟩, 8, fun _ => ()⟩ : SR (GoRep.R Int)) lseen_1, trow 22 r11 y9.1]) (R := fun g => iter (law28_CirculationPartition_b1 y9 y1) g.1 g.2.1 = some y) (μ := fun g => g.1) (FUEL, ((List.replicate 8 0), 0), ()) hM ⟨rfl, rfl, rfl, rfl, rfl, rfl, trivial⟩ (fun w hm => hm.reord) ?_
    clear hM
    intro g hM KL1 hL1
    obtain ⟨nn1, ⟨lseen_1, t53_1⟩, ⟨⟩⟩ := g
    dsimp only at hM ⊢
    obtain ⟨nn1, cont1, rfl, hcont1, hM⟩ := iter_open' hM
    dsimp only [law28_CirculationPartition_b1] at hM
    refine cw_seq fun K11 hK11 => ?_
    refine cw_region ?_
    refine ow_ev ev_lss ?_
    refine ow_nil (hK11 _ _ ?_); clear hK11
    refine cw_seq fun K12 hK12 => ?_
    refine cw_cond rfl (fun hc18 => ?_) (fun hc18 => ?_)
    ·
      replace hM := (ite_t hc18).symm.trans hM
      have hc18d := of_decide_eq_true hc18
      refine cw_skip (hK12 _ _ ?_); clear hK12
      refine cw_seq fun K13 hK13 => ?_
      refine cw_block ?_
      refine cw_seq fun K14 hK14 => ?_
      refine cw_region ?_
      obtain ⟨x19, hx20, hM⟩ := bind_some hM
      refine ow_ev (ev_idx (xs := y9.1) 1 (Kn.trow (e := 22) (r := r11) (by repeat (first | exact Has.head | apply Has.tail))) (fun hg => let h := idx_some hx20; ⟨h.1, h.2.1⟩)) ?_
      refine ow_ev (ev_ld (i := (t53_1 : Int)) (xs := y9.1) (y := x19) 0 (Kn.trow (e := 22) (r := r11) (by repeat (first | exact Has.head | apply Has.tail))) (fun _ => hx20)) ?_
      refine ow_ev ev_assign ?_
      refine ow_nil (hK14 _ _ ?_); clear hK14
      refine cw_seq fun K15 hK15 => ?_
      refine cw_region ?_
      refine ow_ev ev_move ?_
      refine ow_have (fun w hm => Kn.len ((Sk.row (e := 22) (r := r11) (by repeat (first | exact Has.head | apply Has.tail)) hx20)).kn hm) fun hl21 => ?_
      refine ow_ev ev_len ?_
      refine ow_ev ev_move ?_
      refine ow_nil (hK15 _ _ ?_); clear hK15
      refine cw_block ?_
      refine cw_loop (γ := Nat × ((List Int) × Nat) × Unit) (env := fun (_, (lseen_2, t59_2), _) => [(3, .v (.slice r3.1.a y1.1.length r3.1.cap)), (4, .v (.pointer (some ⟨b4, 0, none⟩))), (10, .v (.pointer (some ⟨b16, 0, none⟩))), (12, .v (.slice (r11.es (t53_1 : Int).toNat).a x19.length (r11.es (t53_1 : Int).toNat).cap)), (51, .v (.slice r11.a y9.1.length r11.cap)), (52, .v (.int .i64 (y9.1.length : Int))), (53, .v (.int .i64 (t53_1 : Int))), (57, .v (.slice (r11.es (t53_1 : Int).toNat).a x19.length (r11.es (t53_1 : Int).toNat).cap)), (58, .v (.int .i64 (x19.length : Int))), (59, .v (.int .i64 (t59_2 : Int)))]) (mem := fun (_, (lseen_2, t59_2), _) => [trow 60 r3.1 y1.1, trow 58 r3.2.1 y1.2.Empties, trow 3 r3.2.2 y1.2.Shops, own b4 53 [.int .i64 y1.2.Turn, .slice r3.2.1.a y1.2.Empties.length r3.2.1.cap, .slice r3.2.2.a y1.2.Shops.length r3.2.2.cap, .int .i64 y1.2.Service, .int .i64 y1.2.Limit], trow 76 (⟨some ⟨b16, 0, none⟩, 8, fun _ => ()⟩ : SR (GoRep.R Int)) lseen_2, trow 22 r11 y9.1]) (R := fun g => iter (law28_CirculationPartition_b2 x19 y1 cont1 t53_1) g.1 g.2.1 = some y) (μ := fun g => g.1) (FUEL, (lseen_1, 0), ()) hM ⟨rfl, rfl, rfl, rfl, rfl, rfl, rfl, rfl, rfl, rfl, trivial⟩ (fun w hm => hm.reord) ?_
      clear hM
      intro g hM KL2 hL2
      obtain ⟨nn2, ⟨lseen_2, t59_2⟩, ⟨⟩⟩ := g
      dsimp only at hM ⊢
      obtain ⟨nn2, cont2, rfl, hcont2, hM⟩ := iter_open' hM
      dsimp only [law28_CirculationPartition_b2] at hM
      refine cw_seq fun K16 hK16 => ?_
      refine cw_region ?_
      refine ow_ev ev_lss ?_
      refine ow_nil (hK16 _ _ ?_); clear hK16
      refine cw_seq fun K17 hK17 => ?_
      refine cw_cond rfl (fun hc22 => ?_) (fun hc22 => ?_)
      ·
        replace hM := (ite_t hc22).symm.trans hM
        have hc22d := of_decide_eq_true hc22
        refine cw_skip (hK17 _ _ ?_); clear hK17
        refine cw_cut (γ := (List Int) × Unit) (env := fun (lseen_j3, _) => [(3, .v (.slice r3.1.a y1.1.length r3.1.cap)), (4, .v (.pointer (some ⟨b4, 0, none⟩))), (10, .v (.pointer (some ⟨b16, 0, none⟩))), (12, .v (.slice (r11.es (t53_1 : Int).toNat).a x19.length (r11.es (t53_1 : Int).toNat).cap)), (51, .v (.slice r11.a y9.1.length r11.cap)), (52, .v (.int .i64 (y9.1.length : Int))), (53, .v (.int .i64 (t53_1 : Int))), (57, .v (.slice (r11.es (t53_1 : Int).toNat).a x19.length (r11.es (t53_1 : Int).toNat).cap)), (58, .v (.int .i64 (x19.length : Int))), (59, .v (.int .i64 (t59_2 : Int)))]) (mem := fun (lseen_j3, _) => [trow 60 r3.1 y1.1, trow 58 r3.2.1 y1.2.Empties, trow 3 r3.2.2 y1.2.Shops, own b4 53 [.int .i64 y1.2.Turn, .slice r3.2.1.a y1.2.Empties.length r3.2.1.cap, .slice r3.2.2.a y1.2.Shops.length r3.2.2.cap, .int .i64 y1.2.Service, .int .i64 y1.2.Limit], trow 76 (⟨some ⟨b16, 0, none⟩, 8, fun _ => ()⟩ : SR (GoRep.R Int)) lseen_j3, trow 22 r11 y9.1]) (R := fun g => law28_CirculationPartition_k3 cont2 t59_2 g.1 = some y) ?_ ?_
        · intro KJ3 hJ3
          refine cw_block ?_
          refine cw_seq fun K18 hK18 => ?_
          refine cw_region ?_
          refine ow_ev ev_move ?_
          obtain ⟨x23, hx24, hM⟩ := bind_some hM
          refine ow_ev (ev_idx (xs := x19) 1 ((Sk.row (e := 22) (r := r11) (by repeat (first | exact Has.head | apply Has.tail)) hx20)).kn (fun hg => let h := idx_some hx24; ⟨h.1, h.2.1⟩)) ?_
          refine ow_ev (ev_ld (i := (t59_2 : Int)) (xs := x19) (y := x23) 0 ((Sk.row (e := 22) (r := r11) (by repeat (first | exact Has.head | apply Has.tail)) hx20)).kn (fun _ => hx24)) ?_
          refine ow_ev ev_assign ?_
          refine ow_ev ev_assign ?_
          refine ow_nil (hK18 _ _ ?_); clear hK18
          refine cw_seq fun K19 hK19 => ?_
          refine cw_seq fun K20 hK20 => ?_
          refine cw_region ?_
          refine ow_ev ev_move ?_
          refine ow_ev ev_lss ?_
          refine ow_ev ev_move ?_
          refine ow_evg rfl ev_move ?_
          refine ow_evg rfl ev_move ?_
          refine ow_evg rfl ev_len ?_
          refine ow_evg rfl ev_geq ?_
          refine ow_ev ev_or ?_
          refine ow_nil (hK20 _ _ ?_); clear hK20
          refine cw_cond rfl (fun hc25 => ?_) (fun hc25 => ?_)
          ·
            replace hM := (ite_t hc25).symm.trans hM
            refine cw_seq fun K21 hK21 => ?_
            refine cw_region ?_
            refine ow_ev ev_assign ?_
            refine ow_nil (hK21 _ _ ?_); clear hK21
            obtain rfl := some_inj hM
            refine cw_ret (kw_retc1 (fun w hm => ret_of hm rfl))
          ·
            replace hM := (ite_f hc25).symm.trans hM
            refine cw_skip (hK19 _ _ ?_); clear hK19
            refine cw_seq fun K22 hK22 => ?_
            refine cw_region ?_
            refine ow_ev ev_move ?_
            obtain ⟨x26, hx27, hM⟩ := bind_some hM
            refine ow_ev (ev_aidx (r := (⟨some ⟨b16, 0, none⟩, 8, fun _ => ()⟩ : SR (GoRep.R Int))) (xs := lseen_2) 1 (Kn.trow (e := 76) (r := (⟨some ⟨b16, 0, none⟩, 8, fun _ => ()⟩ : SR (GoRep.R Int))) (by repeat (first | exact Has.head | apply Has.tail))) (fun hg => let h := idx_some hx27; ⟨h.1, h.2.1⟩)) ?_
            refine ow_ev (ev_ld (i := x23) (xs := lseen_2) (y := x26) 0 (Kn.trow (e := 76) (r := (⟨some ⟨b16, 0, none⟩, 8, fun _ => ()⟩ : SR (GoRep.R Int))) (by repeat (first | exact Has.head | apply Has.tail))) (fun _ => hx27)) ?_
            obtain ⟨hI28, hM⟩ := chk_some hM
            refine ow_ev (ev_add (hr := fun hg => i64b_I64 hI28)) ?_
            obtain ⟨x29, hx30, hM⟩ := bind_some hM
            refine ow_ev (ev_aidx (r := (⟨some ⟨b16, 0, none⟩, 8, fun _ => ()⟩ : SR (GoRep.R Int))) (xs := lseen_2) 1 (Kn.trow (e := 76) (r := (⟨some ⟨b16, 0, none⟩, 8, fun _ => ()⟩ : SR (GoRep.R Int))) (by repeat (first | exact Has.head | apply Has.tail))) (fun hg => let h := idx_some hx30; ⟨h.1, h.2.1⟩)) ?_
            refine ow_cons (st_set (r := (⟨some ⟨b16, 0, none⟩, 8, fun _ => ()⟩ : SR (GoRep.R Int))) (i := x23) (xs := lseen_2) (u := x29) (vs := [.int .i64 (x26 + 1)]) 0 (x26 + 1) hx30 rfl (fun _ _ h => h) (by repeat (first | exact Upd.head | apply Upd.tail)) ?_)
            refine ow_nil (hK22 _ _ ?_); clear hK22
            refine cw_seq fun K23 hK23 => ?_
            refine cw_region ?_
            refine ow_ev ev_move ?_
            refine ow_ev ev_gtr ?_
            refine ow_nil (hK23 _ _ ?_); clear hK23
            refine cw_cond rfl (fun hc31 => ?_) (fun hc31 => ?_)
            ·
              replace hM := (ite_t hc31).symm.trans hM
              refine cw_seq fun K24 hK24 => ?_
              refine cw_region_any _ (List.Sublist.refl _) ?_
              refine aw_ev 0 rfl (ev_load_all (b := b4)) ?_
              refine aw_ev 1 rfl ev_move ?_
              refine aw_ev 2 rfl ev_move ?_
              refine aw_ev 3 rfl ev_move ?_
              obtain ⟨hI32, hM⟩ := chk_some hM
              refine aw_ev 4 rfl (ev_sub (hr := fun hg => i64b_I64 hI32)) ?_
              obtain ⟨x33, hx34, hM⟩ := bind_some hM
              refine aw_ev 5 rfl (ev_idx (xs := x19) 1 ((Sk.row (e := 22) (r := r11) (by repeat (first | exact Has.head | apply Has.tail)) hx20)).kn (fun hg => let h := idx_some hx34; ⟨h.1, h.2.1⟩)) ?_
              refine aw_ev 6 rfl (ev_ld (i := ((t59_2 : Int) - 1)) (xs := x19) (y := x33) 0 ((Sk.row (e := 22) (r := r11) (by repeat (first | exact Has.head | apply Has.tail)) hx20)).kn (fun _ => hx34)) ?_
              obtain ⟨x35, hx36, hM⟩ := bind_some hM
              refine aw_ev 7 rfl (ev_idx (xs := y1.1) 5 (Kn.trow (e := 60) (r := r3.1) (by repeat (first | exact Has.head | apply Has.tail))) (fun hg => let h := idx_some hx36; ⟨h.1, h.2.1⟩)) ?_
              refine aw_ev 8 rfl (ev_lds (m := 5) (i := x33) (xs := y1.1) (y := x35) (l := [.int .i64 x35.Type_, .int .i64 x35.From, .int .i64 x35.To, .int .i64 x35.Start, .int .i64 x35.End]) 0 (Kn.trow (e := 60) (r := r3.1) (by repeat (first | exact Has.head | apply Has.tail))) (fun _ => hx36)) ?_
              refine aw_ev 9 rfl ev_move ?_
              refine aw_ev 10 rfl ev_move ?_
              obtain ⟨x37, hx38, hM⟩ := bind_some hM
              refine aw_ev 11 rfl (ev_idx (xs := y1.1) 5 (Kn.trow (e := 60) (r := r3.1) (by repeat (first | exact Has.head | apply Has.tail))) (fun hg => let h := idx_some hx38; ⟨h.1, h.2.1⟩)) ?_
              refine aw_ev 12 rfl (ev_lds (m := 5) (i := x23) (xs := y1.1) (y := x37) (l := [.int .i64 x37.Type_, .int .i64 x37.From, .int .i64 x37.To, .int .i64 x37.Start, .int .i64 x37.End]) 0 (Kn.trow (e := 60) (r := r3.1) (by repeat (first | exact Has.head | apply Has.tail))) (fun _ => hx38)) ?_
              obtain ⟨y39, hy40, hM⟩ := bind_some hM
              refine aw_one 13 rfl (st_callv (fun w hm => let ⟨S, hs⟩ := hm; ref24_Follows_spec _ w y1.2 r3.2 x35 x37 y39 hy40 (lend_lt hs) ⟨(Kn.lend (Kn.trow (e := 58) (r := r3.2.1) (by repeat (first | exact Has.head | apply Has.tail))) hs), (Kn.lend (Kn.trow (e := 3) (r := r3.2.2) (by repeat (first | exact Has.head | apply Has.tail))) hs)⟩) ⟨fun w hm => hm.sub (by repeat (first | exact List.Sublist.refl _ | apply List.Sublist.cons_cons | apply List.Sublist.cons)), ?_⟩)
              refine aw_ev 14 rfl ev_move ?_
              refine aw_ev 15 rfl (ev_extract (vs := [.int .i64 y39.1, .bool y39.2])) ?_
              refine aw_ev 16 rfl (ev_extract (vs := [.int .i64 y39.1, .bool y39.2])) ?_
              refine aw_ev 17 rfl ev_assign ?_
              refine aw_ev 18 rfl ev_assign ?_
              refine aw_done (hK24 _ _ ?_); clear hK24
              refine cw_seq fun K25 hK25 => ?_
              refine cw_region ?_
              refine ow_ev ev_move ?_
              refine ow_ev ev_not ?_
              refine ow_nil (hK25 _ _ ?_); clear hK25
              refine cw_cond rfl (fun hc41 => ?_) (fun hc41 => ?_)
              ·
                replace hM := (ite_t hc41).symm.trans hM
                refine cw_seq fun K26 hK26 => ?_
                refine cw_region ?_
                refine ow_ev ev_assign ?_
                refine ow_nil (hK26 _ _ ?_); clear hK26
                obtain rfl := some_inj hM
                refine cw_ret (kw_retc1 (fun w hm => ret_of hm rfl))
              ·
                replace hM := (ite_f hc41).symm.trans hM
                refine cw_skip (hJ3 ((lseen_2.set x23.toNat (x26 + 1)), ()) _ _ hM ⟨rfl, rfl, rfl, rfl, rfl, rfl, rfl, rfl, rfl, rfl, trivial⟩ (fun w hm => hm.reord))
            ·
              replace hM := (ite_f hc31).symm.trans hM
              refine cw_skip (hJ3 ((lseen_2.set x23.toNat (x26 + 1)), ()) _ _ hM ⟨rfl, rfl, rfl, rfl, rfl, rfl, rfl, rfl, rfl, rfl, trivial⟩ (fun w hm => hm.reord))
        ·
          clear hM
          intro g hM
          obtain ⟨lseen_j3, ⟨⟩⟩ := g
          dsimp only at hM ⊢
          dsimp only [law28_CirculationPartition_k3] at hM
          refine cw_region ?_
          refine ow_ev (ev_add (hr := fun _ => by unfold I64; omega)) ?_
          refine ow_ev ev_move ?_
          refine ow_nil (hL2 (nn2, (lseen_j3, t59_2 + 1), ()) _ _ (eqc hcont2 hM) (Nat.lt_succ_self _) ⟨rfl, rfl, rfl, rfl, rfl, rfl, rfl, rfl, rfl, rfl, trivial⟩ (fun w hm => hm.reord))
      ·
        replace hM := (ite_f hc22).symm.trans hM
        refine cw_exit (hK13 _ _ ?_); clear hK13
        dsimp only [law28_CirculationPartition_k2] at hM
        refine cw_region ?_
        refine ow_ev (ev_add (hr := fun _ => by unfold I64; omega)) ?_
        refine ow_ev ev_move ?_
        refine ow_nil (hL1 (nn1, (lseen_2, t53_1 + 1), ()) _ _ (eqc hcont1 hM) (Nat.lt_succ_self _) ⟨rfl, rfl, rfl, rfl, rfl, rfl, trivial⟩ (fun w hm => hm.reord))
    ·
      replace hM := (ite_f hc18).symm.trans hM
      refine cw_exit (hK9 _ _ ?_); clear hK9
      dsimp only [law28_CirculationPartition_k1] at hM
      refine cw_seq fun K27 hK27 => ?_
      refine cw_seq fun K28 hK28 => ?_
      refine cw_region ?_
      refine ow_ev ev_move ?_
      refine ow_have (fun w hm => Kn.len (Kn.trow (e := 60) (r := r3.1) (by repeat (first | exact Has.head | apply Has.tail))) hm) fun hl42 => ?_
      refine ow_ev ev_len ?_
      refine ow_ev ev_move ?_
      refine ow_nil (hK28 _ _ ?_); clear hK28
      refine cw_block ?_
      refine cw_loop (γ := Nat × Nat × Unit) (env := fun (_, t102_3, _) => [(10, .v (.pointer (some ⟨b16, 0, none⟩))), (101, .v (.int .i64 (y1.1.length : Int))), (102, .v (.int .i64 (t102_3 : Int)))]) (mem := fun (_, t102_3, _) => [trow 76 (⟨some ⟨b16, 0, none⟩, 8, fun _ => ()⟩ : SR (GoRep.R Int)) lseen_1]) (R := fun g => iter (law28_CirculationPartition_b3 y1 lseen_1) g.1 g.2.1 = some y) (μ := fun g => g.1) (FUEL, 0, ()) hM ⟨rfl, rfl, rfl, trivial⟩ (fun w hm => hm.reord) ?_
      clear hM
      intro g hM KL3 hL3
      obtain ⟨nn3, t102_3, ⟨⟩⟩ := g
      dsimp only at hM ⊢
      obtain ⟨nn3, cont3, rfl, hcont3, hM⟩ := iter_open' hM
      dsimp only [law28_CirculationPartition_b3] at hM
      refine cw_seq fun K29 hK29 => ?_
      refine cw_region ?_
      refine ow_ev ev_lss ?_
      refine ow_nil (hK29 _ _ ?_); clear hK29
      refine cw_seq fun K30 hK30 => ?_
      refine cw_cond rfl (fun hc43 => ?_) (fun hc43 => ?_)
      ·
        replace hM := (ite_t hc43).symm.trans hM
        have hc43d := of_decide_eq_true hc43
        refine cw_skip (hK30 _ _ ?_); clear hK30
        refine cw_seq fun K31 hK31 => ?_
        refine cw_block ?_
        refine cw_seq fun K32 hK32 => ?_
        refine cw_region ?_
        refine ow_ev ev_move ?_
        refine ow_ev ev_assign ?_
        refine ow_nil (hK32 _ _ ?_); clear hK32
        refine cw_seq fun K33 hK33 => ?_
        refine cw_region ?_
        refine ow_ev ev_move ?_
        obtain ⟨x44, hx45, hM⟩ := bind_some hM
        refine ow_ev (ev_aidx (r := (⟨some ⟨b16, 0, none⟩, 8, fun _ => ()⟩ : SR (GoRep.R Int))) (xs := lseen_1) 1 (Kn.trow (e := 76) (r := (⟨some ⟨b16, 0, none⟩, 8, fun _ => ()⟩ : SR (GoRep.R Int))) (by repeat (first | exact Has.head | apply Has.tail))) (fun hg => let h := idx_some hx45; ⟨h.1, h.2.1⟩)) ?_
        refine ow_ev (ev_ld (i := (t102_3 : Int)) (xs := lseen_1) (y := x44) 0 (Kn.trow (e := 76) (r := (⟨some ⟨b16, 0, none⟩, 8, fun _ => ()⟩ : SR (GoRep.R Int))) (by repeat (first | exact Has.head | apply Has.tail))) (fun _ => hx45)) ?_
        refine ow_ev ev_neq ?_
        refine ow_nil (hK33 _ _ ?_); clear hK33
        refine cw_cond rfl (fun hc46 => ?_) (fun hc46 => ?_)
        ·
          replace hM := (ite_t hc46).symm.trans hM
          refine cw_seq fun K34 hK34 => ?_
          refine cw_region ?_
          refine ow_ev ev_assign ?_
          refine ow_nil (hK34 _ _ ?_); clear hK34
          obtain rfl := some_inj hM
          refine cw_ret (kw_retc1 (fun w hm => ret_of hm rfl))
        ·
          replace hM := (ite_f hc46).symm.trans hM
          refine cw_skip (hK31 _ _ ?_); clear hK31
          refine cw_region ?_
          refine ow_ev (ev_add (hr := fun _ => by unfold I64; omega)) ?_
          refine ow_ev ev_move ?_
          refine ow_nil (hL3 (nn3, (t102_3 + 1), ()) _ _ (eqc hcont3 hM) (Nat.lt_succ_self _) ⟨rfl, rfl, rfl, trivial⟩ (fun w hm => hm.reord))
      ·
        replace hM := (ite_f hc43).symm.trans hM
        refine cw_exit (hK27 _ _ ?_); clear hK27
        dsimp only [law28_CirculationPartition_k4] at hM
        refine cw_seq fun K35 hK35 => ?_
        refine cw_region ?_
        obtain ⟨y47, hy48, hM⟩ := bind_some hM
        refine ow_cons (st_callv (fun w hm => let ⟨S, hs⟩ := hm; law28_awake_spec _ w  y47 hy48 (lend_lt hs) ) ?_)
        refine ow_ev ev_assign ?_
        refine ow_nil (hK35 _ _ ?_); clear hK35
        obtain rfl := some_inj hM
        refine cw_ret (kw_retc1 (fun w hm => ret_of hm rfl))

end Go.Proofs.Ytedocibniankjaa
