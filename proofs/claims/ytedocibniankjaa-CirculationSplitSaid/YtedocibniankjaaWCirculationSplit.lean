/- Models of functions, and that the code computes them. -/
import Derived.Test.YtedocibniankjaaCr
namespace Go.Proofs.Ytedocibniankjaa
open Go.Dc Go.RowKit
set_option maxRecDepth 10000
set_option linter.unusedVariables false
def law28_CirculationSplit_k1 : Unit → Option Bool := fun _ =>
  (law28_awake_m).bind fun y32 =>
  some y32
def law28_CirculationSplit_b1 (y12 : (List (List Int)) × Int) (raw0 : List Int) (y1 : (List Task) × Rules) (y5 : Int) (cont1 : Nat → Option Bool) : Nat → Option Bool := fun t56_1 =>
  if decide ((t56_1 : Int) < ((y12.1 ++ ([raw0] : List (List Int))).length : Int)) then
    ((idx (y12.1 ++ ([raw0] : List (List Int))) (t56_1 : Int)).bind fun x21 =>
    (circulation_Split_m y1.1 (Rules.mk y1.2.Turn y1.2.Empties y1.2.Shops y1.2.Service (1 + y5)) x21).bind fun y23 =>
    (ref24_Split_m y1.1 (Rules.mk y1.2.Turn y1.2.Empties y1.2.Shops y1.2.Service (1 + y5)) x21).bind fun y26 =>
    (keep_SameLists_int_m y23.1 y26.1).bind fun y29 =>
    if ((!y29) || decide (y23.2 ≠ y26.2)) then
      (some false)
    else
      (cont1 (t56_1 + 1)))
  else
    (law28_CirculationSplit_k1 ())
def law28_CirculationSplit_m (l0 : List Int) (raw0 : List Int) (limit0 : Int) : Option Bool :=
  (keep2_Tasks_m l0).bind fun y1 =>
  (keep_Pick_m limit0 90).bind fun y5 =>
  chk (i64b (1 + y5)) <|
  (circulation_Build_m y1.1 (Rules.mk y1.2.Turn y1.2.Empties y1.2.Shops y1.2.Service (1 + y5))).bind fun y8 =>
  (ref24_Chains_m y8.1).bind fun y12 =>
  if (decide (y12.2 ≠ 0) || decide ((y8.1.length : Int) ≠ (y1.1.length : Int))) then
    (some false)
  else
    (chk (decide ((y12.1.length + ([raw0] : List (List Int)).length) * 24 ≤ 140737488355328)) <|
    iter (law28_CirculationSplit_b1 y12 raw0 y1 y5) FUEL 0)
theorem law28_CirculationSplit_spec (S : Soup) (w : World) (l0 : List Int) (r_l0 : GoRep.R (List Int)) (raw0 : List Int) (r_raw0 : GoRep.R (List Int)) (limit0 : Int) (y : Bool) (hM : law28_CirculationSplit_m l0 raw0 limit0 = some y) (hS : ∀ k, S k → k < w.heap.size) (h_l0 : GoRep.ok S w r_l0 l0) (h_raw0 : GoRep.ok S w r_raw0 raw0) :
    Calls Try.prog 16 #[.slice r_l0.a l0.length r_l0.cap, .slice r_raw0.a raw0.length r_raw0.cap, .int .i64 limit0] w (Ret w (.bool y)) := by
  refine calls_cw (args := [_, _, _]) Try.func16 rfl ((pre_nil hS).start |>.immP (α := List Int) (r := r_l0) (x := l0) h_l0|>.immP (α := List Int) (r := r_raw0) (x := raw0) h_raw0) rfl ?_
  unfold law28_CirculationSplit_m at hM
  refine cw_seq fun K1 hK1 => ?_
  refine cw_region ?_
  refine ow_ev ev_assign ?_
  refine ow_nil (hK1 _ _ ?_); clear hK1
  refine cw_seq fun K2 hK2 => ?_
  refine cw_region ?_
  refine ow_ev ev_move ?_
  obtain ⟨y1, hy2, hM⟩ := bind_some hM
  refine ow_cons (st_callF SelL.nil (fun S w hs hP => keep2_Tasks_spec _ w l0 r_l0 y1 hy2 (lend_lt hs) (Kn.lend (Kn.imm (α := List Int) (r := r_l0) (x := l0) (by repeat (first | exact Has.head | apply Has.tail))) hs)) (by intro r c hc; simp only [List.mem_cons, List.not_mem_nil, or_false] at hc; rcases hc with rfl | rfl | rfl <;> first | exact flatC_own | exact flatC_trow (fun _ _ _ _ => trivial)) (fun r3 => ?_))
  dsimp only [List.cons_append, List.nil_append]
  refine ow_ev ev_move ?_
  refine ow_ev (ev_extract (vs := [.slice r3.1.a y1.1.length r3.1.cap, .agg #[.int .i64 y1.2.Turn, .slice r3.2.1.a y1.2.Empties.length r3.2.1.cap, .slice r3.2.2.a y1.2.Shops.length r3.2.2.cap, .int .i64 y1.2.Service, .int .i64 y1.2.Limit]])) ?_
  refine ow_ev (ev_extract (vs := [.slice r3.1.a y1.1.length r3.1.cap, .agg #[.int .i64 y1.2.Turn, .slice r3.2.1.a y1.2.Empties.length r3.2.1.cap, .slice r3.2.2.a y1.2.Shops.length r3.2.2.cap, .int .i64 y1.2.Service, .int .i64 y1.2.Limit]])) ?_
  refine ow_cons (st_alloc rfl (k := fun b4 => ?_))
  refine ow_ev ev_assign ?_
  refine ow_cons (st_store_all (b := b4) (vs := [.int .i64 y1.2.Turn, .slice r3.2.1.a y1.2.Empties.length r3.2.1.cap, .slice r3.2.2.a y1.2.Shops.length r3.2.2.cap, .int .i64 y1.2.Service, .int .i64 y1.2.Limit]) (k := ?_))
  refine ow_nil (hK2 _ _ ?_); clear hK2
  refine cw_seq fun K3 hK3 => ?_
  refine cw_region ?_
  refine ow_ev ev_move ?_
  obtain ⟨y5, hy6, hM⟩ := bind_some hM
  refine ow_cons (st_callv (fun w hm => let ⟨S, hs⟩ := hm; keep_Pick_spec _ w limit0 90 y5 hy6 (lend_lt hs) ) ?_)
  obtain ⟨hI7, hM⟩ := chk_some hM
  refine ow_ev (ev_add (hr := fun hg => i64b_I64 hI7)) ?_
  refine ow_ev (ev_field_addr 4) ?_
  refine ow_cons (st_store_own (b := b4) (l' := [.int .i64 y1.2.Turn, .slice r3.2.1.a y1.2.Empties.length r3.2.1.cap, .slice r3.2.2.a y1.2.Shops.length r3.2.2.cap, .int .i64 y1.2.Service, .int .i64 (1 + y5)]) (k := ?_))
  refine ow_nil (hK3 _ _ ?_); clear hK3
  refine cw_seq fun K4 hK4 => ?_
  refine cw_region ?_
  refine ow_ev ev_move ?_
  refine ow_ev (ev_load_all (b := b4)) ?_
  obtain ⟨y8, hy9, hM⟩ := bind_some hM
  refine ow_cons (st_callF SelL.nil (fun S w hs hP => circulation_Build_spec _ w y1.1 r3.1 (Rules.mk y1.2.Turn y1.2.Empties y1.2.Shops y1.2.Service (1 + y5)) r3.2 y8 hy9 (lend_lt hs) (Kn.lend (Kn.trow (e := 60) (r := r3.1) (by repeat (first | exact Has.head | apply Has.tail))) hs) ⟨(Kn.lend (Kn.trow (e := 58) (r := r3.2.1) (by repeat (first | exact Has.head | apply Has.tail))) hs), (Kn.lend (Kn.trow (e := 3) (r := r3.2.2) (by repeat (first | exact Has.head | apply Has.tail))) hs)⟩) (by intro r c hc; simp only [List.mem_cons, List.not_mem_nil, or_false] at hc; rcases hc with rfl | rfl | rfl <;> first | exact flatC_own | exact flatC_trow (fun _ _ _ _ => trivial)) (fun r10 => ?_))
  dsimp only [List.cons_append, List.nil_append]
  refine ow_ev ev_move ?_
  refine ow_ev (ev_extract (vs := [.slice r10.1.a y8.1.length r10.1.cap, .agg #[.slice r10.2.1.a y8.2.1.Left.length r10.2.1.cap, .slice r10.2.2.a y8.2.1.Right.length r10.2.2.cap], .int .i64 y8.2.2])) ?_
  refine ow_ev (ev_extract (vs := [.slice r10.1.a y8.1.length r10.1.cap, .agg #[.slice r10.2.1.a y8.2.1.Left.length r10.2.1.cap, .slice r10.2.2.a y8.2.1.Right.length r10.2.2.cap], .int .i64 y8.2.2])) ?_
  refine ow_ev (ev_extract (vs := [.slice r10.1.a y8.1.length r10.1.cap, .agg #[.slice r10.2.1.a y8.2.1.Left.length r10.2.1.cap, .slice r10.2.2.a y8.2.1.Right.length r10.2.2.cap], .int .i64 y8.2.2])) ?_
  refine ow_cons (st_alloc rfl (k := fun b11 => ?_))
  refine ow_ev ev_assign ?_
  refine ow_cons (st_store_all (b := b11) (vs := [.slice r10.2.1.a y8.2.1.Left.length r10.2.1.cap, .slice r10.2.2.a y8.2.1.Right.length r10.2.2.cap]) (k := ?_))
  refine ow_ev ev_assign ?_
  refine ow_nil (hK4 _ _ ?_); clear hK4
  refine cw_seq fun K5 hK5 => ?_
  refine cw_region ?_
  refine ow_ev ev_move ?_
  refine ow_imp (fun w hm => hm.freeze (r := r10.1) (by repeat (first | exact Upd.head | apply Upd.tail))) ?_
  obtain ⟨y12, hy13, hM⟩ := bind_some hM
  refine ow_cons (st_callS SelL.nil (fun S w hs hP => ref24_Chains_spec _ w y8.1 r10.1 y12 hy13 hs.lt ((Sk.imm (α := List Int) (r := r10.1) (x := y8.1) (by repeat (first | exact Has.head | apply Has.tail))) S w hs))  (fun r14 => ?_))
  dsimp only [List.cons_append, List.nil_append]
  refine ow_ev ev_move ?_
  refine ow_ev (ev_extract (vs := [.slice r14.a y12.1.length r14.cap, .int .i64 y12.2])) ?_
  refine ow_ev (ev_extract (vs := [.slice r14.a y12.1.length r14.cap, .int .i64 y12.2])) ?_
  refine ow_ev ev_assign ?_
  refine ow_ev ev_assign ?_
  refine ow_nil (hK5 _ _ ?_); clear hK5
  refine cw_seq fun K6 hK6 => ?_
  refine cw_seq fun K7 hK7 => ?_
  refine cw_region ?_
  refine ow_ev ev_move ?_
  refine ow_ev ev_neq ?_
  refine ow_ev ev_move ?_
  refine ow_evg rfl ev_move ?_
  refine ow_evg rfl ev_len ?_
  refine ow_evg rfl ev_move ?_
  refine ow_evg rfl ev_len ?_
  refine ow_evg rfl ev_neq ?_
  refine ow_ev ev_or ?_
  refine ow_nil (hK7 _ _ ?_); clear hK7
  refine cw_cond rfl (fun hc15 => ?_) (fun hc15 => ?_)
  ·
    replace hM := (ite_t hc15).symm.trans hM
    refine cw_seq fun K8 hK8 => ?_
    refine cw_region ?_
    refine ow_ev ev_assign ?_
    refine ow_nil (hK8 _ _ ?_); clear hK8
    obtain rfl := some_inj hM
    refine cw_ret (kw_retc1 (fun w hm => ret_of hm rfl))
  ·
    replace hM := (ite_f hc15).symm.trans hM
    refine cw_skip (hK6 _ _ ?_); clear hK6
    refine cw_seq fun K9 hK9 => ?_
    refine cw_region ?_
    refine ow_ev ev_move ?_
    refine ow_ev ev_move ?_
    refine ow_cons (st_bslice (α := List Int) 22 (fun _ => r_raw0) ([raw0] : List (List Int)) (OkL.cons (fun S w hs => ((Sk.imm (α := List Int) (r := r_raw0) (x := raw0) (by repeat (first | exact Has.head | apply Has.tail))) S w hs)) OkL.nil) (fun r16 => ?_))
    obtain ⟨hb17, hM⟩ := chk_some hM
    refine ow_cons (st_append (r := r14) (r2 := r16) (by intro r'; repeat (first | exact Upd.head | apply Upd.tail)) (Kn.trow (e := 22) (r := r16) (by repeat (first | exact Has.head | apply Has.tail))) (OkL.row (e := 22) (r := r16) (by repeat (first | exact Has.head | apply Has.tail))) (of_decide_eq_true hb17) (fun r18 => ?_))
    refine ow_ev ev_assign ?_
    refine ow_nil (hK9 _ _ ?_); clear hK9
    refine cw_seq fun K10 hK10 => ?_
    refine cw_seq fun K11 hK11 => ?_
    refine cw_region ?_
    refine ow_ev ev_move ?_
    refine ow_have (fun w hm => Kn.len (Kn.trow (e := 22) (r := r18) (by repeat (first | exact Has.head | apply Has.tail))) hm) fun hl19 => ?_
    refine ow_ev ev_len ?_
    refine ow_ev ev_move ?_
    refine ow_nil (hK11 _ _ ?_); clear hK11
    refine cw_block ?_
    refine cw_imp (fun w hm => hm.freeze (r := r3.1) (by repeat (first | exact Upd.head | apply Upd.tail))) ?_
    refine cw_imp (fun w hm => hm.freeze (r := r3.2.1) (by repeat (first | exact Upd.head | apply Upd.tail))) ?_
    refine cw_imp (fun w hm => hm.freeze (r := r3.2.2) (by repeat (first | exact Upd.head | apply Upd.tail))) ?_
    refine cw_loop (γ := Nat × Nat × Unit) (env := fun (_, t56_1, _) => [(7, .v (.slice r3.1.a y1.1.length r3.1.cap)), (8, .v (.pointer (some ⟨b4, 0, none⟩))), (54, .v (.slice r18.a ((y12.1 ++ ([raw0] : List (List Int))).length) r18.cap)), (55, .v (.int .i64 ((y12.1 ++ ([raw0] : List (List Int))).length : Int))), (56, .v (.int .i64 (t56_1 : Int)))]) (mem := fun (_, t56_1, _) => [imm (α := (List Task)) r3.1 y1.1, imm (α := (List EmptyT)) r3.2.1 y1.2.Empties, imm (α := (List Int)) r3.2.2 y1.2.Shops, own b4 53 [.int .i64 y1.2.Turn, .slice r3.2.1.a y1.2.Empties.length r3.2.1.cap, .slice r3.2.2.a y1.2.Shops.length r3.2.2.cap, .int .i64 y1.2.Service, .int .i64 (1 + y5)], trow 22 r18 (y12.1 ++ ([raw0] : List (List Int)))]) (R := fun g => iter (law28_CirculationSplit_b1 y12 raw0 y1 y5) g.1 g.2.1 = some y) (μ := fun g => g.1) (FUEL, 0, ()) hM ⟨rfl, rfl, rfl, rfl, rfl, trivial⟩ (fun w hm => hm.reord) ?_
    clear hM
    intro g hM KL1 hL1
    obtain ⟨nn1, t56_1, ⟨⟩⟩ := g
    dsimp only at hM ⊢
    obtain ⟨nn1, cont1, rfl, hcont1, hM⟩ := iter_open' hM
    dsimp only [law28_CirculationSplit_b1] at hM
    refine cw_seq fun K12 hK12 => ?_
    refine cw_region ?_
    refine ow_ev ev_lss ?_
    refine ow_nil (hK12 _ _ ?_); clear hK12
    refine cw_seq fun K13 hK13 => ?_
    refine cw_cond rfl (fun hc20 => ?_) (fun hc20 => ?_)
    ·
      replace hM := (ite_t hc20).symm.trans hM
      have hc20d := of_decide_eq_true hc20
      refine cw_skip (hK13 _ _ ?_); clear hK13
      refine cw_seq fun K14 hK14 => ?_
      refine cw_block ?_
      refine cw_seq fun K15 hK15 => ?_
      refine cw_region ?_
      obtain ⟨x21, hx22, hM⟩ := bind_some hM
      refine ow_ev (ev_idx (xs := (y12.1 ++ ([raw0] : List (List Int)))) 1 (Kn.trow (e := 22) (r := r18) (by repeat (first | exact Has.head | apply Has.tail))) (fun hg => let h := idx_some hx22; ⟨h.1, h.2.1⟩)) ?_
      refine ow_ev (ev_ld (i := (t56_1 : Int)) (xs := (y12.1 ++ ([raw0] : List (List Int)))) (y := x21) 0 (Kn.trow (e := 22) (r := r18) (by repeat (first | exact Has.head | apply Has.tail))) (fun _ => hx22)) ?_
      refine ow_ev ev_assign ?_
      refine ow_nil (hK15 _ _ ?_); clear hK15
      refine cw_seq fun K16 hK16 => ?_
      refine cw_region ?_
      refine ow_ev ev_move ?_
      refine ow_ev (ev_load_all (b := b4)) ?_
      refine ow_ev ev_move ?_
      obtain ⟨y23, hy24, hM⟩ := bind_some hM
      refine ow_cons (st_callS SelL.nil (fun S w hs hP => circulation_Split_spec _ w y1.1 r3.1 (Rules.mk y1.2.Turn y1.2.Empties y1.2.Shops y1.2.Service (1 + y5)) r3.2 x21 (r18.es (t56_1 : Int).toNat) y23 hy24 hs.lt ((Sk.imm (α := List Task) (r := r3.1) (x := y1.1) (by repeat (first | exact Has.head | apply Has.tail))) S w hs) ⟨((Sk.imm (α := List EmptyT) (r := r3.2.1) (x := y1.2.Empties) (by repeat (first | exact Has.head | apply Has.tail))) S w hs), ((Sk.imm (α := List Int) (r := r3.2.2) (x := y1.2.Shops) (by repeat (first | exact Has.head | apply Has.tail))) S w hs)⟩ ((Sk.row (e := 22) (r := r18) (by repeat (first | exact Has.head | apply Has.tail)) hx22) S w hs))  (fun r25 => ?_))
      dsimp only [List.cons_append, List.nil_append]
      refine ow_ev ev_move ?_
      refine ow_ev (ev_extract (vs := [.slice r25.a y23.1.length r25.cap, .int .i64 y23.2])) ?_
      refine ow_ev (ev_extract (vs := [.slice r25.a y23.1.length r25.cap, .int .i64 y23.2])) ?_
      refine ow_ev ev_assign ?_
      refine ow_ev ev_assign ?_
      refine ow_nil (hK16 _ _ ?_); clear hK16
      refine cw_seq fun K17 hK17 => ?_
      refine cw_region ?_
      refine ow_ev ev_move ?_
      refine ow_ev (ev_load_all (b := b4)) ?_
      refine ow_ev ev_move ?_
      obtain ⟨y26, hy27, hM⟩ := bind_some hM
      refine ow_cons (st_callS SelL.nil (fun S w hs hP => ref24_Split_spec _ w y1.1 r3.1 (Rules.mk y1.2.Turn y1.2.Empties y1.2.Shops y1.2.Service (1 + y5)) r3.2 x21 (r18.es (t56_1 : Int).toNat) y26 hy27 hs.lt ((Sk.imm (α := List Task) (r := r3.1) (x := y1.1) (by repeat (first | exact Has.head | apply Has.tail))) S w hs) ⟨((Sk.imm (α := List EmptyT) (r := r3.2.1) (x := y1.2.Empties) (by repeat (first | exact Has.head | apply Has.tail))) S w hs), ((Sk.imm (α := List Int) (r := r3.2.2) (x := y1.2.Shops) (by repeat (first | exact Has.head | apply Has.tail))) S w hs)⟩ ((Sk.row (e := 22) (r := r18) (by repeat (first | exact Has.head | apply Has.tail)) hx22) S w hs))  (fun r28 => ?_))
      dsimp only [List.cons_append, List.nil_append]
      refine ow_ev ev_move ?_
      refine ow_ev (ev_extract (vs := [.slice r28.a y26.1.length r28.cap, .int .i64 y26.2])) ?_
      refine ow_ev (ev_extract (vs := [.slice r28.a y26.1.length r28.cap, .int .i64 y26.2])) ?_
      refine ow_ev ev_assign ?_
      refine ow_ev ev_assign ?_
      refine ow_nil (hK17 _ _ ?_); clear hK17
      refine cw_seq fun K18 hK18 => ?_
      refine cw_region ?_
      refine ow_ev ev_move ?_
      refine ow_ev ev_move ?_
      obtain ⟨y29, hy30, hM⟩ := bind_some hM
      refine ow_cons (st_callv (fun w hm => let ⟨S, hs⟩ := hm; keep_SameLists_int_spec _ w y23.1 r25 y26.1 r28 y29 hy30 (lend_lt hs) (Kn.lend (Kn.trow (e := 22) (r := r25) (by repeat (first | exact Has.head | apply Has.tail))) hs) (Kn.lend (Kn.trow (e := 22) (r := r28) (by repeat (first | exact Has.head | apply Has.tail))) hs)) ?_)
      refine ow_ev ev_not ?_
      refine ow_ev ev_move ?_
      refine ow_evg rfl ev_move ?_
      refine ow_evg rfl ev_move ?_
      refine ow_evg rfl ev_neq ?_
      refine ow_ev ev_or ?_
      refine ow_nil (hK18 _ _ ?_); clear hK18
      refine cw_cond rfl (fun hc31 => ?_) (fun hc31 => ?_)
      ·
        replace hM := (ite_t hc31).symm.trans hM
        refine cw_seq fun K19 hK19 => ?_
        refine cw_region ?_
        refine ow_ev ev_assign ?_
        refine ow_nil (hK19 _ _ ?_); clear hK19
        obtain rfl := some_inj hM
        refine cw_ret (kw_retc1 (fun w hm => ret_of hm rfl))
      ·
        replace hM := (ite_f hc31).symm.trans hM
        refine cw_skip (hK14 _ _ ?_); clear hK14
        refine cw_region ?_
        refine ow_ev (ev_add (hr := fun _ => by unfold I64; omega)) ?_
        refine ow_ev ev_move ?_
        refine ow_nil (hL1 (nn1, (t56_1 + 1), ()) _ _ (eqc hcont1 hM) (Nat.lt_succ_self _) ⟨rfl, rfl, rfl, rfl, rfl, trivial⟩ (fun w hm => hm.reord))
    ·
      replace hM := (ite_f hc20).symm.trans hM
      refine cw_exit (hK10 _ _ ?_); clear hK10
      dsimp only [law28_CirculationSplit_k1] at hM
      refine cw_seq fun K20 hK20 => ?_
      refine cw_region ?_
      obtain ⟨y32, hy33, hM⟩ := bind_some hM
      refine ow_cons (st_callv (fun w hm => let ⟨S, hs⟩ := hm; law28_awake_spec _ w  y32 hy33 (lend_lt hs) ) ?_)
      refine ow_ev ev_assign ?_
      refine ow_nil (hK20 _ _ ?_); clear hK20
      obtain rfl := some_inj hM
      refine cw_ret (kw_retc1 (fun w hm => ret_of hm rfl))

end Go.Proofs.Ytedocibniankjaa
