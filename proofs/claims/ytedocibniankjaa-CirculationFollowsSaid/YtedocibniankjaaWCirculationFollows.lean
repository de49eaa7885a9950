/- Models of functions, and that the code computes them. -/
import Derived.Test.YtedocibniankjaaCc
namespace Go.Proofs.Ytedocibniankjaa
open Go.Dc Go.RowKit
set_option maxRecDepth 10000
set_option linter.unusedVariables false
def law28_CirculationFollows_k2 (cont1 : Nat → Option Bool) (t20_1 : Nat) : Unit → Option Bool := fun _ =>
  cont1 (t20_1 + 1)
def law28_CirculationFollows_b2 (y1 : (List Task) × Rules) (x7 : Task) (cont1 : Nat → Option Bool) (t20_1 : Nat) (cont2 : Nat → Option Bool) : Nat → Option Bool := fun t26_2 =>
  if decide ((t26_2 : Int) < (y1.1.length : Int)) then
    ((idx y1.1 (t26_2 : Int)).bind fun x12 =>
    (circulation_Follows_m y1.2 x7 x12).bind fun y15 =>
    (ref24_Follows_m y1.2 x7 x12).bind fun y17 =>
    chk (!((!(decide (y15.1 ≠ y17.1) || (!(y15.2 == y17.2)))) && y15.2) || i64b (x7.End + y1.2.Turn)) <|
    chk (!((!(decide (y15.1 ≠ y17.1) || (!(y15.2 == y17.2)))) && y15.2) || i64b ((x7.End + y1.2.Turn) + y15.1)) <|
    if ((decide (y15.1 ≠ y17.1) || (!(y15.2 == y17.2))) || (y15.2 && decide (x12.Start < ((x7.End + y1.2.Turn) + y15.1)))) then
      (some false)
    else
      (cont2 (t26_2 + 1)))
  else
    (law28_CirculationFollows_k2 cont1 t20_1 ())
def law28_CirculationFollows_k1 : Unit → Option Bool := fun _ =>
  (law28_awake_m).bind fun y22 =>
  some y22
def law28_CirculationFollows_b1 (y1 : (List Task) × Rules) (cont1 : Nat → Option Bool) : Nat → Option Bool := fun t20_1 =>
  if decide ((t20_1 : Int) < (y1.1.length : Int)) then
    ((idx y1.1 (t20_1 : Int)).bind fun x7 =>
    iter (law28_CirculationFollows_b2 y1 x7 cont1 t20_1) FUEL 0)
  else
    (law28_CirculationFollows_k1 ())
def law28_CirculationFollows_m (l0 : List Int) : Option Bool :=
  (keep2_Tasks_m l0).bind fun y1 =>
  iter (law28_CirculationFollows_b1 y1) FUEL 0
theorem law28_CirculationFollows_spec (S : Soup) (w : World) (l0 : List Int) (r_l0 : GoRep.R (List Int)) (y : Bool) (hM : law28_CirculationFollows_m l0 = some y) (hS : ∀ k, S k → k < w.heap.size) (h_l0 : GoRep.ok S w r_l0 l0) :
    Calls Try.prog 12 #[.slice r_l0.a l0.length r_l0.cap] w (Ret w (.bool y)) := by
  refine calls_cw (args := [_]) Try.func12 rfl ((pre_nil hS).start |>.immP (α := List Int) (r := r_l0) (x := l0) h_l0) rfl ?_
  unfold law28_CirculationFollows_m at hM
  refine cw_seq fun K1 hK1 => ?_
  refine cw_region ?_
  refine ow_ev ev_assign ?_
  refine ow_nil (hK1 _ _ ?_); clear hK1
  refine cw_seq fun K2 hK2 => ?_
  refine cw_region ?_
  refine ow_ev ev_move ?_
  obtain ⟨y1, hy2, hM⟩ := bind_some hM
  refine ow_cons (st_callF SelL.nil (fun S w hs hP => keep2_Tasks_spec _ w l0 r_l0 y1 hy2 (lend_lt hs) (Kn.lend (Kn.imm (α := List Int) (r := r_l0) (x := l0) (by repeat (first | exact Has.head | apply Has.tail))) hs)) (by intro r c hc; simp only [List.mem_cons, List.not_mem_nil, or_false] at hc; rcases hc with rfl | rfl | rfl <;> first | exact flatC_own | exact flatC_trow (fun _ _ _ _ => trivial)) (fun r3 => ?_))
  dsimp only [List.cons_append, List.nil_append]
  refine ow_ev ev_move ?_
  refine ow_ev (ev_extract (vs := [.slice r3.1.a y1.1.length r3.1.cap, .agg #[.int .i64 y1.2.Turn, .slice r3.2.1.a y1.2.Empties.length r3.2.1.cap, .slice r3.2.2.a y1.2.Shops.length r3.2.2.cap, .int .i64 y1.2.Service, .int .i64 y1.2.Limit]])) ?_
  refine ow_ev (ev_extract (vs := [.slice r3.1.a y1.1.length r3.1.cap, .agg #[.int .i64 y1.2.Turn, .slice r3.2.1.a y1.2.Empties.length r3.2.1.cap, .slice r3.2.2.a y1.2.Shops.length r3.2.2.cap, .int .i64 y1.2.Service, .int .i64 y1.2.Limit]])) ?_
  refine ow_cons (st_alloc rfl (k := fun b4 => ?_))
  refine ow_ev ev_assign ?_
  refine ow_cons (st_store_all (b := b4) (vs := [.int .i64 y1.2.Turn, .slice r3.2.1.a y1.2.Empties.length r3.2.1.cap, .slice r3.2.2.a y1.2.Shops.length r3.2.2.cap, .int .i64 y1.2.Service, .int .i64 y1.2.Limit]) (k := ?_))
  refine ow_nil (hK2 _ _ ?_); clear hK2
  refine cw_seq fun K3 hK3 => ?_
  refine cw_seq fun K4 hK4 => ?_
  refine cw_region ?_
  refine ow_ev ev_move ?_
  refine ow_have (fun w hm => Kn.len (Kn.trow (e := 60) (r := r3.1) (by repeat (first | exact Has.head | apply Has.tail))) hm) fun hl5 => ?_
  refine ow_ev ev_len ?_
  refine ow_ev ev_move ?_
  refine ow_nil (hK4 _ _ ?_); clear hK4
  refine cw_block ?_
  refine cw_loop (γ := Nat × Nat × Unit) (env := fun (_, t20_1, _) => [(3, .v (.slice r3.1.a y1.1.length r3.1.cap)), (4, .v (.pointer (some ⟨b4, 0, none⟩))), (18, .v (.slice r3.1.a y1.1.length r3.1.cap)), (19, .v (.int .i64 (y1.1.length : Int))), (20, .v (.int .i64 (t20_1 : Int)))]) (mem := fun (_, t20_1, _) => [trow 60 r3.1 y1.1, trow 58 r3.2.1 y1.2.Empties, trow 3 r3.2.2 y1.2.Shops, own b4 53 [.int .i64 y1.2.Turn, .slice r3.2.1.a y1.2.Empties.length r3.2.1.cap, .slice r3.2.2.a y1.2.Shops.length r3.2.2.cap, .int .i64 y1.2.Service, .int .i64 y1.2.Limit]]) (R := fun g => iter (law28_CirculationFollows_b1 y1) g.1 g.2.1 = some y) (μ := fun g => g.1) (FUEL, 0, ()) hM ⟨rfl, rfl, rfl, rfl, rfl, trivial⟩ (fun w hm => hm.reord) ?_
  clear hM
  intro g hM KL1 hL1
  obtain ⟨nn1, t20_1, ⟨⟩⟩ := g
  dsimp only at hM ⊢
  obtain ⟨nn1, cont1, rfl, hcont1, hM⟩ := iter_open' hM
  dsimp only [law28_CirculationFollows_b1] at hM
  refine cw_seq fun K5 hK5 => ?_
  refine cw_region ?_
  refine ow_ev ev_lss ?_
  refine ow_nil (hK5 _ _ ?_); clear hK5
  refine cw_seq fun K6 hK6 => ?_
  refine cw_cond rfl (fun hc6 => ?_) (fun hc6 => ?_)
  ·
    replace hM := (ite_t hc6).symm.trans hM
    have hc6d := of_decide_eq_true hc6
    refine cw_skip (hK6 _ _ ?_); clear hK6
    refine cw_seq fun K7 hK7 => ?_
    refine cw_block ?_
    refine cw_seq fun K8 hK8 => ?_
    refine cw_region ?_
    obtain ⟨x7, hx8, hM⟩ := bind_some hM
    refine ow_ev (ev_idx (xs := y1.1) 5 (Kn.trow (e := 60) (r := r3.1) (by repeat (first | exact Has.head | apply Has.tail))) (fun hg => let h := idx_some hx8; ⟨h.1, h.2.1⟩)) ?_
    refine ow_ev (ev_lds (m := 5) (i := (t20_1 : Int)) (xs := y1.1) (y := x7) (l := [.int .i64 x7.Type_, .int .i64 x7.From, .int .i64 x7.To, .int .i64 x7.Start, .int .i64 x7.End]) 0 (Kn.trow (e := 60) (r := r3.1) (by repeat (first | exact Has.head | apply Has.tail))) (fun _ => hx8)) ?_
    refine ow_cons (st_alloc rfl (k := fun b9 => ?_))
    refine ow_cons (st_store_all (b := b9) (vs := [.int .i64 x7.Type_, .int .i64 x7.From, .int .i64 x7.To, .int .i64 x7.Start, .int .i64 x7.End]) (k := ?_))
    refine ow_nil (hK8 _ _ ?_); clear hK8
    refine cw_seq fun K9 hK9 => ?_
    refine cw_region ?_
    refine ow_ev ev_move ?_
    refine ow_have (fun w hm => Kn.len (Kn.trow (e := 60) (r := r3.1) (by repeat (first | exact Has.head | apply Has.tail))) hm) fun hl10 => ?_
    refine ow_ev ev_len ?_
    refine ow_ev ev_move ?_
    refine ow_nil (hK9 _ _ ?_); clear hK9
    refine cw_block ?_
    refine cw_loop (γ := Nat × Nat × Unit) (env := fun (_, t26_2, _) => [(3, .v (.slice r3.1.a y1.1.length r3.1.cap)), (4, .v (.pointer (some ⟨b4, 0, none⟩))), (6, .v (.pointer (some ⟨b9, 0, none⟩))), (18, .v (.slice r3.1.a y1.1.length r3.1.cap)), (19, .v (.int .i64 (y1.1.length : Int))), (20, .v (.int .i64 (t20_1 : Int))), (24, .v (.slice r3.1.a y1.1.length r3.1.cap)), (25, .v (.int .i64 (y1.1.length : Int))), (26, .v (.int .i64 (t26_2 : Int)))]) (mem := fun (_, t26_2, _) => [trow 60 r3.1 y1.1, trow 58 r3.2.1 y1.2.Empties, trow 3 r3.2.2 y1.2.Shops, own b4 53 [.int .i64 y1.2.Turn, .slice r3.2.1.a y1.2.Empties.length r3.2.1.cap, .slice r3.2.2.a y1.2.Shops.length r3.2.2.cap, .int .i64 y1.2.Service, .int .i64 y1.2.Limit], own b9 60 [.int .i64 x7.Type_, .int .i64 x7.From, .int .i64 x7.To, .int .i64 x7.Start, .int .i64 x7.End]]) (R := fun g => iter (law28_CirculationFollows_b2 y1 x7 cont1 t20_1) g.1 g.2.1 = some y) (μ := fun g => g.1) (FUEL, 0, ()) hM ⟨rfl, rfl, rfl, rfl, rfl, rfl, rfl, rfl, rfl, trivial⟩ (fun w hm => hm.reord) ?_
    clear hM
    intro g hM KL2 hL2
    obtain ⟨nn2, t26_2, ⟨⟩⟩ := g
    dsimp only at hM ⊢
    obtain ⟨nn2, cont2, rfl, hcont2, hM⟩ := iter_open' hM
    dsimp only [law28_CirculationFollows_b2] at hM
    refine cw_seq fun K10 hK10 => ?_
    refine cw_region ?_
    refine ow_ev ev_lss ?_
    refine ow_nil (hK10 _ _ ?_); clear hK10
    refine cw_seq fun K11 hK11 => ?_
    refine cw_cond rfl (fun hc11 => ?_) (fun hc11 => ?_)
    ·
      replace hM := (ite_t hc11).symm.trans hM
      have hc11d := of_decide_eq_true hc11
      refine cw_skip (hK11 _ _ ?_); clear hK11
      refine cw_seq fun K12 hK12 => ?_
      refine cw_block ?_
      refine cw_seq fun K13 hK13 => ?_
      refine cw_region ?_
      obtain ⟨x12, hx13, hM⟩ := bind_some hM
      refine ow_ev (ev_idx (xs := y1.1) 5 (Kn.trow (e := 60) (r := r3.1) (by repeat (first | exact Has.head | apply Has.tail))) (fun hg => let h := idx_some hx13; ⟨h.1, h.2.1⟩)) ?_
      refine ow_ev (ev_lds (m := 5) (i := (t26_2 : Int)) (xs := y1.1) (y := x12) (l := [.int .i64 x12.Type_, .int .i64 x12.From, .int .i64 x12.To, .int .i64 x12.Start, .int .i64 x12.End]) 0 (Kn.trow (e := 60) (r := r3.1) (by repeat (first | exact Has.head | apply Has.tail))) (fun _ => hx13)) ?_
      refine ow_cons (st_alloc rfl (k := fun b14 => ?_))
      refine ow_cons (st_store_all (b := b14) (vs := [.int .i64 x12.Type_, .int .i64 x12.From, .int .i64 x12.To, .int .i64 x12.Start, .int .i64 x12.End]) (k := ?_))
      refine ow_nil (hK13 _ _ ?_); clear hK13
      refine cw_seq fun K14 hK14 => ?_
      refine cw_region ?_
      refine ow_ev (ev_load_all (b := b4)) ?_
      refine ow_ev (ev_load_all (b := b9)) ?_
      refine ow_ev (ev_load_all (b := b14)) ?_
      obtain ⟨y15, hy16, hM⟩ := bind_some hM
      refine ow_cons (st_callv (fun w hm => let ⟨S, hs⟩ := hm; circulation_Follows_spec _ w y1.2 r3.2 x7 x12 y15 hy16 (lend_lt hs) ⟨(Kn.lend (Kn.trow (e := 58) (r := r3.2.1) (by repeat (first | exact Has.head | apply Has.tail))) hs), (Kn.lend (Kn.trow (e := 3) (r := r3.2.2) (by repeat (first | exact Has.head | apply Has.tail))) hs)⟩) ?_)
      refine ow_ev ev_move ?_
      refine ow_ev (ev_extract (vs := [.int .i64 y15.1, .bool y15.2])) ?_
      refine ow_ev (ev_extract (vs := [.int .i64 y15.1, .bool y15.2])) ?_
      refine ow_ev ev_assign ?_
      refine ow_ev ev_assign ?_
      refine ow_nil (hK14 _ _ ?_); clear hK14
      refine cw_seq fun K15 hK15 => ?_
      refine cw_region ?_
      refine ow_ev (ev_load_all (b := b4)) ?_
      refine ow_ev (ev_load_all (b := b9)) ?_
      refine ow_ev (ev_load_all (b := b14)) ?_
      obtain ⟨y17, hy18, hM⟩ := bind_some hM
      refine ow_cons (st_callv (fun w hm => let ⟨S, hs⟩ := hm; ref24_Follows_spec _ w y1.2 r3.2 x7 x12 y17 hy18 (lend_lt hs) ⟨(Kn.lend (Kn.trow (e := 58) (r := r3.2.1) (by repeat (first | exact Has.head | apply Has.tail))) hs), (Kn.lend (Kn.trow (e := 3) (r := r3.2.2) (by repeat (first | exact Has.head | apply Has.tail))) hs)⟩) ?_)
      refine ow_ev ev_move ?_
      refine ow_ev (ev_extract (vs := [.int .i64 y17.1, .bool y17.2])) ?_
      refine ow_ev (ev_extract (vs := [.int .i64 y17.1, .bool y17.2])) ?_
      refine ow_ev ev_assign ?_
      refine ow_ev ev_assign ?_
      refine ow_nil (hK15 _ _ ?_); clear hK15
      refine cw_seq fun K16 hK16 => ?_
      refine cw_region ?_
      refine ow_ev ev_move ?_
      refine ow_ev ev_move ?_
      refine ow_ev ev_neq ?_
      refine ow_ev ev_move ?_
      refine ow_evg rfl ev_move ?_
      refine ow_evg rfl ev_move ?_
      refine ow_evg rfl ev_bool_neq ?_
      refine ow_ev ev_or ?_
      refine ow_ev ev_move ?_
      refine ow_evg rfl ev_move ?_
      refine ow_evg rfl ev_move ?_
      refine ow_evg rfl (ev_field_addr 4) ?_
      refine ow_evg rfl (ev_load_own (b := b9)) ?_
      refine ow_evg rfl (ev_field_addr 0) ?_
      refine ow_evg rfl (ev_load_own (b := b4)) ?_
      obtain ⟨hI19, hM⟩ := chk_some hM
      refine ow_evg rfl (ev_add (hr := fun hg => i64b_I64 (gor hI19 hg))) ?_
      refine ow_evg rfl ev_move ?_
      obtain ⟨hI20, hM⟩ := chk_some hM
      refine ow_evg rfl (ev_add (hr := fun hg => i64b_I64 (gor hI20 hg))) ?_
      refine ow_evg rfl (ev_field_addr 3) ?_
      refine ow_evg rfl (ev_load_own (b := b14)) ?_
      refine ow_evg rfl ev_gtr ?_
      refine ow_evg rfl ev_and ?_
      refine ow_ev ev_or ?_
      refine ow_nil (hK16 _ _ ?_); clear hK16
      refine cw_cond rfl (fun hc21 => ?_) (fun hc21 => ?_)
      ·
        replace hM := (ite_t hc21).symm.trans hM
        refine cw_seq fun K17 hK17 => ?_
        refine cw_region ?_
        refine ow_ev ev_assign ?_
        refine ow_nil (hK17 _ _ ?_); clear hK17
        obtain rfl := some_inj hM
        refine cw_ret (kw_retc1 (fun w hm => ret_of hm rfl))
      ·
        replace hM := (ite_f hc21).symm.trans hM
        refine cw_skip (hK12 _ _ ?_); clear hK12
        refine cw_region ?_
        refine ow_ev (ev_add (hr := fun _ => by unfold I64; omega)) ?_
        refine ow_ev ev_move ?_
        refine ow_nil (hL2 (nn2, (t26_2 + 1), ()) _ _ (eqc hcont2 hM) (Nat.lt_succ_self _) ⟨rfl, rfl, rfl, rfl, rfl, rfl, rfl, rfl, rfl, trivial⟩ (fun w hm => hm.reord))
    ·
      replace hM := (ite_f hc11).symm.trans hM
      refine cw_exit (hK7 _ _ ?_); clear hK7
      dsimp only [law28_CirculationFollows_k2] at hM
      refine cw_region ?_
      refine ow_ev (ev_add (hr := fun _ => by unfold I64; omega)) ?_
      refine ow_ev ev_move ?_
      refine ow_nil (hL1 (nn1, (t20_1 + 1), ()) _ _ (eqc hcont1 hM) (Nat.lt_succ_self _) ⟨rfl, rfl, rfl, rfl, rfl, trivial⟩ (fun w hm => hm.reord))
  ·
    replace hM := (ite_f hc6).symm.trans hM
    refine cw_exit (hK3 _ _ ?_); clear hK3
    dsimp only [law28_CirculationFollows_k1] at hM
    refine cw_seq fun K18 hK18 => ?_
    refine cw_region ?_
    obtain ⟨y22, hy23, hM⟩ := bind_some hM
    refine ow_cons (st_callv (fun w hm => let ⟨S, hs⟩ := hm; law28_awake_spec _ w  y22 hy23 (lend_lt hs) ) ?_)
    refine ow_ev ev_assign ?_
    refine ow_nil (hK18 _ _ ?_); clear hK18
    obtain rfl := some_inj hM
    refine cw_ret (kw_retc1 (fun w hm => ret_of hm rfl))

end Go.Proofs.Ytedocibniankjaa
