/- Models of functions, and that the code computes them. -/
import Derived.Test.YtedocibniankjaaCc
namespace Go.Proofs.Ytedocibniankjaa
open Go.Dc Go.RowKit
set_option maxRecDepth 10000
set_option linter.unusedVariables false
def law28_CirculationPartition_k3 (cont2 : ((List Int) × Nat) → Option Bool) (t59_2 : Nat) : (List Int) → Option Bool := fun lseen_j3 =>
  cont2 (lseen_j3, t59_2 + 1)
def law28_CirculationPartition_k2 (cont1 : ((List Int) × Nat) → Option Bool) (lseen_2 : List Int) (t53_1 : Nat) : Unit → Option Bool := fun _ =>
  cont1 (lseen_2, t53_1 + 1)
def law28_CirculationPartition_b2 (x19 : List Int) (y1 : (List Task) × Rules) (cont1 : ((List Int) × Nat) → Option Bool) (t53_1 : Nat) (cont2 : ((List Int) × Nat) → Option Bool) : ((List Int) × Nat) → Option Bool := fun (lseen_2, t59_2) =>
  if decide ((t59_2 : Int) < (x19.length : Int)) then
    ((idx x19 (t59_2 : Int)).bind fun x23 =>
    if (decide (x23 < 0) || decide ((y1.1.length : Int) ≤ x23)) then
      (some false)
    else
      ((idx lseen_2 x23).bind fun x26 =>
      chk (i64b (x26 + 1)) <|
      (idx lseen_2 x23).bind fun x29 =>
      if decide (0 < (t59_2 : Int)) then
        (chk (i64b ((t59_2 : Int) - 1)) <|
        (idx x19 ((t59_2 : Int) - 1)).bind fun x33 =>
        (idx y1.1 x33).bind fun x35 =>
        (idx y1.1 x23).bind fun x37 =>
        (ref24_Follows_m y1.2 x35 x37).bind fun y39 =>
        if (!y39.2) then
          (some false)
        else
          (law28_CirculationPartition_k3 cont2 t59_2 (lseen_2.set x23.toNat (x26 + 1))))
      else
        (law28_CirculationPartition_k3 cont2 t59_2 (lseen_2.set x23.toNat (x26 + 1)))))
  else
    (law28_CirculationPartition_k2 cont1 lseen_2 t53_1 ())
def law28_CirculationPartition_k4 : Unit → Option Bool := fun _ =>
  (law28_awake_m).bind fun y47 =>
  some y47
def law28_CirculationPartition_b3 (y1 : (List Task) × Rules) (lseen_1 : List Int) (cont3 : Nat → Option Bool) : Nat → Option Bool := fun t102_3 =>
  if decide ((t102_3 : Int) < (y1.1.length : Int)) then
    ((idx lseen_1 (t102_3 : Int)).bind fun x44 =>
    if decide (x44 ≠ 1) then
      (some false)
    else
      (cont3 (t102_3 + 1)))
  else
    (law28_CirculationPartition_k4 ())
def law28_CirculationPartition_k1 (y1 : (List Task) × Rules) (lseen_1 : List Int) : Unit → Option Bool := fun _ =>
  iter (law28_CirculationPartition_b3 y1 lseen_1) FUEL 0
def law28_CirculationPartition_b1 (y9 : (List (List Int)) × Int) (y1 : (List Task) × Rules) (cont1 : ((List Int) × Nat) → Option Bool) : ((List Int) × Nat) → Option Bool := fun (lseen_1, t53_1) =>
  if decide ((t53_1 : Int) < (y9.1.length : Int)) then
    ((idx y9.1 (t53_1 : Int)).bind fun x19 =>
    iter (law28_CirculationPartition_b2 x19 y1 cont1 t53_1) FUEL (lseen_1, 0))
  else
    (law28_CirculationPartition_k1 y1 lseen_1 ())
def law28_CirculationPartition_m (l0 : List Int) : Option Bool :=
  (keep2_Tasks_m l0).bind fun y1 =>
  (circulation_Build_m y1.1 y1.2).bind fun y5 =>
  (circulation_Chains_m y5.1).bind fun y9 =>
  (whn (!(decide (y5.2.2 ≠ 0) || decide (y9.2 ≠ 0))) default (ref24_Joined_m y5.1)).bind fun y12 =>
  chk (!(!(decide (y5.2.2 ≠ 0) || decide (y9.2 ≠ 0))) || i64b ((y1.1.length : Int) - y12)) <|
  if ((decide (y5.2.2 ≠ 0) || decide (y9.2 ≠ 0)) || decide ((y9.1.length : Int) ≠ ((y1.1.length : Int) - y12))) then
    (some false)
  else
    (iter (law28_CirculationPartition_b1 y9 y1) FUEL ((List.replicate 8 0), 0))
theorem law28_CirculationPartition_spec (S : Soup) (w : World) (l0 : List Int) (r_l0 : GoRep.R (List Int)) (y : Bool) (hM : law28_CirculationPartition_m l0 = some y) (hS : ∀ k, S k → k < w.heap.size) (h_l0 : GoRep.ok S w r_l0 l0) :
    Calls Try.prog 14 #[.slice r_l0.a l0.length r_l0.cap] w (Ret w (.bool y)) := by
  refine calls_cw (args := [_]) Try.func14 rfl ((pre_nil hS).start |>.immP (α := List Int) (r := r_l0) (x := l0) h_l0) rfl ?_
  unfold law28_CirculationPartition_m at hM
  refine cw_seq fun K1 hK1 => ?_
  refine cw_region ?_
  refine ow_ev ev_assign ?_
  refine ow_nil (hK1 _ _ ?_); clear hK1
  refine cw_seq fun K2 hK2 => ?_
  refine cw_region ?_
  refine ow_ev ev_move ?_
  obtain ⟨y1, hy2, hM⟩ := bind_some hM
  refine ow_cons (st_callF SelL.nil (fun S w hs hP => keep2_Tasks_spec _ w l0 r_l0 y1 hy2 (lend_lt hs) (Kn.lend (Kn.imm (α := List Int) (r := r_l0) (x := l0) (by repeat (first | exact Has.head | apply Has.tail))) hs)) (by intro r c hc; simp only [List.mem_cons, List.not_mem_nil, or_false] at hc; rcases hc with rfl | rfl | rfl <;> first | exact flatC_own | exact flatC_trow (fun _ _ _ _ => trivial)) (fun r3 => ?_))
  dsimp only [List.cons_append, List.nil_append]
  refine ow_ev ev_move ?_
  refine ow_ev (ev_extract (vs := [.slice r3.1.a y1.1.length r3.1.cap, .agg #[.int .i64 y1.2.Turn, .slice r3.2.1.a y1.2.Empties.length r3.2.1.cap, .slice r3.2.2.a y1.2.Shops.length r3.2.2.cap, .int .i64 y1.2.Service, .int .i64 y1.2.Limit]])) ?_
  refine ow_ev (ev_extract (vs := [.slice r3.1.a y1.1.length r3.1.cap, .agg #[.int .i64 y1.2.Turn, .slice r3.2.1.a y1.2.Empties.length r3.2.1.cap, .slice r3.2.2.a y1.2.Shops.length r3.2.2.cap, .int .i64 y1.2.Service, .int .i64 y1.2.Limit]])) ?_
  refine ow_cons (st_alloc rfl (k := fun b4 => ?_))
  refine ow_ev ev_assign ?_
  refine ow_cons (st_store_all (b := b4) (vs := [.int .i64 y1.2.Turn, .slice r3.2.1.a y1.2.Empties.length r3.2.1.cap, .slice r3.2.2.a y1.2.Shops.length r3.2.2.cap, .int .i64 y1.2.Service, .int .i64 y1.2.Limit]) (k := ?_))
  refine ow_nil (hK2 _ _ ?_); clear hK2
  refine cw_seq fun K3 hK3 => ?_
  refine cw_region ?_
  refine ow_ev ev_move ?_
  refine ow_ev (ev_load_all (b := b4)) ?_
  obtain ⟨y5, hy6, hM⟩ := bind_some hM
  refine ow_cons (st_callF SelL.nil (fun S w hs hP => circulation_Build_spec _ w y1.1 r3.1 y1.2 r3.2 y5 hy6 (lend_lt hs) (Kn.lend (Kn.trow (e := 60) (r := r3.1) (by repeat (first | exact Has.head | apply Has.tail))) hs) ⟨(Kn.lend (Kn.trow (e := 58) (r := r3.2.1) (by repeat (first | exact Has.head | apply Has.tail))) hs), (Kn.lend (Kn.trow (e := 3) (r := r3.2.2) (by repeat (first | exact Has.head | apply Has.tail))) hs)⟩) (by intro r c hc; simp only [List.mem_cons, List.not_mem_nil, or_false] at hc; rcases hc with rfl | rfl | rfl <;> first | exact flatC_own | exact flatC_trow (fun _ _ _ _ => trivial)) (fun r7 => ?_))
  dsimp only [List.cons_append, List.nil_append]
  refine ow_ev ev_move ?_
  refine ow_ev (ev_extract (vs := [.slice r7.1.a y5.1.length r7.1.cap, .agg #[.slice r7.2.1.a y5.2.1.Left.length r7.2.1.cap, .slice r7.2.2.a y5.2.1.Right.length r7.2.2.cap], .int .i64 y5.2.2])) ?_
  refine ow_ev (ev_extract (vs := [.slice r7.1.a y5.1.length r7.1.cap, .agg #[.slice r7.2.1.a y5.2.1.Left.length r7.2.1.cap, .slice r7.2.2.a y5.2.1.Right.length r7.2.2.cap], .int .i64 y5.2.2])) ?_
  refine ow_ev (ev_extract (vs := [.slice r7.1.a y5.1.length r7.1.cap, .agg #[.slice r7.2.1.a y5.2.1.Left.length r7.2.1.cap, .slice r7.2.2.a y5.2.1.Right.length r7.2.2.cap], .int .i64 y5.2.2])) ?_
  refine ow_cons (st_alloc rfl (k := fun b8 => ?_))
  refine ow_ev ev_assign ?_
  refine ow_cons (st_store_all (b := b8) (vs := [.slice r7.2.1.a y5.2.1.Left.length r7.2.1.cap, .slice r7.2.2.a y5.2.1.Right.length r7.2.2.cap]) (k := ?_))
  refine ow_ev ev_assign ?_
  refine ow_nil (hK3 _ _ ?_); clear hK3
  refine cw_seq fun K4 hK4 => ?_
  refine cw_region ?_
  refine ow_ev ev_move ?_
  refine ow_imp (fun w hm => hm.freeze (r := r7.1) (by repeat (first | exact Upd.head | apply Upd.tail))) ?_
  obtain ⟨y9, hy10, hM⟩ := bind_some hM
  refine ow_cons (st_callS SelL.nil (fun S w hs hP => circulation_Chains_spec _ w y5.1 r7.1 y9 hy10 hs.lt ((Sk.imm (α := List Int) (r := r7.1) (x := y5.1) (by repeat (first | exact Has.head | apply Has.tail))) S w hs))  (fun r11 => ?_))
  dsimp only [List.cons_append, List.nil_append]
  refine ow_ev ev_move ?_
  refine ow_ev (ev_extract (vs := [.slice r11.a y9.1.length r11.cap, .int .i64 y9.2])) ?_
  refine ow_ev (ev_extract (vs := [.slice r11.a y9.1.length r11.cap, .int .i64 y9.2])) ?_
  refine ow_ev ev_assign ?_
  refine ow_ev ev_assign ?_
  refine ow_nil (hK4 _ _ ?_); clear hK4
  refine cw_seq fun K5 hK5 => ?_
  refine cw_seq fun K6 hK6 => ?_
  refine cw_region ?_
  refine ow_ev ev_move ?_
  refine ow_ev ev_neq ?_
  refine ow_ev ev_move ?_
  refine ow_evg rfl ev_move ?_
  refine ow_evg rfl ev_neq ?_
  refine ow_ev ev_or ?_
  refine ow_ev ev_move ?_
  refine ow_evg rfl ev_move ?_
  refine ow_evg rfl ev_len ?_
  refine ow_evg rfl ev_move ?_
  refine ow_evg rfl ev_len ?_
  refine ow_evg rfl ev_move ?_
  obtain ⟨y12, hy13, hM⟩ := bind_some hM
  refine ow_callg rfl (fun hg w hm => let ⟨S, hs⟩ := hm; ref24_Joined_spec _ w y5.1 r7.1 y12 (whn_some hy13 hg) (lend_lt hs) (Kn.lend (Kn.imm (α := List Int) (r := r7.1) (x := y5.1) (by repeat (first | exact Has.head | apply Has.tail))) hs)) ?_
  obtain ⟨hI14, hM⟩ := chk_some hM
  refine ow_evg rfl (ev_sub (hr := fun hg => i64b_I64 (gor hI14 hg))) ?_
  refine ow_evg rfl ev_neq ?_
  refine ow_ev ev_or ?_
  refine ow_nil (hK6 _ _ ?_); clear hK6
  refine cw_cond rfl (fun hc15 => ?_) (fun hc15 => ?_)
  ·
    replace hM := (ite_t hc15).symm.trans hM
    refine cw_seq fun K7 hK7 => ?_
    refine cw_region ?_
    refine ow_ev ev_assign ?_
    refine ow_nil (hK7 _ _ ?_); clear hK7
    obtain rfl := some_inj hM
    refine cw_ret (kw_retc1 (fun w hm => ret_of hm rfl))
  ·
    replace hM := (ite_f hc15).symm.trans hM
    refine cw_skip (hK5 _ _ ?_); clear hK5
    refine cw_seq fun K8 hK8 => ?_
    refine cw_region ?_
    refine ow_cons (st_alloc rfl (k := fun b16 => ?_))
    refine ow_imp (fun w hm => hm.arr (α := Int) (b := b16) (T := 76) (m := 8) (x0 := 0) (rz := ()) rfl (fun _ _ => trivial) (by decide) (by repeat (first | exact Upd.head | apply Upd.tail))) ?_
    refine ow_nil (hK8 _ _ ?_); clear hK8
    refine cw_seq fun K9 hK9 => ?_
    refine cw_seq fun K10 hK10 => ?_
    refine cw_region ?_
    refine ow_ev ev_move ?_
    refine ow_have (fun w hm => Kn.len (Kn.trow (e := 22) (r := r11) (by repeat (first | exact Has.head | apply Has.tail))) hm) fun hl17 => ?_
    refine ow_ev ev_len ?_
    refine ow_ev ev_move ?_
    refine ow_nil (hK10 _ _ ?_); clear hK10
    refine cw_block ?_
    refine cw_loop (γ := Nat × ((List Int) × Nat) × Unit) (env := fun (_, (lseen_1, t53_1), _) => [(3, .v (.slice r3.1.a y1.1.length r3.1.cap)), (4, .v (.pointer (some ⟨b4, 0, none⟩))), (10, .v (.pointer (some ⟨b16, 0, none⟩))), (51, .v (.slice r11.a y9.1.length r11.cap)), (52, .v (.int .i64 (y9.1.length : Int))), (53, .v (.int .i64 (t53_1 : Int)))]) (mem := fun (_, (lseen_1, t53_1), _) => [trow 60 r3.1 y1.1, trow 58 r3.2.1 y1.2.Empties, trow 3 r3.2.2 y1.2.Shops, own b4 53 [.int .i64 y1.2.Turn, .slice r3.2.1.a y1.2.Empties.length r3.2.1.cap, .slice r3.2.2.a y1.2.Shops.length r3.2.2.cap, .int .i64 y1.2.Service, .int .i64 y1.2.Limit], trow 76 (⟨some ⟨b16, 0, none⟩, 8, fun _ => ()⟩ : SR (GoRep.R Int)) lseen_1, trow 22 r11 y9.1]) (R := fun g => iter (law28_CirculationPartition_b1 y9 y1) g.1 g.2.1 = some y) (μ := fun g => g.1) (FUEL, ((List.replicate 8 0), 0), ()) hM ⟨rfl, rfl, rfl, rfl, rfl, rfl, trivial⟩ (fun w hm => hm.reord) ?_
    clear hM
    intro g hM KL1 hL1
    obtain ⟨nn1, ⟨lseen_1, t53_1⟩, ⟨⟩⟩ := g
    dsimp only at hM ⊢
    obtain ⟨nn1, cont1, rfl, hcont1, hM⟩ := iter_open' hM
    dsimp only [law28_CirculationPartition_b1] at hM
    refine cw_seq fun K11 hK11 => ?_
    refine cw_region ?_
    refine ow_ev ev_lss ?_
    refine ow_nil (hK11 _ _ ?_); clear hK11
    refine cw_seq fun K12 hK12 => ?_
    refine cw_cond rfl (fun hc18 => ?_) (fun hc18 => ?_)
    ·
      replace hM := (ite_t hc18).symm.trans hM
      have hc18d := of_decide_eq_true hc18
      refine cw_skip (hK12 _ _ ?_); clear hK12
      refine cw_seq fun K13 hK13 => ?_
      refine cw_block ?_
      refine cw_seq fun K14 hK14 => ?_
      refine cw_region ?_
      obtain ⟨x19, hx20, hM⟩ := bind_some hM
      refine ow_ev (ev_idx (xs := y9.1) 1 (Kn.trow (e := 22) (r := r11) (by repeat (first | exact Has.head | apply Has.tail))) (fun hg => let h := idx_some hx20; ⟨h.1, h.2.1⟩)) ?_
      refine ow_ev (ev_ld (i := (t53_1 : Int)) (xs := y9.1) (y := x19) 0 (Kn.trow (e := 22) (r := r11) (by repeat (first | exact Has.head | apply Has.tail))) (fun _ => hx20)) ?_
      refine ow_ev ev_assign ?_
      refine ow_nil (hK14 _ _ ?_); clear hK14
      refine cw_seq fun K15 hK15 => ?_
      refine cw_region ?_
      refine ow_ev ev_move ?_
      refine ow_have (fun w hm => Kn.len ((Sk.row (e := 22) (r := r11) (by repeat (first | exact Has.head | apply Has.tail)) hx20)).kn hm) fun hl21 => ?_
      refine ow_ev ev_len ?_
      refine ow_ev ev_move ?_
      refine ow_nil (hK15 _ _ ?_); clear hK15
      refine cw_block ?_
      refine cw_loop (γ := Nat × ((List Int) × Nat) × Unit) (env := fun (_, (lseen_2, t59_2), _) => [(3, .v (.slice r3.1.a y1.1.length r3.1.cap)), (4, .v (.pointer (some ⟨b4, 0, none⟩))), (10, .v (.pointer (some ⟨b16, 0, none⟩))), (12, .v (.slice (r11.es (t53_1 : Int).toNat).a x19.length (r11.es (t53_1 : Int).toNat).cap)), (51, .v (.slice r11.a y9.1.length r11.cap)), (52, .v (.int .i64 (y9.1.length : Int))), (53, .v (.int .i64 (t53_1 : Int))), (57, .v (.slice (r11.es (t53_1 : Int).toNat).a x19.length (r11.es (t53_1 : Int).toNat).cap)), (58, .v (.int .i64 (x19.length : Int))), (59, .v (.int .i64 (t59_2 : Int)))]) (mem := fun (_, (lseen_2, t59_2), _) => [trow 60 r3.1 y1.1, trow 58 r3.2.1 y1.2.Empties, trow 3 r3.2.2 y1.2.Shops, own b4 53 [.int .i64 y1.2.Turn, .slice r3.2.1.a y1.2.Empties.length r3.2.1.cap, .slice r3.2.2.a y1.2.Shops.length r3.2.2.cap, .int .i64 y1.2.Service, .int .i64 y1.2.Limit], trow 76 (⟨some ⟨b16, 0, none⟩, 8, fun _ => ()⟩ : SR (GoRep.R Int)) lseen_2, trow 22 r11 y9.1]) (R := fun g => iter (law28_CirculationPartition_b2 x19 y1 cont1 t53_1) g.1 g.2.1 = some y) (μ := fun g => g.1) (FUEL, (lseen_1, 0), ()) hM ⟨rfl, rfl, rfl, rfl, rfl, rfl, rfl, rfl, rfl, rfl, trivial⟩ (fun w hm => hm.reord) ?_
      clear hM
      intro g hM KL2 hL2
      obtain ⟨nn2, ⟨lseen_2, t59_2⟩, ⟨⟩⟩ := g
      dsimp only at hM ⊢
      obtain ⟨nn2, cont2, rfl, hcont2, hM⟩ := iter_open' hM
      dsimp only [law28_CirculationPartition_b2] at hM
      refine cw_seq fun K16 hK16 => ?_
      refine cw_region ?_
      refine ow_ev ev_lss ?_
      refine ow_nil (hK16 _ _ ?_); clear hK16
      refine cw_seq fun K17 hK17 => ?_
      refine cw_cond rfl (fun hc22 => ?_) (fun hc22 => ?_)
      ·
        replace hM := (ite_t hc22).symm.trans hM
        have hc22d := of_decide_eq_true hc22
        refine cw_skip (hK17 _ _ ?_); clear hK17
        refine cw_cut (γ := (List Int) × Unit) (env := fun (lseen_j3, _) => [(3, .v (.slice r3.1.a y1.1.length r3.1.cap)), (4, .v (.pointer (some ⟨b4, 0, none⟩))), (10, .v (.pointer (some ⟨b16, 0, none⟩))), (12, .v (.slice (r11.es (t53_1 : Int).toNat).a x19.length (r11.es (t53_1 : Int).toNat).cap)), (51, .v (.slice r11.a y9.1.length r11.cap)), (52, .v (.int .i64 (y9.1.length : Int))), (53, .v (.int .i64 (t53_1 : Int))), (57, .v (.slice (r11.es (t53_1 : Int).toNat).a x19.length (r11.es (t53_1 : Int).toNat).cap)), (58, .v (.int .i64 (x19.length : Int))), (59, .v (.int .i64 (t59_2 : Int)))]) (mem := fun (lseen_j3, _) => [trow 60 r3.1 y1.1, trow 58 r3.2.1 y1.2.Empties, trow 3 r3.2.2 y1.2.Shops, own b4 53 [.int .i64 y1.2.Turn, .slice r3.2.1.a y1.2.Empties.length r3.2.1.cap, .slice r3.2.2.a y1.2.Shops.length r3.2.2.cap, .int .i64 y1.2.Service, .int .i64 y1.2.Limit], trow 76 (⟨some ⟨b16, 0, none⟩, 8, fun _ => ()⟩ : SR (GoRep.R Int)) lseen_j3, trow 22 r11 y9.1]) (R := fun g => law28_CirculationPartition_k3 cont2 t59_2 g.1 = some y) ?_ ?_
        · intro KJ3 hJ3
          refine cw_block ?_
          refine cw_seq fun K18 hK18 => ?_
          refine cw_region ?_
          refine ow_ev ev_move ?_
          obtain ⟨x23, hx24, hM⟩ := bind_some hM
          refine ow_ev (ev_idx (xs := x19) 1 ((Sk.row (e := 22) (r := r11) (by repeat (first | exact Has.head | apply Has.tail)) hx20)).kn (fun hg => let h := idx_some hx24; ⟨h.1, h.2.1⟩)) ?_
          refine ow_ev (ev_ld (i := (t59_2 : Int)) (xs := x19) (y := x23) 0 ((Sk.row (e := 22) (r := r11) (by repeat (first | exact Has.head | apply Has.tail)) hx20)).kn (fun _ => hx24)) ?_
          refine ow_ev ev_assign ?_
          refine ow_ev ev_assign ?_
          refine ow_nil (hK18 _ _ ?_); clear hK18
          refine cw_seq fun K19 hK19 => ?_
          refine cw_seq fun K20 hK20 => ?_
          refine cw_region ?_
          refine ow_ev ev_move ?_
          refine ow_ev ev_lss ?_
          refine ow_ev ev_move ?_
          refine ow_evg rfl ev_move ?_
          refine ow_evg rfl ev_move ?_
          refine ow_evg rfl ev_len ?_
          refine ow_evg rfl ev_geq ?_
          refine ow_ev ev_or ?_
          refine ow_nil (hK20 _ _ ?_); clear hK20
          refine cw_cond rfl (fun hc25 => ?_) (fun hc25 => ?_)
          ·
            replace hM := (ite_t hc25).symm.trans hM
            refine cw_seq fun K21 hK21 => ?_
            refine cw_region ?_
            refine ow_ev ev_assign ?_
            refine ow_nil (hK21 _ _ ?_); clear hK21
            obtain rfl := some_inj hM
            refine cw_ret (kw_retc1 (fun w hm => ret_of hm rfl))
          ·
            replace hM := (ite_f hc25).symm.trans hM
            refine cw_skip (hK19 _ _ ?_); clear hK19
            refine cw_seq fun K22 hK22 => ?_
            refine cw_region ?_
            refine ow_ev ev_move ?_
            obtain ⟨x26, hx27, hM⟩ := bind_some hM
            refine ow_ev (ev_aidx (r := (⟨some ⟨b16, 0, none⟩, 8, fun _ => ()⟩ : SR (GoRep.R Int))) (xs := lseen_2) 1 (Kn.trow (e := 76) (r := (⟨some ⟨b16, 0, none⟩, 8, fun _ => ()⟩ : SR (GoRep.R Int))) (by repeat (first | exact Has.head | apply Has.tail))) (fun hg => let h := idx_some hx27; ⟨h.1, h.2.1⟩)) ?_
            refine ow_ev (ev_ld (i := x23) (xs := lseen_2) (y := x26) 0 (Kn.trow (e := 76) (r := (⟨some ⟨b16, 0, none⟩, 8, fun _ => ()⟩ : SR (GoRep.R Int))) (by repeat (first | exact Has.head | apply Has.tail))) (fun _ => hx27)) ?_
            obtain ⟨hI28, hM⟩ := chk_some hM
            refine ow_ev (ev_add (hr := fun hg => i64b_I64 hI28)) ?_
            obtain ⟨x29, hx30, hM⟩ := bind_some hM
            refine ow_ev (ev_aidx (r := (⟨some ⟨b16, 0, none⟩, 8, fun _ => ()⟩ : SR (GoRep.R Int))) (xs := lseen_2) 1 (Kn.trow (e := 76) (r := (⟨some ⟨b16, 0, none⟩, 8, fun _ => ()⟩ : SR (GoRep.R Int))) (by repeat (first | exact Has.head | apply Has.tail))) (fun hg => let h := idx_some hx30; ⟨h.1, h.2.1⟩)) ?_
            refine ow_cons (st_set (r := (⟨some ⟨b16, 0, none⟩, 8, fun _ => ()⟩ : SR (GoRep.R Int))) (i := x23) (xs := lseen_2) (u := x29) (vs := [.int .i64 (x26 + 1)]) 0 (x26 + 1) hx30 rfl (fun _ _ h => h) (by repeat (first | exact Upd.head | apply Upd.tail)) ?_)
            refine ow_nil (hK22 _ _ ?_); clear hK22
            refine cw_seq fun K23 hK23 => ?_
            refine cw_region ?_
            refine ow_ev ev_move ?_
            refine ow_ev ev_gtr ?_
            refine ow_nil (hK23 _ _ ?_); clear hK23
            refine cw_cond rfl (fun hc31 => ?_) (fun hc31 => ?_)
            ·
              replace hM := (ite_t hc31).symm.trans hM
              refine cw_seq fun K24 hK24 => ?_
              refine cw_region_any _ (List.Sublist.refl _) ?_
              refine aw_ev 0 rfl (ev_load_all (b := b4)) ?_
              refine aw_ev 1 rfl ev_move ?_
              refine aw_ev 2 rfl ev_move ?_
              refine aw_ev 3 rfl ev_move ?_
              obtain ⟨hI32, hM⟩ := chk_some hM
              refine aw_ev 4 rfl (ev_sub (hr := fun hg => i64b_I64 hI32)) ?_
              obtain ⟨x33, hx34, hM⟩ := bind_some hM
              refine aw_ev 5 rfl (ev_idx (xs := x19) 1 ((Sk.row (e := 22) (r := r11) (by repeat (first | exact Has.head | apply Has.tail)) hx20)).kn (fun hg => let h := idx_some hx34; ⟨h.1, h.2.1⟩)) ?_
              refine aw_ev 6 rfl (ev_ld (i := ((t59_2 : Int) - 1)) (xs := x19) (y := x33) 0 ((Sk.row (e := 22) (r := r11) (by repeat (first | exact Has.head | apply Has.tail)) hx20)).kn (fun _ => hx34)) ?_
              obtain ⟨x35, hx36, hM⟩ := bind_some hM
              refine aw_ev 7 rfl (ev_idx (xs := y1.1) 5 (Kn.trow (e := 60) (r := r3.1) (by repeat (first | exact Has.head | apply Has.tail))) (fun hg => let h := idx_some hx36; ⟨h.1, h.2.1⟩)) ?_
              refine aw_ev 8 rfl (ev_lds (m := 5) (i := x33) (xs := y1.1) (y := x35) (l := [.int .i64 x35.Type_, .int .i64 x35.From, .int .i64 x35.To, .int .i64 x35.Start, .int .i64 x35.End]) 0 (Kn.trow (e := 60) (r := r3.1) (by repeat (first | exact Has.head | apply Has.tail))) (fun _ => hx36)) ?_
              refine aw_ev 9 rfl ev_move ?_
              refine aw_ev 10 rfl ev_move ?_
              obtain ⟨x37, hx38, hM⟩ := bind_some hM
              refine aw_ev 11 rfl (ev_idx (xs := y1.1) 5 (Kn.trow (e := 60) (r := r3.1) (by repeat (first | exact Has.head | apply Has.tail))) (fun hg => let h := idx_some hx38; ⟨h.1, h.2.1⟩)) ?_
              refine aw_ev 12 rfl (ev_lds (m := 5) (i := x23) (xs := y1.1) (y := x37) (l := [.int .i64 x37.Type_, .int .i64 x37.From, .int .i64 x37.To, .int .i64 x37.Start, .int .i64 x37.End]) 0 (Kn.trow (e := 60) (r := r3.1) (by repeat (first | exact Has.head | apply Has.tail))) (fun _ => hx38)) ?_
              obtain ⟨y39, hy40, hM⟩ := bind_some hM
              refine aw_one 13 rfl (st_callv (fun w hm => let ⟨S, hs⟩ := hm; ref24_Follows_spec _ w y1.2 r3.2 x35 x37 y39 hy40 (lend_lt hs) ⟨(Kn.lend (Kn.trow (e := 58) (r := r3.2.1) (by repeat (first | exact Has.head | apply Has.tail))) hs), (Kn.lend (Kn.trow (e := 3) (r := r3.2.2) (by repeat (first | exact Has.head | apply Has.tail))) hs)⟩) ⟨fun w hm => hm.sub (by repeat (first | exact List.Sublist.refl _ | apply List.Sublist.cons_cons | apply List.Sublist.cons)), ?_⟩)
              refine aw_ev 14 rfl ev_move ?_
              refine aw_ev 15 rfl (ev_extract (vs := [.int .i64 y39.1, .bool y39.2])) ?_
              refine aw_ev 16 rfl (ev_extract (vs := [.int .i64 y39.1, .bool y39.2])) ?_
              refine aw_ev 17 rfl ev_assign ?_
              refine aw_ev 18 rfl ev_assign ?_
              refine aw_done (hK24 _ _ ?_); clear hK24
              refine cw_seq fun K25 hK25 => ?_
              refine cw_region ?_
              refine ow_ev ev_move ?_
              refine ow_ev ev_not ?_
              refine ow_nil (hK25 _ _ ?_); clear hK25
              refine cw_cond rfl (fun hc41 => ?_) (fun hc41 => ?_)
              ·
                replace hM := (ite_t hc41).symm.trans hM
                refine cw_seq fun K26 hK26 => ?_
                refine cw_region ?_
                refine ow_ev ev_assign ?_
                refine ow_nil (hK26 _ _ ?_); clear hK26
                obtain rfl := some_inj hM
                refine cw_ret (kw_retc1 (fun w hm => ret_of hm rfl))
              ·
                replace hM := (ite_f hc41).symm.trans hM
                refine cw_skip (hJ3 ((lseen_2.set x23.toNat (x26 + 1)), ()) _ _ hM ⟨rfl, rfl, rfl, rfl, rfl, rfl, rfl, rfl, rfl, rfl, trivial⟩ (fun w hm => hm.reord))
            ·
              replace hM := (ite_f hc31).symm.trans hM
              refine cw_skip (hJ3 ((lseen_2.set x23.toNat (x26 + 1)), ()) _ _ hM ⟨rfl, rfl, rfl, rfl, rfl, rfl, rfl, rfl, rfl, rfl, trivial⟩ (fun w hm => hm.reord))
        ·
          clear hM
          intro g hM
          obtain ⟨lseen_j3, ⟨⟩⟩ := g
          dsimp only at hM ⊢
          dsimp only [law28_CirculationPartition_k3] at hM
          refine cw_region ?_
          refine ow_ev (ev_add (hr := fun _ => by unfold I64; omega)) ?_
          refine ow_ev ev_move ?_
          refine ow_nil (hL2 (nn2, (lseen_j3, t59_2 + 1), ()) _ _ (eqc hcont2 hM) (Nat.lt_succ_self _) ⟨rfl, rfl, rfl, rfl, rfl, rfl, rfl, rfl, rfl, rfl, trivial⟩ (fun w hm => hm.reord))
      ·
        replace hM := (ite_f hc22).symm.trans hM
        refine cw_exit (hK13 _ _ ?_); clear hK13
        dsimp only [law28_CirculationPartition_k2] at hM
        refine cw_region ?_
        refine ow_ev (ev_add (hr := fun _ => by unfold I64; omega)) ?_
        refine ow_ev ev_move ?_
        refine ow_nil (hL1 (nn1, (lseen_2, t53_1 + 1), ()) _ _ (eqc hcont1 hM) (Nat.lt_succ_self _) ⟨rfl, rfl, rfl, rfl, rfl, rfl, trivial⟩ (fun w hm => hm.reord))
    ·
      replace hM := (ite_f hc18).symm.trans hM
      refine cw_exit (hK9 _ _ ?_); clear hK9
      dsimp only [law28_CirculationPartition_k1] at hM
      refine cw_seq fun K27 hK27 => ?_
      refine cw_seq fun K28 hK28 => ?_
      refine cw_region ?_
      refine ow_ev ev_move ?_
      refine ow_have (fun w hm => Kn.len (Kn.trow (e := 60) (r := r3.1) (by repeat (first | exact Has.head | apply Has.tail))) hm) fun hl42 => ?_
      refine ow_ev ev_len ?_
      refine ow_ev ev_move ?_
      refine ow_nil (hK28 _ _ ?_); clear hK28
      refine cw_block ?_
      refine cw_loop (γ := Nat × Nat × Unit) (env := fun (_, t102_3, _) => [(10, .v (.pointer (some ⟨b16, 0, none⟩))), (101, .v (.int .i64 (y1.1.length : Int))), (102, .v (.int .i64 (t102_3 : Int)))]) (mem := fun (_, t102_3, _) => [trow 76 (⟨some ⟨b16, 0, none⟩, 8, fun _ => ()⟩ : SR (GoRep.R Int)) lseen_1]) (R := fun g => iter (law28_CirculationPartition_b3 y1 lseen_1) g.1 g.2.1 = some y) (μ := fun g => g.1) (FUEL, 0, ()) hM ⟨rfl, rfl, rfl, trivial⟩ (fun w hm => hm.reord) ?_
      clear hM
      intro g hM KL3 hL3
      obtain ⟨nn3, t102_3, ⟨⟩⟩ := g
      dsimp only at hM ⊢
      obtain ⟨nn3, cont3, rfl, hcont3, hM⟩ := iter_open' hM
      dsimp only [law28_CirculationPartition_b3] at hM
      refine cw_seq fun K29 hK29 => ?_
      refine cw_region ?_
      refine ow_ev ev_lss ?_
      refine ow_nil (hK29 _ _ ?_); clear hK29
      refine cw_seq fun K30 hK30 => ?_
      refine cw_cond rfl (fun hc43 => ?_) (fun hc43 => ?_)
      ·
        replace hM := (ite_t hc43).symm.trans hM
        have hc43d := of_decide_eq_true hc43
        refine cw_skip (hK30 _ _ ?_); clear hK30
        refine cw_seq fun K31 hK31 => ?_
        refine cw_block ?_
        refine cw_seq fun K32 hK32 => ?_
        refine cw_region ?_
        refine ow_ev ev_move ?_
        refine ow_ev ev_assign ?_
        refine ow_nil (hK32 _ _ ?_); clear hK32
        refine cw_seq fun K33 hK33 => ?_
        refine cw_region ?_
        refine ow_ev ev_move ?_
        obtain ⟨x44, hx45, hM⟩ := bind_some hM
        refine ow_ev (ev_aidx (r := (⟨some ⟨b16, 0, none⟩, 8, fun _ => ()⟩ : SR (GoRep.R Int))) (xs := lseen_1) 1 (Kn.trow (e := 76) (r := (⟨some ⟨b16, 0, none⟩, 8, fun _ => ()⟩ : SR (GoRep.R Int))) (by repeat (first | exact Has.head | apply Has.tail))) (fun hg => let h := idx_some hx45; ⟨h.1, h.2.1⟩)) ?_
        refine ow_ev (ev_ld (i := (t102_3 : Int)) (xs := lseen_1) (y := x44) 0 (Kn.trow (e := 76) (r := (⟨some ⟨b16, 0, none⟩, 8, fun _ => ()⟩ : SR (GoRep.R Int))) (by repeat (first | exact Has.head | apply Has.tail))) (fun _ => hx45)) ?_
        refine ow_ev ev_neq ?_
        refine ow_nil (hK33 _ _ ?_); clear hK33
        refine cw_cond rfl (fun hc46 => ?_) (fun hc46 => ?_)
        ·
          replace hM := (ite_t hc46).symm.trans hM
          refine cw_seq fun K34 hK34 => ?_
          refine cw_region ?_
          refine ow_ev ev_assign ?_
          refine ow_nil (hK34 _ _ ?_); clear hK34
          obtain rfl := some_inj hM
          refine cw_ret (kw_retc1 (fun w hm => ret_of hm rfl))
        ·
          replace hM := (ite_f hc46).symm.trans hM
          refine cw_skip (hK31 _ _ ?_); clear hK31
          refine cw_region ?_
          refine ow_ev (ev_add (hr := fun _ => by unfold I64; omega)) ?_
          refine ow_ev ev_move ?_
          refine ow_nil (hL3 (nn3, (t102_3 + 1), ()) _ _ (eqc hcont3 hM) (Nat.lt_succ_self _) ⟨rfl, rfl, rfl, trivial⟩ (fun w hm => hm.reord))
      ·
        replace hM := (ite_f hc43).symm.trans hM
        refine cw_exit (hK27 _ _ ?_); clear hK27
        dsimp only [law28_CirculationPartition_k4] at hM
        refine cw_seq fun K35 hK35 => ?_
        refine cw_region ?_
        obtain ⟨y47, hy48, hM⟩ := bind_some hM
        refine ow_cons (st_callv (fun w hm => let ⟨S, hs⟩ := hm; law28_awake_spec _ w  y47 hy48 (lend_lt hs) ) ?_)
        refine ow_ev ev_assign ?_
        refine ow_nil (hK35 _ _ ?_); clear hK35
        obtain rfl := some_inj hM
        refine cw_ret (kw_retc1 (fun w hm => ret_of hm rfl))

end Go.Proofs.Ytedocibniankjaa
