/- Models of functions, and that the code computes them. -/
import Derived.Test.YtfbpbmnlbcnanaaDoorWe
namespace Go.Proofs.YtfbpbmnlbcnanaaDoor
open Go.Dc Go.RowKit
set_option maxRecDepth 10000
set_option linter.unusedVariables false
def ref1_Range_k1 : Unit → Option (Int × Int × Bool) := fun _ =>
  some (0, 0, false)
def ref1_Range_b1 (s0 : Str) (cont1 : Nat → Option (Int × Int × Bool)) : Nat → Option (Int × Int × Bool) := fun i_1 =>
  chk (i64b ((i_1 : Int) + 1)) <|
  if decide (((i_1 : Int) + 1) < (s0.l.length : Int)) then
    ((byteAt s0 (i_1 : Int)).bind fun c3 =>
    chk (!(decide (c3 = 46)) || i64b ((i_1 : Int) + 1)) <|
    (whn (decide (c3 = 46)) 0 (byteAt s0 ((i_1 : Int) + 1))).bind fun c6 =>
    if (decide (c3 = 46) && decide (c6 = 46)) then
      ((strSub s0 0 (i_1 : Int)).bind fun q9 =>
      (ref1_Number_m q9).bind fun y11 =>
      chk (i64b ((i_1 : Int) + 2)) <|
      (strSub s0 ((i_1 : Int) + 2) (s0.l.length : Int)).bind fun q14 =>
      (ref1_Number_m q14).bind fun y16 =>
      if (((!y11.2) || (!y16.2)) || decide (y16.1 < y11.1)) then
        (some (0, 0, false))
      else
        (some (y11.1, y16.1, true)))
    else
      (chk (i64b ((i_1 : Int) + 1)) <|
      cont1 (i_1 + 1)))
  else
    (ref1_Range_k1 ())
def ref1_Range_m (s0 : Str) : Option (Int × Int × Bool) :=
  iter (ref1_Range_b1 s0) FUEL 0
theorem ref1_Range_spec (S : Soup) (w : World) (s0 : Str) (y : Int × Int × Bool) (hM : ref1_Range_m s0 = some y) (hS : ∀ k, S k → k < w.heap.size)  :
    Calls Tryd.prog 25 #[.string s0.ba] w (Ret w (.tuple #[.int .i64 y.1, .int .i64 y.2.1, .bool y.2.2])) := by
  refine calls_cw (args := [_]) Tryd.func25 rfl ((pre_nil hS).start) rfl ?_
  unfold ref1_Range_m at hM
  refine cw_seq fun K1 hK1 => ?_
  refine cw_region ?_
  refine ow_ev ev_assign ?_
  refine ow_ev ev_assign ?_
  refine ow_ev ev_assign ?_
  refine ow_nil (hK1 _ _ ?_); clear hK1
  refine cw_seq fun K2 hK2 => ?_
  refine cw_seq fun K3 hK3 => ?_
  refine cw_region ?_
  refine ow_ev ev_assign ?_
  refine ow_nil (hK3 _ _ ?_); clear hK3
  refine cw_block ?_
  refine cw_loop (γ := Nat × Nat × Unit) (env := fun (_, i_1, _) => [(0, .v (.string s0.ba)), (5, .v (.int .i64 (i_1 : Int)))]) (mem := fun (_, i_1, _) => []) (R := fun g => iter (ref1_Range_b1 s0) g.1 g.2.1 = some y) (μ := fun g => g.1) (FUEL, 0, ()) hM ⟨rfl, rfl, trivial⟩ (fun w hm => hm.reord) ?_
  clear hM
  intro g hM KL1 hL1
  obtain ⟨nn1, i_1, ⟨⟩⟩ := g
  dsimp only at hM ⊢
  obtain ⟨nn1, cont1, rfl, hcont1, hM⟩ := iter_open' hM
  dsimp only [ref1_Range_b1] at hM
  refine cw_seq fun K4 hK4 => ?_
  refine cw_seq fun K5 hK5 => ?_
  refine cw_region ?_
  refine ow_ev ev_move ?_
  obtain ⟨hI1, hM⟩ := chk_some hM
  refine ow_ev (ev_add (hr := fun hg => i64b_I64 hI1)) ?_
  refine ow_ev ev_move ?_
  refine ow_ev ev_slen ?_
  refine ow_ev ev_lss ?_
  refine ow_nil (hK5 _ _ ?_); clear hK5
  refine cw_cond rfl (fun hc2 => ?_) (fun hc2 => ?_)
  ·
    replace hM := (ite_t hc2).symm.trans hM
    refine cw_skip (hK4 _ _ ?_); clear hK4
    refine cw_seq fun K6 hK6 => ?_
    refine cw_block ?_
    refine cw_seq fun K7 hK7 => ?_
    refine cw_region ?_
    refine ow_ev ev_move ?_
    refine ow_ev ev_move ?_
    obtain ⟨c3, hc_4, hM⟩ := bind_some hM
    refine ow_ev (ev_sidx (fun _ => hc_4)) ?_
    refine ow_ev ev_eql ?_
    refine ow_ev ev_move ?_
    refine ow_evg rfl ev_move ?_
    refine ow_evg rfl ev_move ?_
    obtain ⟨hI5, hM⟩ := chk_some hM
    refine ow_evg rfl (ev_add (hr := fun hg => i64b_I64 (gor hI5 hg))) ?_
    obtain ⟨c6, hc_7, hM⟩ := bind_some hM
    refine ow_evg rfl (ev_sidx (whn_some hc_7)) ?_
    refine ow_evg rfl ev_eql ?_
    refine ow_ev ev_and ?_
    refine ow_nil (hK7 _ _ ?_); clear hK7
    refine cw_cond rfl (fun hc8 => ?_) (fun hc8 => ?_)
    ·
      replace hM := (ite_t hc8).symm.trans hM
      refine cw_seq fun K8 hK8 => ?_
      refine cw_region ?_
      refine ow_ev ev_move ?_
      refine ow_ev ev_move ?_
      obtain ⟨q9, hq10, hM⟩ := bind_some hM
      refine ow_ev (ev_ssub (ol := none) (oh := some (.i64, (i_1 : Int))) (fun _ => hq10)) ?_
      obtain ⟨y11, hy12, hM⟩ := bind_some hM
      refine ow_cons (st_callv (fun w hm => let ⟨S, hs⟩ := hm; ref1_Number_spec _ w q9 y11 hy12 (lend_lt hs) ) ?_)
      refine ow_ev ev_move ?_
      refine ow_ev (ev_extract (vs := [.int .i64 y11.1, .bool y11.2])) ?_
      refine ow_ev (ev_extract (vs := [.int .i64 y11.1, .bool y11.2])) ?_
      refine ow_ev ev_assign ?_
      refine ow_ev ev_assign ?_
      refine ow_nil (hK8 _ _ ?_); clear hK8
      refine cw_seq fun K9 hK9 => ?_
      refine cw_region ?_
      refine ow_ev ev_move ?_
      refine ow_ev ev_move ?_
      obtain ⟨hI13, hM⟩ := chk_some hM
      refine ow_ev (ev_add (hr := fun hg => i64b_I64 hI13)) ?_
      obtain ⟨q14, hq15, hM⟩ := bind_some hM
      refine ow_ev (ev_ssub (ol := some (.i64, ((i_1 : Int) + 2))) (oh := none) (fun _ => hq15)) ?_
      obtain ⟨y16, hy17, hM⟩ := bind_some hM
      refine ow_cons (st_callv (fun w hm => let ⟨S, hs⟩ := hm; ref1_Number_spec _ w q14 y16 hy17 (lend_lt hs) ) ?_)
      refine ow_ev ev_move ?_
      refine ow_ev (ev_extract (vs := [.int .i64 y16.1, .bool y16.2])) ?_
      refine ow_ev (ev_extract (vs := [.int .i64 y16.1, .bool y16.2])) ?_
      refine ow_ev ev_assign ?_
      refine ow_ev ev_assign ?_
      refine ow_nil (hK9 _ _ ?_); clear hK9
      refine cw_seq fun K10 hK10 => ?_
      refine cw_seq fun K11 hK11 => ?_
      refine cw_region ?_
      refine ow_ev ev_move ?_
      refine ow_ev ev_not ?_
      refine ow_ev ev_move ?_
      refine ow_evg rfl ev_move ?_
      refine ow_evg rfl ev_not ?_
      refine ow_ev ev_or ?_
      refine ow_ev ev_move ?_
      refine ow_evg rfl ev_move ?_
      refine ow_evg rfl ev_move ?_
      refine ow_evg rfl ev_gtr ?_
      refine ow_ev ev_or ?_
      refine ow_nil (hK11 _ _ ?_); clear hK11
      refine cw_cond rfl (fun hc18 => ?_) (fun hc18 => ?_)
      ·
        replace hM := (ite_t hc18).symm.trans hM
        refine cw_seq fun K12 hK12 => ?_
        refine cw_region ?_
        refine ow_ev ev_assign ?_
        refine ow_ev ev_assign ?_
        refine ow_ev ev_assign ?_
        refine ow_nil (hK12 _ _ ?_); clear hK12
        obtain rfl := some_inj hM
        refine cw_ret (kw_retc3 (fun w hm => ret_of hm rfl))
      ·
        replace hM := (ite_f hc18).symm.trans hM
        refine cw_skip (hK10 _ _ ?_); clear hK10
        refine cw_seq fun K13 hK13 => ?_
        refine cw_region ?_
        refine ow_ev ev_move ?_
        refine ow_ev ev_move ?_
        refine ow_ev ev_assign ?_
        refine ow_ev ev_assign ?_
        refine ow_ev ev_assign ?_
        refine ow_nil (hK13 _ _ ?_); clear hK13
        obtain rfl := some_inj hM
        refine cw_ret (kw_retc3 (fun w hm => ret_of hm rfl))
    ·
      replace hM := (ite_f hc8).symm.trans hM
      refine cw_skip (hK6 _ _ ?_); clear hK6
      refine cw_region ?_
      refine ow_ev ev_move ?_
      obtain ⟨hI19, hM⟩ := chk_some hM
      refine ow_ev (ev_add (hr := fun hg => i64b_I64 hI19)) ?_
      refine ow_ev ev_assign ?_
      refine ow_nil (hL1 (nn1, (i_1 + 1), ()) _ _ (eqc hcont1 hM) (Nat.lt_succ_self _) ⟨rfl, rfl, trivial⟩ (fun w hm => hm.reord))
  ·
    replace hM := (ite_f hc2).symm.trans hM
    refine cw_exit (hK2 _ _ ?_); clear hK2
    dsimp only [ref1_Range_k1] at hM
    refine cw_seq fun K14 hK14 => ?_
    refine cw_region ?_
    refine ow_ev ev_assign ?_
    refine ow_ev ev_assign ?_
    refine ow_ev ev_assign ?_
    refine ow_nil (hK14 _ _ ?_); clear hK14
    obtain rfl := some_inj hM
    refine cw_ret (kw_retc3 (fun w hm => ret_of hm rfl))

end Go.Proofs.YtfbpbmnlbcnanaaDoor
