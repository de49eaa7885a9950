/- Models of functions, and that the code computes them. -/
import Derived.Test.YtfbpbmnlbcnanaaDoorTypes
namespace Go.Proofs.YtfbpbmnlbcnanaaDoor
open Go.Dc Go.RowKit
set_option maxRecDepth 10000
set_option linter.unusedVariables false
def ref1_digit_m (c0 : Int) : Option Bool :=
  some (decide (48 ≤ c0) && decide (c0 ≤ 57))
theorem ref1_digit_spec (S : Soup) (w : World) (c0 : Int) (y : Bool) (hM : ref1_digit_m c0 = some y) (hS : ∀ k, S k → k < w.heap.size)  :
    Calls Tryd.prog 35 #[.int .u8 c0] w (Ret w (.bool y)) := by
  refine calls_cw (args := [_]) Tryd.func35 rfl ((pre_nil hS).start) rfl ?_
  unfold ref1_digit_m at hM
  refine cw_seq fun K1 hK1 => ?_
  refine cw_region ?_
  refine ow_ev ev_assign ?_
  refine ow_nil (hK1 _ _ ?_); clear hK1
  refine cw_seq fun K2 hK2 => ?_
  refine cw_region ?_
  refine ow_ev ev_move ?_
  refine ow_ev ev_geq ?_
  refine ow_ev ev_move ?_
  refine ow_evg rfl ev_move ?_
  refine ow_evg rfl ev_leq ?_
  refine ow_ev ev_and ?_
  refine ow_ev ev_assign ?_
  refine ow_nil (hK2 _ _ ?_); clear hK2
  obtain rfl := some_inj hM
  refine cw_ret (kw_retc1 (fun w hm => ret_of hm rfl))

def ref1_Number_k2 (n_1 : Int) (sign_j1 : Int) : Unit → Option (Int × Bool) := fun _ =>
  if decide (1099511627776 < n_1) then
    (some (0, false))
  else
    (chk (i64b (sign_j1 * n_1)) <|
    some ((sign_j1 * n_1), true))
def ref1_Number_b1 (t_j1 : Str) (sign_j1 : Int) (cont1 : (Int × Nat) → Option (Int × Bool)) : (Int × Nat) → Option (Int × Bool) := fun (n_1, i_1) =>
  if decide ((i_1 : Int) < (t_j1.l.length : Int)) then
    ((byteAt t_j1 (i_1 : Int)).bind fun c5 =>
    (ref1_digit_m c5).bind fun y7 =>
    if (!y7) then
      (some (0, false))
    else
      (chk (i64b (10 * n_1)) <|
      (byteAt t_j1 (i_1 : Int)).bind fun c11 =>
      chk (i64b ((10 * n_1) + (IntKind.i64.wrap (IntKind.u8.wrap (c11 - 48))))) <|
      chk (i64b ((i_1 : Int) + 1)) <|
      cont1 (((10 * n_1) + (IntKind.i64.wrap (IntKind.u8.wrap (c11 - 48)))), i_1 + 1)))
  else
    (ref1_Number_k2 n_1 sign_j1 ())
def ref1_Number_k1 : (Str × Int) → Option (Int × Bool) := fun (t_j1, sign_j1) =>
  (whn (!(decide ((t_j1.l.length : Int) < 1) || decide (13 < (t_j1.l.length : Int)))) 0 (byteAt t_j1 0)).bind fun c1 =>
  if ((decide ((t_j1.l.length : Int) < 1) || decide (13 < (t_j1.l.length : Int))) || (decide (c1 = 48) && (decide (1 < (t_j1.l.length : Int)) || decide (sign_j1 < 0)))) then
    (some (0, false))
  else
    (iter (ref1_Number_b1 t_j1 sign_j1) FUEL (0, 0))
def ref1_Number_m (s0 : Str) : Option (Int × Bool) :=
  (whn (decide (0 < (s0.l.length : Int))) 0 (byteAt s0 0)).bind fun c17 =>
  if (decide (0 < (s0.l.length : Int)) && decide (c17 = 45)) then
    ((strSub s0 1 (s0.l.length : Int)).bind fun q20 =>
    ref1_Number_k1 (q20, (-1)))
  else
    (ref1_Number_k1 (s0, 1))
theorem ref1_Number_spec (S : Soup) (w : World) (s0 : Str) (y : Int × Bool) (hM : ref1_Number_m s0 = some y) (hS : ∀ k, S k → k < w.heap.size)  :
    Calls Tryd.prog 24 #[.string s0.ba] w (Ret w (.tuple #[.int .i64 y.1, .bool y.2])) := by
  refine calls_cw (args := [_]) Tryd.func24 rfl ((pre_nil hS).start) rfl ?_
  unfold ref1_Number_m at hM
  refine cw_seq fun K1 hK1 => ?_
  refine cw_region ?_
  refine ow_ev ev_assign ?_
  refine ow_ev ev_assign ?_
  refine ow_nil (hK1 _ _ ?_); clear hK1
  refine cw_seq fun K2 hK2 => ?_
  refine cw_region ?_
  refine ow_ev ev_move ?_
  refine ow_ev ev_assign ?_
  refine ow_ev ev_assign ?_
  refine ow_nil (hK2 _ _ ?_); clear hK2
  refine cw_cut (γ := (Str × Int) × Unit) (env := fun ((t_j1, sign_j1), _) => [(4, .v (.string t_j1.ba)), (5, .v (.int .i64 sign_j1))]) (mem := fun ((t_j1, sign_j1), _) => []) (R := fun g => ref1_Number_k1 g.1 = some y) ?_ ?_
  · intro KJ1 hJ1
    refine cw_seq fun K19 hK19 => ?_
    refine cw_region ?_
    refine ow_ev ev_move ?_
    refine ow_ev ev_slen ?_
    refine ow_ev ev_gtr ?_
    refine ow_ev ev_move ?_
    refine ow_evg rfl ev_move ?_
    obtain ⟨c17, hc_18, hM⟩ := bind_some hM
    refine ow_evg rfl (ev_sidx (whn_some hc_18)) ?_
    refine ow_evg rfl ev_eql ?_
    refine ow_ev ev_and ?_
    refine ow_nil (hK19 _ _ ?_); clear hK19
    refine cw_cond rfl (fun hc19 => ?_) (fun hc19 => ?_)
    ·
      replace hM := (ite_t hc19).symm.trans hM
      refine cw_region ?_
      refine ow_ev ev_move ?_
      obtain ⟨q20, hq21, hM⟩ := bind_some hM
      refine ow_ev (ev_ssub (ol := some (.i64, 1)) (oh := none) (fun _ => hq21)) ?_
      refine ow_ev ev_assign ?_
      refine ow_ev ev_assign ?_
      refine ow_nil (hJ1 ((q20, (-1)), ()) _ _ hM ⟨rfl, rfl, trivial⟩ (fun w hm => hm.reord))
    ·
      replace hM := (ite_f hc19).symm.trans hM
      refine cw_skip (hJ1 ((s0, 1), ()) _ _ hM ⟨rfl, rfl, trivial⟩ (fun w hm => hm.reord))
  ·
    clear hM
    intro g hM
    obtain ⟨⟨t_j1, sign_j1⟩, ⟨⟩⟩ := g
    dsimp only at hM ⊢
    dsimp only [ref1_Number_k1] at hM
    refine cw_seq fun K3 hK3 => ?_
    refine cw_seq fun K4 hK4 => ?_
    refine cw_region ?_
    refine ow_ev ev_move ?_
    refine ow_ev ev_slen ?_
    refine ow_ev ev_lss ?_
    refine ow_ev ev_move ?_
    refine ow_evg rfl ev_move ?_
    refine ow_evg rfl ev_slen ?_
    refine ow_evg rfl ev_gtr ?_
    refine ow_ev ev_or ?_
    refine ow_ev ev_move ?_
    refine ow_evg rfl ev_move ?_
    obtain ⟨c1, hc_2, hM⟩ := bind_some hM
    refine ow_evg rfl (ev_sidx (whn_some hc_2)) ?_
    refine ow_evg rfl ev_eql ?_
    refine ow_evg rfl ev_move ?_
    refine ow_evg rfl ev_move ?_
    refine ow_evg rfl ev_slen ?_
    refine ow_evg rfl ev_gtr ?_
    refine ow_evg rfl ev_move ?_
    refine ow_evg rfl ev_move ?_
    refine ow_evg rfl ev_lss ?_
    refine ow_evg rfl ev_or ?_
    refine ow_evg rfl ev_and ?_
    refine ow_ev ev_or ?_
    refine ow_nil (hK4 _ _ ?_); clear hK4
    refine cw_cond rfl (fun hc3 => ?_) (fun hc3 => ?_)
    ·
      replace hM := (ite_t hc3).symm.trans hM
      refine cw_seq fun K5 hK5 => ?_
      refine cw_region ?_
      refine ow_ev ev_assign ?_
      refine ow_ev ev_assign ?_
      refine ow_nil (hK5 _ _ ?_); clear hK5
      obtain rfl := some_inj hM
      refine cw_ret (kw_retc2 (fun w hm => ret_of hm rfl))
    ·
      replace hM := (ite_f hc3).symm.trans hM
      refine cw_skip (hK3 _ _ ?_); clear hK3
      refine cw_seq fun K6 hK6 => ?_
      refine cw_region ?_
      refine ow_ev ev_assign ?_
      refine ow_nil (hK6 _ _ ?_); clear hK6
      refine cw_seq fun K7 hK7 => ?_
      refine cw_seq fun K8 hK8 => ?_
      refine cw_region ?_
      refine ow_ev ev_assign ?_
      refine ow_nil (hK8 _ _ ?_); clear hK8
      refine cw_block ?_
      refine cw_loop (γ := Nat × (Int × Nat) × Unit) (env := fun (_, (n_1, i_1), _) => [(4, .v (.string t_j1.ba)), (5, .v (.int .i64 sign_j1)), (6, .v (.int .i64 n_1)), (7, .v (.int .i64 (i_1 : Int)))]) (mem := fun (_, (n_1, i_1), _) => []) (R := fun g => iter (ref1_Number_b1 t_j1 sign_j1) g.1 g.2.1 = some y) (μ := fun g => g.1) (FUEL, (0, 0), ()) hM ⟨rfl, rfl, rfl, rfl, trivial⟩ (fun w hm => hm.reord) ?_
      clear hM
      intro g hM KL1 hL1
      obtain ⟨nn1, ⟨n_1, i_1⟩, ⟨⟩⟩ := g
      dsimp only at hM ⊢
      obtain ⟨nn1, cont1, rfl, hcont1, hM⟩ := iter_open' hM
      dsimp only [ref1_Number_b1] at hM
      refine cw_seq fun K9 hK9 => ?_
      refine cw_seq fun K10 hK10 => ?_
      refine cw_region ?_
      refine ow_ev ev_move ?_
      refine ow_ev ev_move ?_
      refine ow_ev ev_slen ?_
      refine ow_ev ev_lss ?_
      refine ow_nil (hK10 _ _ ?_); clear hK10
      refine cw_cond rfl (fun hc4 => ?_) (fun hc4 => ?_)
      ·
        replace hM := (ite_t hc4).symm.trans hM
        refine cw_skip (hK9 _ _ ?_); clear hK9
        refine cw_seq fun K11 hK11 => ?_
        refine cw_block ?_
        refine cw_seq fun K12 hK12 => ?_
        refine cw_seq fun K13 hK13 => ?_
        refine cw_region ?_
        refine ow_ev ev_move ?_
        refine ow_ev ev_move ?_
        obtain ⟨c5, hc_6, hM⟩ := bind_some hM
        refine ow_ev (ev_sidx (fun _ => hc_6)) ?_
        obtain ⟨y7, hy8, hM⟩ := bind_some hM
        refine ow_cons (st_callv (fun w hm => let ⟨S, hs⟩ := hm; ref1_digit_spec _ w c5 y7 hy8 (lend_lt hs) ) ?_)
        refine ow_ev ev_not ?_
        refine ow_nil (hK13 _ _ ?_); clear hK13
        refine cw_cond rfl (fun hc9 => ?_) (fun hc9 => ?_)
        ·
          replace hM := (ite_t hc9).symm.trans hM
          refine cw_seq fun K14 hK14 => ?_
          refine cw_region ?_
          refine ow_ev ev_assign ?_
          refine ow_ev ev_assign ?_
          refine ow_nil (hK14 _ _ ?_); clear hK14
          obtain rfl := some_inj hM
          refine cw_ret (kw_retc2 (fun w hm => ret_of hm rfl))
        ·
          replace hM := (ite_f hc9).symm.trans hM
          refine cw_skip (hK12 _ _ ?_); clear hK12
          refine cw_region ?_
          refine ow_ev ev_move ?_
          obtain ⟨hI10, hM⟩ := chk_some hM
          refine ow_ev (ev_mul (hr := fun hg => i64b_I64 hI10)) ?_
          refine ow_ev ev_move ?_
          refine ow_ev ev_move ?_
          obtain ⟨c11, hc_12, hM⟩ := bind_some hM
          refine ow_ev (ev_sidx (fun _ => hc_12)) ?_
          refine ow_ev ev_subw ?_
          refine ow_ev (ev_convert_int .i64) ?_
          obtain ⟨hI13, hM⟩ := chk_some hM
          refine ow_ev (ev_add (hr := fun hg => i64b_I64 hI13)) ?_
          refine ow_ev ev_assign ?_
          refine ow_nil (hK11 _ _ ?_); clear hK11
          refine cw_region ?_
          refine ow_ev ev_move ?_
          obtain ⟨hI14, hM⟩ := chk_some hM
          refine ow_ev (ev_add (hr := fun hg => i64b_I64 hI14)) ?_
          refine ow_ev ev_assign ?_
          refine ow_nil (hL1 (nn1, (((10 * n_1) + (IntKind.i64.wrap (IntKind.u8.wrap (c11 - 48)))), i_1 + 1), ()) _ _ (eqc hcont1 hM) (Nat.lt_succ_self _) ⟨rfl, rfl, rfl, rfl, trivial⟩ (fun w hm => hm.reord))
      ·
        replace hM := (ite_f hc4).symm.trans hM
        refine cw_exit (hK7 _ _ ?_); clear hK7
        dsimp only [ref1_Number_k2] at hM
        refine cw_seq fun K15 hK15 => ?_
        refine cw_seq fun K16 hK16 => ?_
        refine cw_region ?_
        refine ow_ev ev_move ?_
        refine ow_ev ev_gtr ?_
        refine ow_nil (hK16 _ _ ?_); clear hK16
        refine cw_cond rfl (fun hc15 => ?_) (fun hc15 => ?_)
        ·
          replace hM := (ite_t hc15).symm.trans hM
          refine cw_seq fun K17 hK17 => ?_
          refine cw_region ?_
          refine ow_ev ev_assign ?_
          refine ow_ev ev_assign ?_
          refine ow_nil (hK17 _ _ ?_); clear hK17
          obtain rfl := some_inj hM
          refine cw_ret (kw_retc2 (fun w hm => ret_of hm rfl))
        ·
          replace hM := (ite_f hc15).symm.trans hM
          refine cw_skip (hK15 _ _ ?_); clear hK15
          refine cw_seq fun K18 hK18 => ?_
          refine cw_region ?_
          refine ow_ev ev_move ?_
          refine ow_ev ev_move ?_
          obtain ⟨hI16, hM⟩ := chk_some hM
          refine ow_ev (ev_mul (hr := fun hg => i64b_I64 hI16)) ?_
          refine ow_ev ev_assign ?_
          refine ow_ev ev_assign ?_
          refine ow_nil (hK18 _ _ ?_); clear hK18
          obtain rfl := some_inj hM
          refine cw_ret (kw_retc2 (fun w hm => ret_of hm rfl))

end Go.Proofs.YtfbpbmnlbcnanaaDoor
