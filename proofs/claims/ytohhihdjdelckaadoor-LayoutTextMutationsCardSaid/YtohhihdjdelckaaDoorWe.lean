/- Models of functions, and that the code computes them. -/
import Derived.Test.YtohhihdjdelckaaDoorTypes
namespace Go.Proofs.YtohhihdjdelckaaDoor
open Go.Dc Go.RowKit
set_option maxRecDepth 10000
set_option linter.unusedVariables false
def ref1_letter_m (c0 : Int) : Option Bool :=
  some ((decide (97 ≤ c0) && decide (c0 ≤ 122)) || (decide (65 ≤ c0) && decide (c0 ≤ 90)))
theorem ref1_letter_spec (S : Soup) (w : World) (c0 : Int) (y : Bool) (hM : ref1_letter_m c0 = some y) (hS : ∀ k, S k → k < w.heap.size)  :
    Calls Tryd.prog 96 #[.int .u8 c0] w (Ret w (.bool y)) := by
  refine calls_cw (args := [_]) Tryd.func96 rfl ((pre_nil hS).start) rfl ?_
  unfold ref1_letter_m at hM
  refine cw_seq fun K1 hK1 => ?_
  refine cw_region ?_
  refine ow_ev ev_assign ?_
  refine ow_nil (hK1 _ _ ?_); clear hK1
  refine cw_seq fun K2 hK2 => ?_
  refine cw_region ?_
  refine ow_ev ev_move ?_
  refine ow_ev ev_geq ?_
  refine ow_ev ev_move ?_
  refine ow_evg rfl ev_move ?_
  refine ow_evg rfl ev_leq ?_
  refine ow_ev ev_and ?_
  refine ow_ev ev_move ?_
  refine ow_evg rfl ev_move ?_
  refine ow_evg rfl ev_geq ?_
  refine ow_evg rfl ev_move ?_
  refine ow_evg rfl ev_move ?_
  refine ow_evg rfl ev_leq ?_
  refine ow_evg rfl ev_and ?_
  refine ow_ev ev_or ?_
  refine ow_ev ev_assign ?_
  refine ow_nil (hK2 _ _ ?_); clear hK2
  obtain rfl := some_inj hM
  refine cw_ret (kw_retc1 (fun w hm => ret_of hm rfl))

def ref1_digit_m (c0 : Int) : Option Bool :=
  some (decide (48 ≤ c0) && decide (c0 ≤ 57))
theorem ref1_digit_spec (S : Soup) (w : World) (c0 : Int) (y : Bool) (hM : ref1_digit_m c0 = some y) (hS : ∀ k, S k → k < w.heap.size)  :
    Calls Tryd.prog 97 #[.int .u8 c0] w (Ret w (.bool y)) := by
  refine calls_cw (args := [_]) Tryd.func97 rfl ((pre_nil hS).start) rfl ?_
  unfold ref1_digit_m at hM
  refine cw_seq fun K1 hK1 => ?_
  refine cw_region ?_
  refine ow_ev ev_assign ?_
  refine ow_nil (hK1 _ _ ?_); clear hK1
  refine cw_seq fun K2 hK2 => ?_
  refine cw_region ?_
  refine ow_ev ev_move ?_
  refine ow_ev ev_geq ?_
  refine ow_ev ev_move ?_
  refine ow_evg rfl ev_move ?_
  refine ow_evg rfl ev_leq ?_
  refine ow_ev ev_and ?_
  refine ow_ev ev_assign ?_
  refine ow_nil (hK2 _ _ ?_); clear hK2
  obtain rfl := some_inj hM
  refine cw_ret (kw_retc1 (fun w hm => ret_of hm rfl))

def ref1_Name_k1 : Unit → Option Bool := fun _ =>
  some true
def ref1_Name_b1 (s0 : Str) (cont1 : Nat → Option Bool) : Nat → Option Bool := fun i_1 =>
  if decide ((i_1 : Int) < (s0.l.length : Int)) then
    ((byteAt s0 (i_1 : Int)).bind fun c7 =>
    (ref1_letter_m c7).bind fun y9 =>
    (whn (!y9) 0 (byteAt s0 (i_1 : Int))).bind fun c11 =>
    (whn (!y9) default (ref1_digit_m c11)).bind fun y13 =>
    (whn ((!y9) && (!y13)) 0 (byteAt s0 (i_1 : Int))).bind fun c15 =>
    if (((!y9) && (!y13)) && decide (c15 ≠ 95)) then
      (some false)
    else
      (chk (i64b ((i_1 : Int) + 1)) <|
      cont1 (i_1 + 1)))
  else
    (ref1_Name_k1 ())
def ref1_Name_m (s0 : Str) : Option Bool :=
  (whn (!(decide ((s0.l.length : Int) < 1) || decide (12 < (s0.l.length : Int)))) 0 (byteAt s0 0)).bind fun c1 =>
  (whn (!(decide ((s0.l.length : Int) < 1) || decide (12 < (s0.l.length : Int)))) default (ref1_letter_m c1)).bind fun y3 =>
  if ((decide ((s0.l.length : Int) < 1) || decide (12 < (s0.l.length : Int))) || (!y3)) then
    (some false)
  else
    (iter (ref1_Name_b1 s0) FUEL 1)
theorem ref1_Name_spec (S : Soup) (w : World) (s0 : Str) (y : Bool) (hM : ref1_Name_m s0 = some y) (hS : ∀ k, S k → k < w.heap.size)  :
    Calls Tryd.prog 77 #[.string s0.ba] w (Ret w (.bool y)) := by
  refine calls_cw (args := [_]) Tryd.func77 rfl ((pre_nil hS).start) rfl ?_
  unfold ref1_Name_m at hM
  refine cw_seq fun K1 hK1 => ?_
  refine cw_region ?_
  refine ow_ev ev_assign ?_
  refine ow_nil (hK1 _ _ ?_); clear hK1
  refine cw_seq fun K2 hK2 => ?_
  refine cw_seq fun K3 hK3 => ?_
  refine cw_region ?_
  refine ow_ev ev_move ?_
  refine ow_ev ev_slen ?_
  refine ow_ev ev_lss ?_
  refine ow_ev ev_move ?_
  refine ow_evg rfl ev_move ?_
  refine ow_evg rfl ev_slen ?_
  refine ow_evg rfl ev_gtr ?_
  refine ow_ev ev_or ?_
  refine ow_ev ev_move ?_
  refine ow_evg rfl ev_move ?_
  obtain ⟨c1, hc_2, hM⟩ := bind_some hM
  refine ow_evg rfl (ev_sidx (whn_some hc_2)) ?_
  obtain ⟨y3, hy4, hM⟩ := bind_some hM
  refine ow_callg rfl (fun hg w hm => let ⟨S, hs⟩ := hm; ref1_letter_spec _ w c1 y3 (whn_some hy4 hg) (lend_lt hs) ) ?_
  refine ow_evg rfl ev_not ?_
  refine ow_ev ev_or ?_
  refine ow_nil (hK3 _ _ ?_); clear hK3
  refine cw_cond rfl (fun hc5 => ?_) (fun hc5 => ?_)
  ·
    replace hM := (ite_t hc5).symm.trans hM
    refine cw_seq fun K4 hK4 => ?_
    refine cw_region ?_
    refine ow_ev ev_assign ?_
    refine ow_nil (hK4 _ _ ?_); clear hK4
    obtain rfl := some_inj hM
    refine cw_ret (kw_retc1 (fun w hm => ret_of hm rfl))
  ·
    replace hM := (ite_f hc5).symm.trans hM
    refine cw_skip (hK2 _ _ ?_); clear hK2
    refine cw_seq fun K5 hK5 => ?_
    refine cw_seq fun K6 hK6 => ?_
    refine cw_region ?_
    refine ow_ev ev_assign ?_
    refine ow_nil (hK6 _ _ ?_); clear hK6
    refine cw_block ?_
    refine cw_loop (γ := Nat × Nat × Unit) (env := fun (_, i_1, _) => [(0, .v (.string s0.ba)), (3, .v (.int .i64 (i_1 : Int)))]) (mem := fun (_, i_1, _) => []) (R := fun g => iter (ref1_Name_b1 s0) g.1 g.2.1 = some y) (μ := fun g => g.1) (FUEL, 1, ()) hM ⟨rfl, rfl, trivial⟩ (fun w hm => hm.reord) ?_
    clear hM
    intro g hM KL1 hL1
    obtain ⟨nn1, i_1, ⟨⟩⟩ := g
    dsimp only at hM ⊢
    obtain ⟨nn1, cont1, rfl, hcont1, hM⟩ := iter_open' hM
    dsimp only [ref1_Name_b1] at hM
    refine cw_seq fun K7 hK7 => ?_
    refine cw_seq fun K8 hK8 => ?_
    refine cw_region ?_
    refine ow_ev ev_move ?_
    refine ow_ev ev_move ?_
    refine ow_ev ev_slen ?_
    refine ow_ev ev_lss ?_
    refine ow_nil (hK8 _ _ ?_); clear hK8
    refine cw_cond rfl (fun hc6 => ?_) (fun hc6 => ?_)
    ·
      replace hM := (ite_t hc6).symm.trans hM
      refine cw_skip (hK7 _ _ ?_); clear hK7
      refine cw_seq fun K9 hK9 => ?_
      refine cw_block ?_
      refine cw_seq fun K10 hK10 => ?_
      refine cw_region ?_
      refine ow_ev ev_move ?_
      refine ow_ev ev_move ?_
      obtain ⟨c7, hc_8, hM⟩ := bind_some hM
      refine ow_ev (ev_sidx (fun _ => hc_8)) ?_
      obtain ⟨y9, hy10, hM⟩ := bind_some hM
      refine ow_cons (st_callv (fun w hm => let ⟨S, hs⟩ := hm; ref1_letter_spec _ w c7 y9 hy10 (lend_lt hs) ) ?_)
      refine ow_ev ev_not ?_
      refine ow_ev ev_move ?_
      refine ow_evg rfl ev_move ?_
      refine ow_evg rfl ev_move ?_
      obtain ⟨c11, hc_12, hM⟩ := bind_some hM
      refine ow_evg rfl (ev_sidx (whn_some hc_12)) ?_
      obtain ⟨y13, hy14, hM⟩ := bind_some hM
      refine ow_callg rfl (fun hg w hm => let ⟨S, hs⟩ := hm; ref1_digit_spec _ w c11 y13 (whn_some hy14 hg) (lend_lt hs) ) ?_
      refine ow_evg rfl ev_not ?_
      refine ow_ev ev_and ?_
      refine ow_ev ev_move ?_
      refine ow_evg rfl ev_move ?_
      refine ow_evg rfl ev_move ?_
      obtain ⟨c15, hc_16, hM⟩ := bind_some hM
      refine ow_evg rfl (ev_sidx (whn_some hc_16)) ?_
      refine ow_evg rfl ev_neq ?_
      refine ow_ev ev_and ?_
      refine ow_nil (hK10 _ _ ?_); clear hK10
      refine cw_cond rfl (fun hc17 => ?_) (fun hc17 => ?_)
      ·
        replace hM := (ite_t hc17).symm.trans hM
        refine cw_seq fun K11 hK11 => ?_
        refine cw_region ?_
        refine ow_ev ev_assign ?_
        refine ow_nil (hK11 _ _ ?_); clear hK11
        obtain rfl := some_inj hM
        refine cw_ret (kw_retc1 (fun w hm => ret_of hm rfl))
      ·
        replace hM := (ite_f hc17).symm.trans hM
        refine cw_skip (hK9 _ _ ?_); clear hK9
        refine cw_region ?_
        refine ow_ev ev_move ?_
        obtain ⟨hI18, hM⟩ := chk_some hM
        refine ow_ev (ev_add (hr := fun hg => i64b_I64 hI18)) ?_
        refine ow_ev ev_assign ?_
        refine ow_nil (hL1 (nn1, (i_1 + 1), ()) _ _ (eqc hcont1 hM) (Nat.lt_succ_self _) ⟨rfl, rfl, trivial⟩ (fun w hm => hm.reord))
    ·
      replace hM := (ite_f hc6).symm.trans hM
      refine cw_exit (hK5 _ _ ?_); clear hK5
      dsimp only [ref1_Name_k1] at hM
      refine cw_seq fun K12 hK12 => ?_
      refine cw_region ?_
      refine ow_ev ev_assign ?_
      refine ow_nil (hK12 _ _ ?_); clear hK12
      obtain rfl := some_inj hM
      refine cw_ret (kw_retc1 (fun w hm => ret_of hm rfl))

def ref1_Number_k2 (n_1 : Int) (sign_j1 : Int) : Unit → Option (Int × Bool) := fun _ =>
  if decide (1099511627776 < n_1) then
    (some (0, false))
  else
    (chk (i64b (sign_j1 * n_1)) <|
    some ((sign_j1 * n_1), true))
def ref1_Number_b1 (t_j1 : Str) (sign_j1 : Int) (cont1 : (Int × Nat) → Option (Int × Bool)) : (Int × Nat) → Option (Int × Bool) := fun (n_1, i_1) =>
  if decide ((i_1 : Int) < (t_j1.l.length : Int)) then
    ((byteAt t_j1 (i_1 : Int)).bind fun c5 =>
    (ref1_digit_m c5).bind fun y7 =>
    if (!y7) then
      (some (0, false))
    else
      (chk (i64b (10 * n_1)) <|
      (byteAt t_j1 (i_1 : Int)).bind fun c11 =>
      chk (i64b ((10 * n_1) + (IntKind.i64.wrap (IntKind.u8.wrap (c11 - 48))))) <|
      chk (i64b ((i_1 : Int) + 1)) <|
      cont1 (((10 * n_1) + (IntKind.i64.wrap (IntKind.u8.wrap (c11 - 48)))), i_1 + 1)))
  else
    (ref1_Number_k2 n_1 sign_j1 ())
def ref1_Number_k1 : (Str × Int) → Option (Int × Bool) := fun (t_j1, sign_j1) =>
  (whn (!(decide ((t_j1.l.length : Int) < 1) || decide (13 < (t_j1.l.length : Int)))) 0 (byteAt t_j1 0)).bind fun c1 =>
  if ((decide ((t_j1.l.length : Int) < 1) || decide (13 < (t_j1.l.length : Int))) || (decide (c1 = 48) && (decide (1 < (t_j1.l.length : Int)) || decide (sign_j1 < 0)))) then
    (some (0, false))
  else
    (iter (ref1_Number_b1 t_j1 sign_j1) FUEL (0, 0))
def ref1_Number_m (s0 : Str) : Option (Int × Bool) :=
  (whn (decide (0 < (s0.l.length : Int))) 0 (byteAt s0 0)).bind fun c17 =>
  if (decide (0 < (s0.l.length : Int)) && decide (c17 = 45)) then
    ((strSub s0 1 (s0.l.length : Int)).bind fun q20 =>
    ref1_Number_k1 (q20, (-1)))
  else
    (ref1_Number_k1 (s0, 1))
theorem ref1_Number_spec (S : Soup) (w : World) (s0 : Str) (y : Int × Bool) (hM : ref1_Number_m s0 = some y) (hS : ∀ k, S k → k < w.heap.size)  :
    Calls Tryd.prog 99 #[.string s0.ba] w (Ret w (.tuple #[.int .i64 y.1, .bool y.2])) := by
  refine calls_cw (args := [_]) Tryd.func99 rfl ((pre_nil hS).start) rfl ?_
  unfold ref1_Number_m at hM
  refine cw_seq fun K1 hK1 => ?_
  refine cw_region ?_
  refine ow_ev ev_assign ?_
  refine ow_ev ev_assign ?_
  refine ow_nil (hK1 _ _ ?_); clear hK1
  refine cw_seq fun K2 hK2 => ?_
  refine cw_region ?_
  refine ow_ev ev_move ?_
  refine ow_ev ev_assign ?_
  refine ow_ev ev_assign ?_
  refine ow_nil (hK2 _ _ ?_); clear hK2
  refine cw_cut (γ := (Str × Int) × Unit) (env := fun ((t_j1, sign_j1), _) => [(4, .v (.string t_j1.ba)), (5, .v (.int .i64 sign_j1))]) (mem := fun ((t_j1, sign_j1), _) => []) (R := fun g => ref1_Number_k1 g.1 = some y) ?_ ?_
  · intro KJ1 hJ1
    refine cw_seq fun K19 hK19 => ?_
    refine cw_region ?_
    refine ow_ev ev_move ?_
    refine ow_ev ev_slen ?_
    refine ow_ev ev_gtr ?_
    refine ow_ev ev_move ?_
    refine ow_evg rfl ev_move ?_
    obtain ⟨c17, hc_18, hM⟩ := bind_some hM
    refine ow_evg rfl (ev_sidx (whn_some hc_18)) ?_
    refine ow_evg rfl ev_eql ?_
    refine ow_ev ev_and ?_
    refine ow_nil (hK19 _ _ ?_); clear hK19
    refine cw_cond rfl (fun hc19 => ?_) (fun hc19 => ?_)
    ·
      replace hM := (ite_t hc19).symm.trans hM
      refine cw_region ?_
      refine ow_ev ev_move ?_
      obtain ⟨q20, hq21, hM⟩ := bind_some hM
      refine ow_ev (ev_ssub (ol := some (.i64, 1)) (oh := none) (fun _ => hq21)) ?_
      refine ow_ev ev_assign ?_
      refine ow_ev ev_assign ?_
      refine ow_nil (hJ1 ((q20, (-1)), ()) _ _ hM ⟨rfl, rfl, trivial⟩ (fun w hm => hm.reord))
    ·
      replace hM := (ite_f hc19).symm.trans hM
      refine cw_skip (hJ1 ((s0, 1), ()) _ _ hM ⟨rfl, rfl, trivial⟩ (fun w hm => hm.reord))
  ·
    clear hM
    intro g hM
    obtain ⟨⟨t_j1, sign_j1⟩, ⟨⟩⟩ := g
    dsimp only at hM ⊢
    dsimp only [ref1_Number_k1] at hM
    refine cw_seq fun K3 hK3 => ?_
    refine cw_seq fun K4 hK4 => ?_
    refine cw_region ?_
    refine ow_ev ev_move ?_
    refine ow_ev ev_slen ?_
    refine ow_ev ev_lss ?_
    refine ow_ev ev_move ?_
    refine ow_evg rfl ev_move ?_
    refine ow_evg rfl ev_slen ?_
    refine ow_evg rfl ev_gtr ?_
    refine ow_ev ev_or ?_
    refine ow_ev ev_move ?_
    refine ow_evg rfl ev_move ?_
    obtain ⟨c1, hc_2, hM⟩ := bind_some hM
    refine ow_evg rfl (ev_sidx (whn_some hc_2)) ?_
    refine ow_evg rfl ev_eql ?_
    refine ow_evg rfl ev_move ?_
    refine ow_evg rfl ev_move ?_
    refine ow_evg rfl ev_slen ?_
    refine ow_evg rfl ev_gtr ?_
    refine ow_evg rfl ev_move ?_
    refine ow_evg rfl ev_move ?_
    refine ow_evg rfl ev_lss ?_
    refine ow_evg rfl ev_or ?_
    refine ow_evg rfl ev_and ?_
    refine ow_ev ev_or ?_
    refine ow_nil (hK4 _ _ ?_); clear hK4
    refine cw_cond rfl (fun hc3 => ?_) (fun hc3 => ?_)
    ·
      replace hM := (ite_t hc3).symm.trans hM
      refine cw_seq fun K5 hK5 => ?_
      refine cw_region ?_
      refine ow_ev ev_assign ?_
      refine ow_ev ev_assign ?_
      refine ow_nil (hK5 _ _ ?_); clear hK5
      obtain rfl := some_inj hM
      refine cw_ret (kw_retc2 (fun w hm => ret_of hm rfl))
    ·
      replace hM := (ite_f hc3).symm.trans hM
      refine cw_skip (hK3 _ _ ?_); clear hK3
      refine cw_seq fun K6 hK6 => ?_
      refine cw_region ?_
      refine ow_ev ev_assign ?_
      refine ow_nil (hK6 _ _ ?_); clear hK6
      refine cw_seq fun K7 hK7 => ?_
      refine cw_seq fun K8 hK8 => ?_
      refine cw_region ?_
      refine ow_ev ev_assign ?_
      refine ow_nil (hK8 _ _ ?_); clear hK8
      refine cw_block ?_
      refine cw_loop (γ := Nat × (Int × Nat) × Unit) (env := fun (_, (n_1, i_1), _) => [(4, .v (.string t_j1.ba)), (5, .v (.int .i64 sign_j1)), (6, .v (.int .i64 n_1)), (7, .v (.int .i64 (i_1 : Int)))]) (mem := fun (_, (n_1, i_1), _) => []) (R := fun g => iter (ref1_Number_b1 t_j1 sign_j1) g.1 g.2.1 = some y) (μ := fun g => g.1) (FUEL, (0, 0), ()) hM ⟨rfl, rfl, rfl, rfl, trivial⟩ (fun w hm => hm.reord) ?_
      clear hM
      intro g hM KL1 hL1
      obtain ⟨nn1, ⟨n_1, i_1⟩, ⟨⟩⟩ := g
      dsimp only at hM ⊢
      obtain ⟨nn1, cont1, rfl, hcont1, hM⟩ := iter_open' hM
      dsimp only [ref1_Number_b1] at hM
      refine cw_seq fun K9 hK9 => ?_
      refine cw_seq fun K10 hK10 => ?_
      refine cw_region ?_
      refine ow_ev ev_move ?_
      refine ow_ev ev_move ?_
      refine ow_ev ev_slen ?_
      refine ow_ev ev_lss ?_
      refine ow_nil (hK10 _ _ ?_); clear hK10
      refine cw_cond rfl (fun hc4 => ?_) (fun hc4 => ?_)
      ·
        replace hM := (ite_t hc4).symm.trans hM
        refine cw_skip (hK9 _ _ ?_); clear hK9
        refine cw_seq fun K11 hK11 => ?_
        refine cw_block ?_
        refine cw_seq fun K12 hK12 => ?_
        refine cw_seq fun K13 hK13 => ?_
        refine cw_region ?_
        refine ow_ev ev_move ?_
        refine ow_ev ev_move ?_
        obtain ⟨c5, hc_6, hM⟩ := bind_some hM
        refine ow_ev (ev_sidx (fun _ => hc_6)) ?_
        obtain ⟨y7, hy8, hM⟩ := bind_some hM
        refine ow_cons (st_callv (fun w hm => let ⟨S, hs⟩ := hm; ref1_digit_spec _ w c5 y7 hy8 (lend_lt hs) ) ?_)
        refine ow_ev ev_not ?_
        refine ow_nil (hK13 _ _ ?_); clear hK13
        refine cw_cond rfl (fun hc9 => ?_) (fun hc9 => ?_)
        ·
          replace hM := (ite_t hc9).symm.trans hM
          refine cw_seq fun K14 hK14 => ?_
          refine cw_region ?_
          refine ow_ev ev_assign ?_
          refine ow_ev ev_assign ?_
          refine ow_nil (hK14 _ _ ?_); clear hK14
          obtain rfl := some_inj hM
          refine cw_ret (kw_retc2 (fun w hm => ret_of hm rfl))
        ·
          replace hM := (ite_f hc9).symm.trans hM
          refine cw_skip (hK12 _ _ ?_); clear hK12
          refine cw_region ?_
          refine ow_ev ev_move ?_
          obtain ⟨hI10, hM⟩ := chk_some hM
          refine ow_ev (ev_mul (hr := fun hg => i64b_I64 hI10)) ?_
          refine ow_ev ev_move ?_
          refine ow_ev ev_move ?_
          obtain ⟨c11, hc_12, hM⟩ := bind_some hM
          refine ow_ev (ev_sidx (fun _ => hc_12)) ?_
          refine ow_ev ev_subw ?_
          refine ow_ev (ev_convert_int .i64) ?_
          obtain ⟨hI13, hM⟩ := chk_some hM
          refine ow_ev (ev_add (hr := fun hg => i64b_I64 hI13)) ?_
          refine ow_ev ev_assign ?_
          refine ow_nil (hK11 _ _ ?_); clear hK11
          refine cw_region ?_
          refine ow_ev ev_move ?_
          obtain ⟨hI14, hM⟩ := chk_some hM
          refine ow_ev (ev_add (hr := fun hg => i64b_I64 hI14)) ?_
          refine ow_ev ev_assign ?_
          refine ow_nil (hL1 (nn1, (((10 * n_1) + (IntKind.i64.wrap (IntKind.u8.wrap (c11 - 48)))), i_1 + 1), ()) _ _ (eqc hcont1 hM) (Nat.lt_succ_self _) ⟨rfl, rfl, rfl, rfl, trivial⟩ (fun w hm => hm.reord))
      ·
        replace hM := (ite_f hc4).symm.trans hM
        refine cw_exit (hK7 _ _ ?_); clear hK7
        dsimp only [ref1_Number_k2] at hM
        refine cw_seq fun K15 hK15 => ?_
        refine cw_seq fun K16 hK16 => ?_
        refine cw_region ?_
        refine ow_ev ev_move ?_
        refine ow_ev ev_gtr ?_
        refine ow_nil (hK16 _ _ ?_); clear hK16
        refine cw_cond rfl (fun hc15 => ?_) (fun hc15 => ?_)
        ·
          replace hM := (ite_t hc15).symm.trans hM
          refine cw_seq fun K17 hK17 => ?_
          refine cw_region ?_
          refine ow_ev ev_assign ?_
          refine ow_ev ev_assign ?_
          refine ow_nil (hK17 _ _ ?_); clear hK17
          obtain rfl := some_inj hM
          refine cw_ret (kw_retc2 (fun w hm => ret_of hm rfl))
        ·
          replace hM := (ite_f hc15).symm.trans hM
          refine cw_skip (hK15 _ _ ?_); clear hK15
          refine cw_seq fun K18 hK18 => ?_
          refine cw_region ?_
          refine ow_ev ev_move ?_
          refine ow_ev ev_move ?_
          obtain ⟨hI16, hM⟩ := chk_some hM
          refine ow_ev (ev_mul (hr := fun hg => i64b_I64 hI16)) ?_
          refine ow_ev ev_assign ?_
          refine ow_ev ev_assign ?_
          refine ow_nil (hK18 _ _ ?_); clear hK18
          obtain rfl := some_inj hM
          refine cw_ret (kw_retc2 (fun w hm => ret_of hm rfl))

def ref1_plain_m (c0 : Int) : Option Bool :=
  some ((decide (33 ≤ c0) && decide (c0 ≤ 126)) && decide (c0 ≠ 35))
theorem ref1_plain_spec (S : Soup) (w : World) (c0 : Int) (y : Bool) (hM : ref1_plain_m c0 = some y) (hS : ∀ k, S k → k < w.heap.size)  :
    Calls Tryd.prog 98 #[.int .u8 c0] w (Ret w (.bool y)) := by
  refine calls_cw (args := [_]) Tryd.func98 rfl ((pre_nil hS).start) rfl ?_
  unfold ref1_plain_m at hM
  refine cw_seq fun K1 hK1 => ?_
  refine cw_region ?_
  refine ow_ev ev_assign ?_
  refine ow_nil (hK1 _ _ ?_); clear hK1
  refine cw_seq fun K2 hK2 => ?_
  refine cw_region ?_
  refine ow_ev ev_move ?_
  refine ow_ev ev_geq ?_
  refine ow_ev ev_move ?_
  refine ow_evg rfl ev_move ?_
  refine ow_evg rfl ev_leq ?_
  refine ow_ev ev_and ?_
  refine ow_ev ev_move ?_
  refine ow_evg rfl ev_move ?_
  refine ow_evg rfl ev_neq ?_
  refine ow_ev ev_and ?_
  refine ow_ev ev_assign ?_
  refine ow_nil (hK2 _ _ ?_); clear hK2
  obtain rfl := some_inj hM
  refine cw_ret (kw_retc1 (fun w hm => ret_of hm rfl))

def ref1_one_k2 (i_1 : Nat) (cont1 : ((List Word) × Nat) → Option ((List Word) × Int)) : (List Word) → Option ((List Word) × Int) := fun ll_j2 =>
  chk (i64b ((i_1 : Int) + 1)) <|
  cont1 (ll_j2, i_1 + 1)
def ref1_one_k1 (ll_1 : List Word) : Unit → Option ((List Word) × Int) := fun _ =>
  if decide (64 < (ll_1.length : Int)) then
    (some (([] : List Word), 7))
  else
    (some (ll_1, 0))
def ref1_one_b1 (s0 : Str) (line0 : Int) (cont1 : ((List Word) × Nat) → Option ((List Word) × Int)) : ((List Word) × Nat) → Option ((List Word) × Int) := fun (ll_1, i_1) =>
  (whn (decide ((i_1 : Int) < (s0.l.length : Int))) 0 (byteAt s0 (i_1 : Int))).bind fun c2 =>
  if (decide ((i_1 : Int) < (s0.l.length : Int)) && decide (c2 ≠ 35)) then
    ((byteAt s0 (i_1 : Int)).bind fun c6 =>
    (whn (!(decide (c6 = 32))) 0 (byteAt s0 (i_1 : Int))).bind fun c8 =>
    if (decide (c6 = 32) || decide (c8 = 9)) then
      (ref1_one_k2 i_1 cont1 ll_1)
    else
      ((byteAt s0 (i_1 : Int)).bind fun c11 =>
      (ref1_plain_m c11).bind fun y13 =>
      if (!y13) then
        (some (([] : List Word), 2))
      else
        (chk (!(decide (0 < (i_1 : Int))) || i64b ((i_1 : Int) - 1)) <|
        (whn (decide (0 < (i_1 : Int))) 0 (byteAt s0 ((i_1 : Int) - 1))).bind fun c18 =>
        (whn (decide (0 < (i_1 : Int))) default (ref1_plain_m c18)).bind fun y20 =>
        if (decide (0 < (i_1 : Int)) && y20) then
          (chk (i64b ((ll_1.length : Int) - 1)) <|
          (idx ll_1 ((ll_1.length : Int) - 1)).bind fun x24 =>
          chk (i64b ((i_1 : Int) + 1)) <|
          (strSub s0 (i_1 : Int) ((i_1 : Int) + 1)).bind fun q27 =>
          (strCat x24.Text q27).bind fun q29 =>
          (idx ll_1 ((ll_1.length : Int) - 1)).bind fun x31 =>
          ref1_one_k2 i_1 cont1 (ll_1.set ((ll_1.length : Int) - 1).toNat (Word.mk q29 x31.Line x31.Col)))
        else
          (chk (i64b ((i_1 : Int) + 1)) <|
          (strSub s0 (i_1 : Int) ((i_1 : Int) + 1)).bind fun q35 =>
          chk (i64b ((i_1 : Int) + 1)) <|
          chk (decide ((ll_1.length + ([(Word.mk q35 line0 ((i_1 : Int) + 1))] : List Word).length) * 32 ≤ 140737488355328)) <|
          ref1_one_k2 i_1 cont1 (ll_1 ++ ([(Word.mk q35 line0 ((i_1 : Int) + 1))] : List Word))))))
  else
    (ref1_one_k1 ll_1 ())
def ref1_one_m (s0 : Str) (line0 : Int) : Option ((List Word) × Int) :=
  iter (ref1_one_b1 s0 line0) FUEL (([] : List Word), 0)
theorem ref1_one_spec (S : Soup) (w : World) (s0 : Str) (line0 : Int) (y : (List Word) × Int) (hM : ref1_one_m s0 line0 = some y) (hS : ∀ k, S k → k < w.heap.size)  :
    Calls Tryd.prog 83 #[.string s0.ba, .int .i64 line0] w (Post (β := (GoRep.R (List Word))) S [] (fun g => .tuple #[.slice g.a y.1.length g.cap, .int .i64 y.2]) (fun g => [trow 83 g y.1]) w) := by
  refine calls_cw (args := [_, _]) Tryd.func83 rfl ((pre_nil hS).start) rfl ?_
  unfold ref1_one_m at hM
  refine cw_seq fun K1 hK1 => ?_
  refine cw_region ?_
  refine ow_ev ev_assign ?_
  refine ow_ev ev_assign ?_
  refine ow_nil (hK1 _ _ ?_); clear hK1
  refine cw_seq fun K2 hK2 => ?_
  refine cw_region ?_
  refine ow_ev ev_assign ?_
  refine ow_nil (hK2 _ _ ?_); clear hK2
  refine cw_seq fun K3 hK3 => ?_
  refine cw_seq fun K4 hK4 => ?_
  refine cw_region ?_
  refine ow_ev ev_assign ?_
  refine ow_nil (hK4 _ _ ?_); clear hK4
  refine cw_block ?_
  refine cw_imp (fun w hm => hm.row_nil (α := Word) 83 (fun _ => ())) ?_
  refine cw_loop (γ := Nat × ((List Word) × Nat) × (SR (GoRep.R Word))) (env := fun (_, (ll_1, i_1), rl_1) => [(0, .v (.string s0.ba)), (1, .v (.int .i64 line0)), (6, .v (.slice rl_1.a ll_1.length rl_1.cap)), (7, .v (.int .i64 (i_1 : Int)))]) (mem := fun (_, (ll_1, i_1), rl_1) => [trow 83 rl_1 ll_1]) (R := fun g => iter (ref1_one_b1 s0 line0) g.1 g.2.1 = some y) (μ := fun g => g.1) (FUEL, (([] : List Word), 0), (⟨none, 0, (fun _ => ())⟩ : SR (GoRep.R Word) )) hM ⟨rfl, rfl, rfl, rfl, trivial⟩ (fun w hm => hm.reord) ?_
  clear hM
  intro g hM KL1 hL1
  obtain ⟨nn1, ⟨ll_1, i_1⟩, rl_1⟩ := g
  dsimp only at hM ⊢
  obtain ⟨nn1, cont1, rfl, hcont1, hM⟩ := iter_open' hM
  dsimp only [ref1_one_b1] at hM
  refine cw_seq fun K5 hK5 => ?_
  refine cw_seq fun K6 hK6 => ?_
  refine cw_region ?_
  refine ow_ev ev_move ?_
  refine ow_ev ev_move ?_
  refine ow_ev ev_slen ?_
  refine ow_ev ev_lss ?_
  refine ow_ev ev_move ?_
  refine ow_evg rfl ev_move ?_
  refine ow_evg rfl ev_move ?_
  obtain ⟨c2, hc_3, hM⟩ := bind_some hM
  refine ow_evg rfl (ev_sidx (whn_some hc_3)) ?_
  refine ow_evg rfl ev_neq ?_
  refine ow_ev ev_and ?_
  refine ow_nil (hK6 _ _ ?_); clear hK6
  refine cw_cond rfl (fun hc4 => ?_) (fun hc4 => ?_)
  ·
    replace hM := (ite_t hc4).symm.trans hM
    refine cw_skip (hK5 _ _ ?_); clear hK5
    refine cw_cut (γ := (List Word) × (SR (GoRep.R Word))) (env := fun (ll_j2, rl_j2) => [(0, .v (.string s0.ba)), (1, .v (.int .i64 line0)), (6, .v (.slice rl_j2.a ll_j2.length rl_j2.cap)), (7, .v (.int .i64 (i_1 : Int)))]) (mem := fun (ll_j2, rl_j2) => [trow 83 rl_j2 ll_j2]) (R := fun g => ref1_one_k2 i_1 cont1 g.1 = some y) ?_ ?_
    · intro KJ2 hJ2
      refine cw_block ?_
      refine cw_seq fun K7 hK7 => ?_
      refine cw_seq fun K8 hK8 => ?_
      refine cw_region ?_
      refine ow_ev ev_move ?_
      refine ow_ev ev_move ?_
      obtain ⟨c6, hc_7, hM⟩ := bind_some hM
      refine ow_ev (ev_sidx (fun _ => hc_7)) ?_
      refine ow_ev ev_eql ?_
      refine ow_ev ev_move ?_
      refine ow_evg rfl ev_move ?_
      refine ow_evg rfl ev_move ?_
      obtain ⟨c8, hc_9, hM⟩ := bind_some hM
      refine ow_evg rfl (ev_sidx (whn_some hc_9)) ?_
      refine ow_evg rfl ev_eql ?_
      refine ow_ev ev_or ?_
      refine ow_nil (hK8 _ _ ?_); clear hK8
      refine cw_cond rfl (fun hc10 => ?_) (fun hc10 => ?_)
      ·
        replace hM := (ite_t hc10).symm.trans hM
        refine cw_exit (hJ2 (ll_1, rl_1) _ _ hM ⟨rfl, rfl, rfl, rfl, trivial⟩ (fun w hm => hm.reord))
      ·
        replace hM := (ite_f hc10).symm.trans hM
        refine cw_skip (hK7 _ _ ?_); clear hK7
        refine cw_seq fun K9 hK9 => ?_
        refine cw_seq fun K10 hK10 => ?_
        refine cw_region ?_
        refine ow_ev ev_move ?_
        refine ow_ev ev_move ?_
        obtain ⟨c11, hc_12, hM⟩ := bind_some hM
        refine ow_ev (ev_sidx (fun _ => hc_12)) ?_
        obtain ⟨y13, hy14, hM⟩ := bind_some hM
        refine ow_cons (st_callv (fun w hm => let ⟨S, hs⟩ := hm; ref1_plain_spec _ w c11 y13 hy14 (lend_lt hs) ) ?_)
        refine ow_ev ev_not ?_
        refine ow_nil (hK10 _ _ ?_); clear hK10
        refine cw_cond rfl (fun hc15 => ?_) (fun hc15 => ?_)
        ·
          replace hM := (ite_t hc15).symm.trans hM
          refine cw_seq fun K11 hK11 => ?_
          refine cw_region ?_
          refine ow_ev ev_assign ?_
          refine ow_ev ev_assign ?_
          refine ow_nil (hK11 _ _ ?_); clear hK11
          refine cw_imp (fun w hm => hm.row_nil (α := Word) 83 (fun _ => ())) ?_
          obtain rfl := some_inj hM
          refine cw_ret (kw_retc2 (fun w hm => post_of (⟨none, 0, (fun _ => ())⟩ : SR (GoRep.R Word)               ) hm rfl))
        ·
          replace hM := (ite_f hc15).symm.trans hM
          refine cw_skip (hK9 _ _ ?_); clear hK9
          refine cw_seq fun K12 hK12 => ?_
          refine cw_region ?_
          refine ow_ev ev_move ?_
          refine ow_ev ev_gtr ?_
          refine ow_ev ev_move ?_
          refine ow_evg rfl ev_move ?_
          refine ow_evg rfl ev_move ?_
          obtain ⟨hI17, hM⟩ := chk_some hM
          refine ow_evg rfl (ev_sub (hr := fun hg => i64b_I64 (gor hI17 hg))) ?_
          obtain ⟨c18, hc_19, hM⟩ := bind_some hM
          refine ow_evg rfl (ev_sidx (whn_some hc_19)) ?_
          obtain ⟨y20, hy21, hM⟩ := bind_some hM
          refine ow_callg rfl (fun hg w hm => let ⟨S, hs⟩ := hm; ref1_plain_spec _ w c18 y20 (whn_some hy21 hg) (lend_lt hs) ) ?_
          refine ow_ev ev_and ?_
          refine ow_nil (hK12 _ _ ?_); clear hK12
          refine cw_cond rfl (fun hc22 => ?_) (fun hc22 => ?_)
          ·
            replace hM := (ite_t hc22).symm.trans hM
            refine cw_seq fun K13 hK13 => ?_
            refine cw_region ?_
            refine ow_ev ev_move ?_
            refine ow_ev ev_len ?_
            obtain ⟨hI23, hM⟩ := chk_some hM
            refine ow_ev (ev_sub (hr := fun hg => i64b_I64 hI23)) ?_
            refine ow_ev ev_assign ?_
            refine ow_nil (hK13 _ _ ?_); clear hK13
            refine cw_region_z [trow 83 rl_1 ll_1] 15 ?_
            refine az_ev 0 rfl ev_move ?_
            refine az_ev 1 rfl ev_move ?_
            refine az_ev 2 rfl ev_move ?_
            refine az_ev 3 rfl ev_move ?_
            obtain ⟨x24, hx25, hM⟩ := bind_some hM
            refine az_ev 4 rfl (ev_idx (xs := ll_1) 3 (Kn.trow (e := 83) (r := rl_1) (by repeat (first | exact Has.head | apply Has.tail))) (fun hg => let h := idx_some hx25; ⟨h.1, h.2.1⟩)) ?_
            refine az_ev 5 rfl (ev_field_addr 0) ?_
            refine az_ev 6 rfl (ev_ld (i := ((ll_1.length : Int) - 1)) (xs := ll_1) (y := x24) 0 (Kn.trow (e := 83) (r := rl_1) (by repeat (first | exact Has.head | apply Has.tail))) (fun _ => hx25)) ?_
            refine az_ev 7 rfl ev_move ?_
            refine az_ev 8 rfl ev_move ?_
            refine az_ev 9 rfl ev_move ?_
            obtain ⟨hI26, hM⟩ := chk_some hM
            refine az_ev 10 rfl (ev_add (hr := fun hg => i64b_I64 hI26)) ?_
            obtain ⟨q27, hq28, hM⟩ := bind_some hM
            refine az_ev 11 rfl (ev_ssub (ol := some (.i64, (i_1 : Int))) (oh := some (.i64, ((i_1 : Int) + 1))) (fun _ => hq28)) ?_
            obtain ⟨q29, hq30, hM⟩ := bind_some hM
            refine az_ev 12 rfl (ev_scat (fun _ => hq30)) ?_
            obtain ⟨x31, hx32, hM⟩ := bind_some hM
            refine az_ev 13 rfl (ev_idx (xs := ll_1) 3 (Kn.trow (e := 83) (r := rl_1) (by repeat (first | exact Has.head | apply Has.tail))) (fun hg => let h := idx_some hx32; ⟨h.1, h.2.1⟩)) ?_
            refine az_ev 14 rfl (ev_field_addr 0) ?_
            refine az_last rfl (st_set (r := rl_1) (i := ((ll_1.length : Int) - 1)) (xs := ll_1) (u := x31) (vs := [.string q29.ba]) 0 (Word.mk q29 x31.Line x31.Col) hx32 rfl (fun _ _ h => h) (by repeat (first | exact Upd.head | apply Upd.tail)) ?_)
            have hx33 := idx_set_same (u := (Word.mk q29 x31.Line x31.Col)) hx32
            refine az_done (hJ2 ((ll_1.set ((ll_1.length : Int) - 1).toNat (Word.mk q29 x31.Line x31.Col)), rl_1) _ _ hM ⟨rfl, rfl, (by simp only [List.length_set]; rfl), rfl, trivial⟩ (fun w hm => hm.reord))
          ·
            replace hM := (ite_f hc22).symm.trans hM
            refine cw_region ?_
            refine ow_ev ev_move ?_
            refine ow_ev ev_move ?_
            refine ow_ev ev_move ?_
            refine ow_ev ev_move ?_
            obtain ⟨hI34, hM⟩ := chk_some hM
            refine ow_ev (ev_add (hr := fun hg => i64b_I64 hI34)) ?_
            obtain ⟨q35, hq36, hM⟩ := bind_some hM
            refine ow_ev (ev_ssub (ol := some (.i64, (i_1 : Int))) (oh := some (.i64, ((i_1 : Int) + 1))) (fun _ => hq36)) ?_
            refine ow_ev ev_move ?_
            refine ow_ev ev_move ?_
            obtain ⟨hI37, hM⟩ := chk_some hM
            refine ow_ev (ev_add (hr := fun hg => i64b_I64 hI37)) ?_
            refine ow_ev (ev_build [.string q35.ba, .int .i64 line0, .int .i64 ((i_1 : Int) + 1)]) ?_
            refine ow_cons (st_bslice (α := Word) 83 (fun _ => ()) ([(Word.mk q35 line0 ((i_1 : Int) + 1))] : List Word) (OkL.flat (fun _ _ _ _ => trivial)) (fun r38 => ?_))
            obtain ⟨hb40, hM⟩ := chk_some hM
            refine ow_cons (st_append (r := rl_1) (r2 := r38) (by intro r'; repeat (first | exact Upd.head | apply Upd.tail)) (Kn.trow (e := 83) (r := r38) (by repeat (first | exact Has.head | apply Has.tail))) (OkL.flat (fun _ _ _ _ => trivial)) (of_decide_eq_true hb40) (fun r39 => ?_))
            refine ow_ev ev_assign ?_
            refine ow_nil (hJ2 ((ll_1 ++ ([(Word.mk q35 line0 ((i_1 : Int) + 1))] : List Word)), r39) _ _ hM ⟨rfl, rfl, rfl, rfl, trivial⟩ (fun w hm => hm.reord))
    ·
      clear hM
      intro g hM
      obtain ⟨ll_j2, rl_j2⟩ := g
      dsimp only at hM ⊢
      dsimp only [ref1_one_k2] at hM
      refine cw_region ?_
      refine ow_ev ev_move ?_
      obtain ⟨hI5, hM⟩ := chk_some hM
      refine ow_ev (ev_add (hr := fun hg => i64b_I64 hI5)) ?_
      refine ow_ev ev_assign ?_
      refine ow_nil (hL1 (nn1, (ll_j2, i_1 + 1), rl_j2) _ _ (eqc hcont1 hM) (Nat.lt_succ_self _) ⟨rfl, rfl, rfl, rfl, trivial⟩ (fun w hm => hm.reord))
  ·
    replace hM := (ite_f hc4).symm.trans hM
    refine cw_exit (hK3 _ _ ?_); clear hK3
    dsimp only [ref1_one_k1] at hM
    refine cw_seq fun K14 hK14 => ?_
    refine cw_seq fun K15 hK15 => ?_
    refine cw_region ?_
    refine ow_ev ev_move ?_
    refine ow_ev ev_len ?_
    refine ow_ev ev_gtr ?_
    refine ow_nil (hK15 _ _ ?_); clear hK15
    refine cw_cond rfl (fun hc41 => ?_) (fun hc41 => ?_)
    ·
      replace hM := (ite_t hc41).symm.trans hM
      refine cw_seq fun K16 hK16 => ?_
      refine cw_region ?_
      refine ow_ev ev_assign ?_
      refine ow_ev ev_assign ?_
      refine ow_nil (hK16 _ _ ?_); clear hK16
      refine cw_imp (fun w hm => hm.row_nil (α := Word) 83 (fun _ => ())) ?_
      obtain rfl := some_inj hM
      refine cw_ret (kw_retc2 (fun w hm => post_of (⟨none, 0, (fun _ => ())⟩ : SR (GoRep.R Word)                ) hm rfl))
    ·
      replace hM := (ite_f hc41).symm.trans hM
      refine cw_skip (hK14 _ _ ?_); clear hK14
      refine cw_seq fun K17 hK17 => ?_
      refine cw_region ?_
      refine ow_ev ev_move ?_
      refine ow_ev ev_assign ?_
      refine ow_ev ev_assign ?_
      refine ow_nil (hK17 _ _ ?_); clear hK17
      obtain rfl := some_inj hM
      refine cw_ret (kw_retc2 (fun w hm => post_of rl_1 hm rfl))

def ref1_Lines_k2 (line_1 : Nat) (cont1 : ((List (List Word)) × Nat × Int) → Option ((List (List Word)) × Int × Int)) (lout_j4 : List (List Word)) (j_2 : Int) : Unit → Option ((List (List Word)) × Int × Int) := fun _ =>
  chk (i64b ((line_1 : Int) + 1)) <|
  cont1 (lout_j4, line_1 + 1, (j_2 + 1))
def ref1_Lines_k4 (j_2 : Int) (line_1 : Nat) (cont1 : ((List (List Word)) × Nat × Int) → Option ((List (List Word)) × Int × Int)) : (List (List Word)) → Option ((List (List Word)) × Int × Int) := fun lout_j4 =>
  chk (i64b (j_2 + 1)) <|
  ref1_Lines_k2 line_1 cont1 lout_j4 j_2 ()
def ref1_Lines_k3 (src0 : Str) (i_1 : Int) (j_2 : Int) (line_1 : Nat) (lout_1 : List (List Word)) (cont1 : ((List (List Word)) × Nat × Int) → Option ((List (List Word)) × Int × Int)) : Unit → Option ((List (List Word)) × Int × Int) := fun _ =>
  (strSub src0 i_1 j_2).bind fun q9 =>
  (ref1_one_m q9 (line_1 : Int)).bind fun y11 =>
  if decide (y11.2 ≠ 0) then
    (some (([] : List (List Word)), (line_1 : Int), y11.2))
  else
    (if decide (0 < (y11.1.length : Int)) then
      (chk (decide ((lout_1.length + ([y11.1] : List (List Word)).length) * 24 ≤ 140737488355328)) <|
      ref1_Lines_k4 j_2 line_1 cont1 (lout_1 ++ ([y11.1] : List (List Word))))
    else
      (ref1_Lines_k4 j_2 line_1 cont1 lout_1))
def ref1_Lines_b2 (src0 : Str) (i_1 : Int) (line_1 : Nat) (lout_1 : List (List Word)) (cont1 : ((List (List Word)) × Nat × Int) → Option ((List (List Word)) × Int × Int)) (cont2 : Int → Option ((List (List Word)) × Int × Int)) : Int → Option ((List (List Word)) × Int × Int) := fun j_2 =>
  (whn (decide (j_2 < (src0.l.length : Int))) 0 (byteAt src0 j_2)).bind fun c5 =>
  if (decide (j_2 < (src0.l.length : Int)) && decide (c5 ≠ 10)) then
    (chk (i64b (j_2 + 1)) <|
    cont2 (j_2 + 1))
  else
    (ref1_Lines_k3 src0 i_1 j_2 line_1 lout_1 cont1 ())
def ref1_Lines_k1 (lout_1 : List (List Word)) : Unit → Option ((List (List Word)) × Int × Int) := fun _ =>
  some (lout_1, 0, 0)
def ref1_Lines_b1 (src0 : Str) (cont1 : ((List (List Word)) × Nat × Int) → Option ((List (List Word)) × Int × Int)) : ((List (List Word)) × Nat × Int) → Option ((List (List Word)) × Int × Int) := fun (lout_1, line_1, i_1) =>
  if decide (i_1 < (src0.l.length : Int)) then
    (iter (ref1_Lines_b2 src0 i_1 line_1 lout_1 cont1) FUEL i_1)
  else
    (ref1_Lines_k1 lout_1 ())
def ref1_Lines_m (src0 : Str) : Option ((List (List Word)) × Int × Int) :=
  if decide (65536 < (src0.l.length : Int)) then
    (some (([] : List (List Word)), 0, 7))
  else
    (iter (ref1_Lines_b1 src0) FUEL (([] : List (List Word)), 1, 0))
theorem ref1_Lines_spec (S : Soup) (w : World) (src0 : Str) (y : (List (List Word)) × Int × Int) (hM : ref1_Lines_m src0 = some y) (hS : ∀ k, S k → k < w.heap.size)  :
    Calls Tryd.prog 66 #[.string src0.ba] w (Post (β := (GoRep.R (List (List Word)))) S [] (fun g => .tuple #[.slice g.a y.1.length g.cap, .int .i64 y.2.1, .int .i64 y.2.2]) (fun g => [trow 79 g y.1]) w) := by
  refine calls_cw (args := [_]) Tryd.func66 rfl ((pre_nil hS).start) rfl ?_
  unfold ref1_Lines_m at hM
  refine cw_seq fun K1 hK1 => ?_
  refine cw_region ?_
  refine ow_ev ev_assign ?_
  refine ow_ev ev_assign ?_
  refine ow_ev ev_assign ?_
  refine ow_nil (hK1 _ _ ?_); clear hK1
  refine cw_seq fun K2 hK2 => ?_
  refine cw_seq fun K3 hK3 => ?_
  refine cw_region ?_
  refine ow_ev ev_move ?_
  refine ow_ev ev_slen ?_
  refine ow_ev ev_gtr ?_
  refine ow_nil (hK3 _ _ ?_); clear hK3
  refine cw_cond rfl (fun hc1 => ?_) (fun hc1 => ?_)
  ·
    replace hM := (ite_t hc1).symm.trans hM
    refine cw_seq fun K4 hK4 => ?_
    refine cw_region ?_
    refine ow_ev ev_assign ?_
    refine ow_ev ev_assign ?_
    refine ow_ev ev_assign ?_
    refine ow_nil (hK4 _ _ ?_); clear hK4
    refine cw_imp (fun w hm => hm.row_nil (α := List Word) 79 (fun _ => (⟨none, 0, (fun _ => ())⟩ : SR (GoRep.R Word)))) ?_
    obtain rfl := some_inj hM
    refine cw_ret (kw_retc3 (fun w hm => post_of (⟨none, 0, (fun _ => (⟨none, 0, (fun _ => ())⟩ : SR (GoRep.R Word)))⟩ : SR (GoRep.R (List Word)) ) hm rfl))
  ·
    replace hM := (ite_f hc1).symm.trans hM
    refine cw_skip (hK2 _ _ ?_); clear hK2
    refine cw_seq fun K5 hK5 => ?_
    refine cw_region ?_
    refine ow_ev ev_assign ?_
    refine ow_nil (hK5 _ _ ?_); clear hK5
    refine cw_seq fun K6 hK6 => ?_
    refine cw_region ?_
    refine ow_ev ev_assign ?_
    refine ow_nil (hK6 _ _ ?_); clear hK6
    refine cw_seq fun K7 hK7 => ?_
    refine cw_seq fun K8 hK8 => ?_
    refine cw_region ?_
    refine ow_ev ev_assign ?_
    refine ow_nil (hK8 _ _ ?_); clear hK8
    refine cw_block ?_
    refine cw_imp (fun w hm => hm.row_nil (α := List Word) 79 (fun _ => (⟨none, 0, (fun _ => ())⟩ : SR (GoRep.R Word)))) ?_
    refine cw_loop (γ := Nat × ((List (List Word)) × Nat × Int) × (SR (GoRep.R (List Word)))) (env := fun (_, (lout_1, line_1, i_1), rout_1) => [(0, .v (.string src0.ba)), (5, .v (.slice rout_1.a lout_1.length rout_1.cap)), (6, .v (.int .i64 (line_1 : Int))), (7, .v (.int .i64 i_1))]) (mem := fun (_, (lout_1, line_1, i_1), rout_1) => [trow 79 rout_1 lout_1]) (R := fun g => iter (ref1_Lines_b1 src0) g.1 g.2.1 = some y) (μ := fun g => g.1) (FUEL, (([] : List (List Word)), 1, 0), (⟨none, 0, (fun _ => (⟨none, 0, (fun _ => ())⟩ : SR (GoRep.R Word)))⟩ : SR (GoRep.R (List Word))  )) hM ⟨rfl, rfl, rfl, rfl, trivial⟩ (fun w hm => hm.reord) ?_
    clear hM
    intro g hM KL1 hL1
    obtain ⟨nn1, ⟨lout_1, line_1, i_1⟩, rout_1⟩ := g
    dsimp only at hM ⊢
    obtain ⟨nn1, cont1, rfl, hcont1, hM⟩ := iter_open' hM
    dsimp only [ref1_Lines_b1] at hM
    refine cw_seq fun K9 hK9 => ?_
    refine cw_seq fun K10 hK10 => ?_
    refine cw_region ?_
    refine ow_ev ev_move ?_
    refine ow_ev ev_move ?_
    refine ow_ev ev_slen ?_
    refine ow_ev ev_lss ?_
    refine ow_nil (hK10 _ _ ?_); clear hK10
    refine cw_cond rfl (fun hc4 => ?_) (fun hc4 => ?_)
    ·
      replace hM := (ite_t hc4).symm.trans hM
      refine cw_skip (hK9 _ _ ?_); clear hK9
      refine cw_seq fun K11 hK11 => ?_
      refine cw_block ?_
      refine cw_seq fun K12 hK12 => ?_
      refine cw_region ?_
      refine ow_ev ev_move ?_
      refine ow_ev ev_assign ?_
      refine ow_nil (hK12 _ _ ?_); clear hK12
      refine cw_seq fun K13 hK13 => ?_
      refine cw_block ?_
      refine cw_loop (γ := Nat × Int × Unit) (env := fun (_, j_2, _) => [(0, .v (.string src0.ba)), (5, .v (.slice rout_1.a lout_1.length rout_1.cap)), (6, .v (.int .i64 (line_1 : Int))), (7, .v (.int .i64 i_1)), (8, .v (.int .i64 j_2))]) (mem := fun (_, j_2, _) => [trow 79 rout_1 lout_1]) (R := fun g => iter (ref1_Lines_b2 src0 i_1 line_1 lout_1 cont1) g.1 g.2.1 = some y) (μ := fun g => g.1) (FUEL, i_1, ()) hM ⟨rfl, rfl, rfl, rfl, rfl, trivial⟩ (fun w hm => hm.reord) ?_
      clear hM
      intro g hM KL2 hL2
      obtain ⟨nn2, j_2, ⟨⟩⟩ := g
      dsimp only at hM ⊢
      obtain ⟨nn2, cont2, rfl, hcont2, hM⟩ := iter_open' hM
      dsimp only [ref1_Lines_b2] at hM
      refine cw_seq fun K14 hK14 => ?_
      refine cw_seq fun K15 hK15 => ?_
      refine cw_region ?_
      refine ow_ev ev_move ?_
      refine ow_ev ev_move ?_
      refine ow_ev ev_slen ?_
      refine ow_ev ev_lss ?_
      refine ow_ev ev_move ?_
      refine ow_evg rfl ev_move ?_
      refine ow_evg rfl ev_move ?_
      obtain ⟨c5, hc_6, hM⟩ := bind_some hM
      refine ow_evg rfl (ev_sidx (whn_some hc_6)) ?_
      refine ow_evg rfl ev_neq ?_
      refine ow_ev ev_and ?_
      refine ow_nil (hK15 _ _ ?_); clear hK15
      refine cw_cond rfl (fun hc7 => ?_) (fun hc7 => ?_)
      ·
        replace hM := (ite_t hc7).symm.trans hM
        refine cw_skip (hK14 _ _ ?_); clear hK14
        refine cw_block ?_
        refine cw_region ?_
        refine ow_ev ev_move ?_
        obtain ⟨hI8, hM⟩ := chk_some hM
        refine ow_ev (ev_add (hr := fun hg => i64b_I64 hI8)) ?_
        refine ow_ev ev_assign ?_
        refine ow_nil (hL2 (nn2, (j_2 + 1), ()) _ _ (eqc hcont2 hM) (Nat.lt_succ_self _) ⟨rfl, rfl, rfl, rfl, rfl, trivial⟩ (fun w hm => hm.reord))
      ·
        replace hM := (ite_f hc7).symm.trans hM
        refine cw_exit (hK13 _ _ ?_); clear hK13
        dsimp only [ref1_Lines_k3] at hM
        refine cw_seq fun K16 hK16 => ?_
        refine cw_region ?_
        refine ow_ev ev_move ?_
        refine ow_ev ev_move ?_
        refine ow_ev ev_move ?_
        obtain ⟨q9, hq10, hM⟩ := bind_some hM
        refine ow_ev (ev_ssub (ol := some (.i64, i_1)) (oh := some (.i64, j_2)) (fun _ => hq10)) ?_
        refine ow_ev ev_move ?_
        obtain ⟨y11, hy12, hM⟩ := bind_some hM
        refine ow_cons (st_callF SelL.nil (fun S w hs hP => ref1_one_spec _ w q9 (line_1 : Int) y11 hy12 (lend_lt hs) ) (by intro r c hc; simp only [List.mem_cons, List.not_mem_nil, or_false] at hc; rcases hc with rfl <;> first | exact flatC_own | exact flatC_trow (fun _ _ _ _ => trivial)) (fun r13 => ?_))
        dsimp only [List.cons_append, List.nil_append]
        refine ow_ev ev_move ?_
        refine ow_ev (ev_extract (vs := [.slice r13.a y11.1.length r13.cap, .int .i64 y11.2])) ?_
        refine ow_ev (ev_extract (vs := [.slice r13.a y11.1.length r13.cap, .int .i64 y11.2])) ?_
        refine ow_ev ev_assign ?_
        refine ow_ev ev_assign ?_
        refine ow_nil (hK16 _ _ ?_); clear hK16
        refine cw_seq fun K17 hK17 => ?_
        refine cw_seq fun K18 hK18 => ?_
        refine cw_region ?_
        refine ow_ev ev_move ?_
        refine ow_ev ev_neq ?_
        refine ow_nil (hK18 _ _ ?_); clear hK18
        refine cw_cond rfl (fun hc14 => ?_) (fun hc14 => ?_)
        ·
          replace hM := (ite_t hc14).symm.trans hM
          refine cw_seq fun K19 hK19 => ?_
          refine cw_region ?_
          refine ow_ev ev_move ?_
          refine ow_ev ev_move ?_
          refine ow_ev ev_assign ?_
          refine ow_ev ev_assign ?_
          refine ow_ev ev_assign ?_
          refine ow_nil (hK19 _ _ ?_); clear hK19
          refine cw_imp (fun w hm => hm.row_nil (α := List Word) 79 (fun _ => (⟨none, 0, (fun _ => ())⟩ : SR (GoRep.R Word)))) ?_
          obtain rfl := some_inj hM
          refine cw_ret (kw_retc3 (fun w hm => post_of (⟨none, 0, (fun _ => (⟨none, 0, (fun _ => ())⟩ : SR (GoRep.R Word)))⟩ : SR (GoRep.R (List Word))                   ) hm rfl))
        ·
          replace hM := (ite_f hc14).symm.trans hM
          refine cw_skip (hK17 _ _ ?_); clear hK17
          refine cw_cut (γ := (List (List Word)) × (SR (GoRep.R (List Word)))) (env := fun (lout_j4, rout_j4) => [(0, .v (.string src0.ba)), (5, .v (.slice rout_j4.a lout_j4.length rout_j4.cap)), (6, .v (.int .i64 (line_1 : Int))), (8, .v (.int .i64 j_2))]) (mem := fun (lout_j4, rout_j4) => [trow 79 rout_j4 lout_j4]) (R := fun g => ref1_Lines_k4 j_2 line_1 cont1 g.1 = some y) ?_ ?_
          · intro KJ4 hJ4
            refine cw_seq fun K20 hK20 => ?_
            refine cw_region ?_
            refine ow_ev ev_move ?_
            refine ow_ev ev_len ?_
            refine ow_ev ev_gtr ?_
            refine ow_nil (hK20 _ _ ?_); clear hK20
            refine cw_cond rfl (fun hc18 => ?_) (fun hc18 => ?_)
            ·
              replace hM := (ite_t hc18).symm.trans hM
              refine cw_region ?_
              refine ow_ev ev_move ?_
              refine ow_ev ev_move ?_
              refine ow_imp (fun w hm => hm.freeze (r := r13) (by repeat (first | exact Upd.head | apply Upd.tail))) ?_
              refine ow_cons (st_bslice (α := List Word) 79 (fun _ => r13) ([y11.1] : List (List Word)) (OkL.cons (fun S w hs => ((Sk.imm (α := List Word) (r := r13) (x := y11.1) (by repeat (first | exact Has.head | apply Has.tail))) S w hs)) OkL.nil) (fun r19 => ?_))
              obtain ⟨hb21, hM⟩ := chk_some hM
              refine ow_cons (st_append (r := rout_1) (r2 := r19) (by intro r'; repeat (first | exact Upd.head | apply Upd.tail)) (Kn.trow (e := 79) (r := r19) (by repeat (first | exact Has.head | apply Has.tail))) (OkL.row (e := 79) (r := r19) (by repeat (first | exact Has.head | apply Has.tail))) (of_decide_eq_true hb21) (fun r20 => ?_))
              refine ow_ev ev_assign ?_
              refine ow_nil (hJ4 ((lout_1 ++ ([y11.1] : List (List Word))), r20) _ _ hM ⟨rfl, rfl, rfl, rfl, trivial⟩ (fun w hm => hm.reord))
            ·
              replace hM := (ite_f hc18).symm.trans hM
              refine cw_skip (hJ4 (lout_1, rout_1) _ _ hM ⟨rfl, rfl, rfl, rfl, trivial⟩ (fun w hm => hm.reord))
          ·
            clear hM
            intro g hM
            obtain ⟨lout_j4, rout_j4⟩ := g
            dsimp only at hM ⊢
            dsimp only [ref1_Lines_k4] at hM
            refine cw_region ?_
            refine ow_ev ev_move ?_
            obtain ⟨hI16, hM⟩ := chk_some hM
            refine ow_ev (ev_add (hr := fun hg => i64b_I64 hI16)) ?_
            refine ow_ev ev_assign ?_
            refine ow_nil (hK11 _ _ ?_); clear hK11
            dsimp only [ref1_Lines_k2] at hM
            refine cw_region ?_
            refine ow_ev ev_move ?_
            obtain ⟨hI17, hM⟩ := chk_some hM
            refine ow_ev (ev_add (hr := fun hg => i64b_I64 hI17)) ?_
            refine ow_ev ev_assign ?_
            refine ow_nil (hL1 (nn1, (lout_j4, line_1 + 1, (j_2 + 1)), rout_j4) _ _ (eqc hcont1 hM) (Nat.lt_succ_self _) ⟨rfl, rfl, rfl, rfl, trivial⟩ (fun w hm => hm.reord))
    ·
      replace hM := (ite_f hc4).symm.trans hM
      refine cw_exit (hK7 _ _ ?_); clear hK7
      dsimp only [ref1_Lines_k1] at hM
      refine cw_seq fun K21 hK21 => ?_
      refine cw_region ?_
      refine ow_ev ev_move ?_
      refine ow_ev ev_assign ?_
      refine ow_ev ev_assign ?_
      refine ow_ev ev_assign ?_
      refine ow_nil (hK21 _ _ ?_); clear hK21
      obtain rfl := some_inj hM
      refine cw_ret (kw_retc3 (fun w hm => post_of rout_1 hm rfl))

def ref1_Decimal_k2 (s_1 : Str) (n_1 : Int) (cont1 : (Int × Str) → Option Str) : Int → Option Str := fun d_j2 =>
  chk (i64b (d_j2 + 1)) <|
  (strSub (⟨[48, 49, 50, 51, 52, 53, 54, 55, 56, 57]⟩ : Str) d_j2 (d_j2 + 1)).bind fun q7 =>
  (strCat q7 s_1).bind fun q9 =>
  chk (decide (10 ≠ 0) && i64b (n_1.tdiv 10)) <|
  cont1 ((n_1.tdiv 10), q9)
def ref1_Decimal_k3 : Str → Option Str := fun s_j3 =>
  some s_j3
def ref1_Decimal_k1 (n0 : Int) (s_1 : Str) : Unit → Option Str := fun _ =>
  if decide (n0 < 0) then
    ((strCat (⟨[45]⟩ : Str) s_1).bind fun q15 =>
    ref1_Decimal_k3 q15)
  else
    (ref1_Decimal_k3 s_1)
def ref1_Decimal_b1 (n0 : Int) (cont1 : (Int × Str) → Option Str) : (Int × Str) → Option Str := fun (n_1, s_1) =>
  if decide (n_1 ≠ 0) then
    (if decide ((n_1.tmod 10) < 0) then
      (chk (i64b (-(n_1.tmod 10))) <|
      ref1_Decimal_k2 s_1 n_1 cont1 (-(n_1.tmod 10)))
    else
      (ref1_Decimal_k2 s_1 n_1 cont1 (n_1.tmod 10)))
  else
    (ref1_Decimal_k1 n0 s_1 ())
def ref1_Decimal_m (n0 : Int) : Option Str :=
  if (decide (0 ≤ n0) && decide (n0 < 10)) then
    (chk (i64b (n0 + 1)) <|
    (strSub (⟨[48, 49, 50, 51, 52, 53, 54, 55, 56, 57]⟩ : Str) n0 (n0 + 1)).bind fun q3 =>
    some q3)
  else
    (iter (ref1_Decimal_b1 n0) FUEL (n0, (⟨[]⟩ : Str)))
theorem ref1_Decimal_spec (S : Soup) (w : World) (n0 : Int) (y : Str) (hM : ref1_Decimal_m n0 = some y) (hS : ∀ k, S k → k < w.heap.size)  :
    Calls Tryd.prog 39 #[.int .i64 n0] w (Ret w (.string y.ba)) := by
  refine calls_cw (args := [_]) Tryd.func39 rfl ((pre_nil hS).start) rfl ?_
  unfold ref1_Decimal_m at hM
  refine cw_seq fun K1 hK1 => ?_
  refine cw_region ?_
  refine ow_ev ev_assign ?_
  refine ow_nil (hK1 _ _ ?_); clear hK1
  refine cw_seq fun K2 hK2 => ?_
  refine cw_seq fun K3 hK3 => ?_
  refine cw_region ?_
  refine ow_ev ev_move ?_
  refine ow_ev ev_geq ?_
  refine ow_ev ev_move ?_
  refine ow_evg rfl ev_move ?_
  refine ow_evg rfl ev_lss ?_
  refine ow_ev ev_and ?_
  refine ow_nil (hK3 _ _ ?_); clear hK3
  refine cw_cond rfl (fun hc1 => ?_) (fun hc1 => ?_)
  ·
    replace hM := (ite_t hc1).symm.trans hM
    refine cw_seq fun K4 hK4 => ?_
    refine cw_region ?_
    refine ow_ev ev_move ?_
    refine ow_ev ev_move ?_
    obtain ⟨hI2, hM⟩ := chk_some hM
    refine ow_ev (ev_add (hr := fun hg => i64b_I64 hI2)) ?_
    obtain ⟨q3, hq4, hM⟩ := bind_some hM
    refine ow_ev (ev_ssub (ol := some (.i64, n0)) (oh := some (.i64, (n0 + 1))) (fun _ => hq4)) ?_
    refine ow_ev ev_assign ?_
    refine ow_nil (hK4 _ _ ?_); clear hK4
    obtain rfl := some_inj hM
    refine cw_ret (kw_retc1 (fun w hm => ret_of hm rfl))
  ·
    replace hM := (ite_f hc1).symm.trans hM
    refine cw_skip (hK2 _ _ ?_); clear hK2
    refine cw_seq fun K5 hK5 => ?_
    refine cw_region ?_
    refine ow_ev ev_assign ?_
    refine ow_nil (hK5 _ _ ?_); clear hK5
    refine cw_seq fun K6 hK6 => ?_
    refine cw_region ?_
    refine ow_ev ev_move ?_
    refine ow_ev ev_lss ?_
    refine ow_ev ev_assign ?_
    refine ow_nil (hK6 _ _ ?_); clear hK6
    refine cw_seq fun K7 hK7 => ?_
    refine cw_block ?_
    refine cw_loop (γ := Nat × (Int × Str) × Unit) (env := fun (_, (n_1, s_1), _) => [(0, .v (.int .i64 n_1)), (3, .v (.string s_1.ba)), (4, .v (.bool (decide (n0 < 0))))]) (mem := fun (_, (n_1, s_1), _) => []) (R := fun g => iter (ref1_Decimal_b1 n0) g.1 g.2.1 = some y) (μ := fun g => g.1) (FUEL, (n0, (⟨[]⟩ : Str)), ()) hM ⟨rfl, rfl, rfl, trivial⟩ (fun w hm => hm.reord) ?_
    clear hM
    intro g hM KL1 hL1
    obtain ⟨nn1, ⟨n_1, s_1⟩, ⟨⟩⟩ := g
    dsimp only at hM ⊢
    obtain ⟨nn1, cont1, rfl, hcont1, hM⟩ := iter_open' hM
    dsimp only [ref1_Decimal_b1] at hM
    refine cw_seq fun K8 hK8 => ?_
    refine cw_seq fun K9 hK9 => ?_
    refine cw_region ?_
    refine ow_ev ev_move ?_
    refine ow_ev ev_neq ?_
    refine ow_nil (hK9 _ _ ?_); clear hK9
    refine cw_cond rfl (fun hc5 => ?_) (fun hc5 => ?_)
    ·
      replace hM := (ite_t hc5).symm.trans hM
      refine cw_skip (hK8 _ _ ?_); clear hK8
      refine cw_block ?_
      refine cw_seq fun K10 hK10 => ?_
      refine cw_region ?_
      refine ow_ev ev_move ?_
      refine ow_ev ev_rem ?_
      refine ow_ev ev_assign ?_
      refine ow_nil (hK10 _ _ ?_); clear hK10
      refine cw_cut (γ := Int × Unit) (env := fun (d_j2, _) => [(0, .v (.int .i64 n_1)), (3, .v (.string s_1.ba)), (4, .v (.bool (decide (n0 < 0)))), (5, .v (.int .i64 d_j2))]) (mem := fun (d_j2, _) => []) (R := fun g => ref1_Decimal_k2 s_1 n_1 cont1 g.1 = some y) ?_ ?_
      · intro KJ2 hJ2
        refine cw_seq fun K12 hK12 => ?_
        refine cw_region ?_
        refine ow_ev ev_move ?_
        refine ow_ev ev_lss ?_
        refine ow_nil (hK12 _ _ ?_); clear hK12
        refine cw_cond rfl (fun hc12 => ?_) (fun hc12 => ?_)
        ·
          replace hM := (ite_t hc12).symm.trans hM
          refine cw_region ?_
          refine ow_ev ev_move ?_
          obtain ⟨hI13, hM⟩ := chk_some hM
          refine ow_ev (ev_neg (hr := fun hg => i64b_I64 hI13)) ?_
          refine ow_ev ev_assign ?_
          refine ow_nil (hJ2 ((-(n_1.tmod 10)), ()) _ _ hM ⟨rfl, rfl, rfl, rfl, trivial⟩ (fun w hm => hm.reord))
        ·
          replace hM := (ite_f hc12).symm.trans hM
          refine cw_skip (hJ2 ((n_1.tmod 10), ()) _ _ hM ⟨rfl, rfl, rfl, rfl, trivial⟩ (fun w hm => hm.reord))
      ·
        clear hM
        intro g hM
        obtain ⟨d_j2, ⟨⟩⟩ := g
        dsimp only at hM ⊢
        dsimp only [ref1_Decimal_k2] at hM
        refine cw_seq fun K11 hK11 => ?_
        refine cw_region ?_
        refine ow_ev ev_move ?_
        refine ow_ev ev_move ?_
        obtain ⟨hI6, hM⟩ := chk_some hM
        refine ow_ev (ev_add (hr := fun hg => i64b_I64 hI6)) ?_
        obtain ⟨q7, hq8, hM⟩ := bind_some hM
        refine ow_ev (ev_ssub (ol := some (.i64, d_j2)) (oh := some (.i64, (d_j2 + 1))) (fun _ => hq8)) ?_
        refine ow_ev ev_move ?_
        obtain ⟨q9, hq10, hM⟩ := bind_some hM
        refine ow_ev (ev_scat (fun _ => hq10)) ?_
        refine ow_ev ev_assign ?_
        refine ow_nil (hK11 _ _ ?_); clear hK11
        refine cw_region ?_
        refine ow_ev ev_move ?_
        obtain ⟨hI11, hM⟩ := chk_some hM
        refine ow_ev (ev_quo' (hr := fun hg => quo_ok hI11)) ?_
        refine ow_ev ev_assign ?_
        refine ow_nil (hL1 (nn1, ((n_1.tdiv 10), q9), ()) _ _ (eqc hcont1 hM) (Nat.lt_succ_self _) ⟨rfl, rfl, rfl, trivial⟩ (fun w hm => hm.reord))
    ·
      replace hM := (ite_f hc5).symm.trans hM
      refine cw_exit (hK7 _ _ ?_); clear hK7
      dsimp only [ref1_Decimal_k1] at hM
      refine cw_cut (γ := Str × Unit) (env := fun (s_j3, _) => [(3, .v (.string s_j3.ba))]) (mem := fun (s_j3, _) => []) (R := fun g => ref1_Decimal_k3 g.1 = some y) ?_ ?_
      · intro KJ3 hJ3
        refine cw_seq fun K14 hK14 => ?_
        refine cw_region ?_
        refine ow_ev ev_move ?_
        refine ow_nil (hK14 _ _ ?_); clear hK14
        refine cw_cond rfl (fun hc14 => ?_) (fun hc14 => ?_)
        ·
          replace hM := (ite_t hc14).symm.trans hM
          refine cw_region ?_
          refine ow_ev ev_move ?_
          obtain ⟨q15, hq16, hM⟩ := bind_some hM
          refine ow_ev (ev_scat (fun _ => hq16)) ?_
          refine ow_ev ev_assign ?_
          refine ow_nil (hJ3 (q15, ()) _ _ hM ⟨rfl, trivial⟩ (fun w hm => hm.reord))
        ·
          replace hM := (ite_f hc14).symm.trans hM
          refine cw_skip (hJ3 (s_1, ()) _ _ hM ⟨rfl, trivial⟩ (fun w hm => hm.reord))
      ·
        clear hM
        intro g hM
        obtain ⟨s_j3, ⟨⟩⟩ := g
        dsimp only at hM ⊢
        dsimp only [ref1_Decimal_k3] at hM
        refine cw_seq fun K13 hK13 => ?_
        refine cw_region ?_
        refine ow_ev ev_move ?_
        refine ow_ev ev_assign ?_
        refine ow_nil (hK13 _ _ ?_); clear hK13
        obtain rfl := some_inj hM
        refine cw_ret (kw_retc1 (fun w hm => ret_of hm rfl))

end Go.Proofs.YtohhihdjdelckaaDoor
