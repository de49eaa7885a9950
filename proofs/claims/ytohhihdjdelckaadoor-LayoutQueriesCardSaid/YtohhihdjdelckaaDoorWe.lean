/- Models of functions, and that the code computes them. -/
import Derived.Test.YtohhihdjdelckaaDoorTypes
set_option linter.all false
namespace Go.Proofs.YtohhihdjdelckaaDoor
open Go.Dc Go.RowKit
set_option maxRecDepth 10000
def ref1_letter_m (c0 : Int) : Option Bool :=
  some ((decide (97 ≤ c0) && decide (c0 ≤ 122)) || (decide (65 ≤ c0) && decide (c0 ≤ 90)))
theorem ref1_letter_spec (S : Soup) (w : World) (c0 : Int) (y : Bool) (hM : ref1_letter_m c0 = some y) (hS : ∀ k, S k → k < w.heap.size)  :
    Calls Tryd.prog 96 #[.int .u8 c0] w (Ret w (.bool y)) := by
  refine calls_cw (args := [_]) Tryd.func96 rfl ((pre_nil hS).start) rfl ?_
  unfold ref1_letter_m at hM
  refine cw_seq fun K1 hK1 => ?_
  refine cw_region ?_
  refine ow_ev ev_assign ?_
  refine ow_nil (hK1 _ _ ?_); clear hK1
  refine cw_seq fun K2 hK2 => ?_
  refine cw_region ?_
  refine ow_ev ev_move ?_
  refine ow_ev ev_geq ?_
  refine ow_ev ev_move ?_
  refine ow_evg rfl ev_move ?_
  refine ow_evg rfl ev_leq ?_
  refine ow_ev ev_and ?_
  refine ow_ev ev_move ?_
  refine ow_evg rfl ev_move ?_
  refine ow_evg rfl ev_geq ?_
  refine ow_evg rfl ev_move ?_
  refine ow_evg rfl ev_move ?_
  refine ow_evg rfl ev_leq ?_
  refine ow_evg rfl ev_and ?_
  refine ow_ev ev_or ?_
  refine ow_ev ev_assign ?_
  refine ow_nil (hK2 _ _ ?_); clear hK2
  obtain rfl := some_inj hM
  refine cw_ret (kw_retc1 (fun w hm => ret_of hm rfl))

def ref1_digit_m (c0 : Int) : Option Bool :=
  some (decide (48 ≤ c0) && decide (c0 ≤ 57))
theorem ref1_digit_spec (S : Soup) (w : World) (c0 : Int) (y : Bool) (hM : ref1_digit_m c0 = some y) (hS : ∀ k, S k → k < w.heap.size)  :
    Calls Tryd.prog 97 #[.int .u8 c0] w (Ret w (.bool y)) := by
  refine calls_cw (args := [_]) Tryd.func97 rfl ((pre_nil hS).start) rfl ?_
  unfold ref1_digit_m at hM
  refine cw_seq fun K1 hK1 => ?_
  refine cw_region ?_
  refine ow_ev ev_assign ?_
  refine ow_nil (hK1 _ _ ?_); clear hK1
  refine cw_seq fun K2 hK2 => ?_
  refine cw_region ?_
  refine ow_ev ev_move ?_
  refine ow_ev ev_geq ?_
  refine ow_ev ev_move ?_
  refine ow_evg rfl ev_move ?_
  refine ow_evg rfl ev_leq ?_
  refine ow_ev ev_and ?_
  refine ow_ev ev_assign ?_
  refine ow_nil (hK2 _ _ ?_); clear hK2
  obtain rfl := some_inj hM
  refine cw_ret (kw_retc1 (fun w hm => ret_of hm rfl))

def ref1_Name_k1 : Unit → Option Bool := fun _ =>
  some true
def ref1_Name_b1 (s0 : Str) (cont1 : Nat → Option Bool) : Nat → Option Bool := fun i_1 =>
  if decide ((i_1 : Int) < (s0.l.length : Int)) then
    ((byteAt s0 (i_1 : Int)).bind fun c7 =>
    (ref1_letter_m c7).bind fun y9 =>
    (whn (!y9) 0 (byteAt s0 (i_1 : Int))).bind fun c11 =>
    (whn (!y9) default (ref1_digit_m c11)).bind fun y13 =>
    (whn ((!y9) && (!y13)) 0 (byteAt s0 (i_1 : Int))).bind fun c15 =>
    if (((!y9) && (!y13)) && decide (c15 ≠ 95)) then
      (some false)
    else
      (chk (i64b ((i_1 : Int) + 1)) <|
      cont1 (i_1 + 1)))
  else
    (ref1_Name_k1 ())
def ref1_Name_m (s0 : Str) : Option Bool :=
  (whn (!(decide ((s0.l.length : Int) < 1) || decide (12 < (s0.l.length : Int)))) 0 (byteAt s0 0)).bind fun c1 =>
  (whn (!(decide ((s0.l.length : Int) < 1) || decide (12 < (s0.l.length : Int)))) default (ref1_letter_m c1)).bind fun y3 =>
  if ((decide ((s0.l.length : Int) < 1) || decide (12 < (s0.l.length : Int))) || (!y3)) then
    (some false)
  else
    (iter (ref1_Name_b1 s0) FUEL 1)
theorem ref1_Name_spec (S : Soup) (w : World) (s0 : Str) (y : Bool) (hM : ref1_Name_m s0 = some y) (hS : ∀ k, S k → k < w.heap.size)  :
    Calls Tryd.prog 77 #[.string s0.ba] w (Ret w (.bool y)) := by
  refine calls_cw (args := [_]) Tryd.func77 rfl ((pre_nil hS).start) rfl ?_
  unfold ref1_Name_m at hM
  refine cw_seq fun K1 hK1 => ?_
  refine cw_region ?_
  refine ow_ev ev_assign ?_
  refine ow_nil (hK1 _ _ ?_); clear hK1
  refine cw_seq fun K2 hK2 => ?_
  refine cw_seq fun K3 hK3 => ?_
  refine cw_region ?_
  refine ow_ev ev_move ?_
  refine ow_ev ev_slen ?_
  refine ow_ev ev_lss ?_
  refine ow_ev ev_move ?_
  refine ow_evg rfl ev_move ?_
  refine ow_evg rfl ev_slen ?_
  refine ow_evg rfl ev_gtr ?_
  refine ow_ev ev_or ?_
  refine ow_ev ev_move ?_
  refine ow_evg rfl ev_move ?_
  obtain ⟨c1, hc_2, hM⟩ := bind_some hM
  refine ow_evg rfl (ev_sidx (whn_some hc_2)) ?_
  obtain ⟨y3, hy4, hM⟩ := bind_some hM
  refine ow_callg rfl (fun hg w hm => let ⟨S, hs⟩ := hm; ref1_letter_spec _ w c1 y3 (whn_some hy4 hg) (lend_lt hs) ) ?_
  refine ow_evg rfl ev_not ?_
  refine ow_ev ev_or ?_
  refine ow_nil (hK3 _ _ ?_); clear hK3
  refine cw_cond rfl (fun hc5 => ?_) (fun hc5 => ?_)
  ·
    replace hM := (ite_t hc5).symm.trans hM
    refine cw_seq fun K4 hK4 => ?_
    refine cw_region ?_
    refine ow_ev ev_assign ?_
    refine ow_nil (hK4 _ _ ?_); clear hK4
    obtain rfl := some_inj hM
    refine cw_ret (kw_retc1 (fun w hm => ret_of hm rfl))
  ·
    replace hM := (ite_f hc5).symm.trans hM
    refine cw_skip (hK2 _ _ ?_); clear hK2
    refine cw_seq fun K5 hK5 => ?_
    refine cw_seq fun K6 hK6 => ?_
    refine cw_region ?_
    refine ow_ev ev_assign ?_
    refine ow_nil (hK6 _ _ ?_); clear hK6
    refine cw_block ?_
    refine cw_loop (γ := Nat × Nat × Unit) (env := fun (_, i_1, _) => [(0, .v (.string s0.ba)), (3, .v (.int .i64 (i_1 : Int)))]) (mem := fun (_, i_1, _) => []) (R := fun g => iter (ref1_Name_b1 s0) g.1 g.2.1 = some y) (μ := fun g => g.1) (FUEL, 1, ()) hM ⟨rfl, rfl, trivial⟩ (fun w hm => hm.reord) ?_
    clear hM
    intro g hM KL1 hL1
    obtain ⟨nn1, i_1, ⟨⟩⟩ := g
    dsimp only at hM ⊢
    obtain ⟨nn1, cont1, rfl, hcont1, hM⟩ := iter_open' hM
    dsimp only [ref1_Name_b1] at hM
    refine cw_seq fun K7 hK7 => ?_
    refine cw_seq fun K8 hK8 => ?_
    refine cw_region ?_
    refine ow_ev ev_move ?_
    refine ow_ev ev_move ?_
    refine ow_ev ev_slen ?_
    refine ow_ev ev_lss ?_
    refine ow_nil (hK8 _ _ ?_); clear hK8
    refine cw_cond rfl (fun hc6 => ?_) (fun hc6 => ?_)
    ·
      replace hM := (ite_t hc6).symm.trans hM
      refine cw_skip (hK7 _ _ ?_); clear hK7
      refine cw_seq fun K9 hK9 => ?_
      refine cw_block ?_
      refine cw_seq fun K10 hK10 => ?_
      refine cw_region ?_
      refine ow_ev ev_move ?_
      refine ow_ev ev_move ?_
      obtain ⟨c7, hc_8, hM⟩ := bind_some hM
      refine ow_ev (ev_sidx (fun _ => hc_8)) ?_
      obtain ⟨y9, hy10, hM⟩ := bind_some hM
      refine ow_cons (st_callv (fun w hm => let ⟨S, hs⟩ := hm; ref1_letter_spec _ w c7 y9 hy10 (lend_lt hs) ) ?_)
      refine ow_ev ev_not ?_
      refine ow_ev ev_move ?_
      refine ow_evg rfl ev_move ?_
      refine ow_evg rfl ev_move ?_
      obtain ⟨c11, hc_12, hM⟩ := bind_some hM
      refine ow_evg rfl (ev_sidx (whn_some hc_12)) ?_
      obtain ⟨y13, hy14, hM⟩ := bind_some hM
      refine ow_callg rfl (fun hg w hm => let ⟨S, hs⟩ := hm; ref1_digit_spec _ w c11 y13 (whn_some hy14 hg) (lend_lt hs) ) ?_
      refine ow_evg rfl ev_not ?_
      refine ow_ev ev_and ?_
      refine ow_ev ev_move ?_
      refine ow_evg rfl ev_move ?_
      refine ow_evg rfl ev_move ?_
      obtain ⟨c15, hc_16, hM⟩ := bind_some hM
      refine ow_evg rfl (ev_sidx (whn_some hc_16)) ?_
      refine ow_evg rfl ev_neq ?_
      refine ow_ev ev_and ?_
      refine ow_nil (hK10 _ _ ?_); clear hK10
      refine cw_cond rfl (fun hc17 => ?_) (fun hc17 => ?_)
      ·
        replace hM := (ite_t hc17).symm.trans hM
        refine cw_seq fun K11 hK11 => ?_
        refine cw_region ?_
        refine ow_ev ev_assign ?_
        refine ow_nil (hK11 _ _ ?_); clear hK11
        obtain rfl := some_inj hM
        refine cw_ret (kw_retc1 (fun w hm => ret_of hm rfl))
      ·
        replace hM := (ite_f hc17).symm.trans hM
        refine cw_skip (hK9 _ _ ?_); clear hK9
        refine cw_region ?_
        refine ow_ev ev_move ?_
        obtain ⟨hI18, hM⟩ := chk_some hM
        refine ow_ev (ev_add (hr := fun hg => i64b_I64 hI18)) ?_
        refine ow_ev ev_assign ?_
        refine ow_nil (hL1 (nn1, (i_1 + 1), ()) _ _ (eqc hcont1 hM) (Nat.lt_succ_self _) ⟨rfl, rfl, trivial⟩ (fun w hm => hm.reord))
    ·
      replace hM := (ite_f hc6).symm.trans hM
      refine cw_exit (hK5 _ _ ?_); clear hK5
      dsimp only [ref1_Name_k1] at hM
      refine cw_seq fun K12 hK12 => ?_
      refine cw_region ?_
      refine ow_ev ev_assign ?_
      refine ow_nil (hK12 _ _ ?_); clear hK12
      obtain rfl := some_inj hM
      refine cw_ret (kw_retc1 (fun w hm => ret_of hm rfl))

def ref1_Decimal_k2 (s_1 : Str) (n_1 : Int) (cont1 : (Int × Str) → Option Str) : Int → Option Str := fun d_j2 =>
  chk (i64b (d_j2 + 1)) <|
  (strSub (⟨[48, 49, 50, 51, 52, 53, 54, 55, 56, 57]⟩ : Str) d_j2 (d_j2 + 1)).bind fun q7 =>
  (strCat q7 s_1).bind fun q9 =>
  chk (decide (10 ≠ 0) && i64b (n_1.tdiv 10)) <|
  cont1 ((n_1.tdiv 10), q9)
def ref1_Decimal_k3 : Str → Option Str := fun s_j3 =>
  some s_j3
def ref1_Decimal_k1 (n0 : Int) (s_1 : Str) : Unit → Option Str := fun _ =>
  if decide (n0 < 0) then
    ((strCat (⟨[45]⟩ : Str) s_1).bind fun q15 =>
    ref1_Decimal_k3 q15)
  else
    (ref1_Decimal_k3 s_1)
def ref1_Decimal_b1 (n0 : Int) (cont1 : (Int × Str) → Option Str) : (Int × Str) → Option Str := fun (n_1, s_1) =>
  if decide (n_1 ≠ 0) then
    (if decide ((n_1.tmod 10) < 0) then
      (chk (i64b (-(n_1.tmod 10))) <|
      ref1_Decimal_k2 s_1 n_1 cont1 (-(n_1.tmod 10)))
    else
      (ref1_Decimal_k2 s_1 n_1 cont1 (n_1.tmod 10)))
  else
    (ref1_Decimal_k1 n0 s_1 ())
def ref1_Decimal_m (n0 : Int) : Option Str :=
  if (decide (0 ≤ n0) && decide (n0 < 10)) then
    (chk (i64b (n0 + 1)) <|
    (strSub (⟨[48, 49, 50, 51, 52, 53, 54, 55, 56, 57]⟩ : Str) n0 (n0 + 1)).bind fun q3 =>
    some q3)
  else
    (iter (ref1_Decimal_b1 n0) FUEL (n0, (⟨[]⟩ : Str)))
theorem ref1_Decimal_spec (S : Soup) (w : World) (n0 : Int) (y : Str) (hM : ref1_Decimal_m n0 = some y) (hS : ∀ k, S k → k < w.heap.size)  :
    Calls Tryd.prog 39 #[.int .i64 n0] w (Ret w (.string y.ba)) := by
  refine calls_cw (args := [_]) Tryd.func39 rfl ((pre_nil hS).start) rfl ?_
  unfold ref1_Decimal_m at hM
  refine cw_seq fun K1 hK1 => ?_
  refine cw_region ?_
  refine ow_ev ev_assign ?_
  refine ow_nil (hK1 _ _ ?_); clear hK1
  refine cw_seq fun K2 hK2 => ?_
  refine cw_seq fun K3 hK3 => ?_
  refine cw_region ?_
  refine ow_ev ev_move ?_
  refine ow_ev ev_geq ?_
  refine ow_ev ev_move ?_
  refine ow_evg rfl ev_move ?_
  refine ow_evg rfl ev_lss ?_
  refine ow_ev ev_and ?_
  refine ow_nil (hK3 _ _ ?_); clear hK3
  refine cw_cond rfl (fun hc1 => ?_) (fun hc1 => ?_)
  ·
    replace hM := (ite_t hc1).symm.trans hM
    refine cw_seq fun K4 hK4 => ?_
    refine cw_region ?_
    refine ow_ev ev_move ?_
    refine ow_ev ev_move ?_
    obtain ⟨hI2, hM⟩ := chk_some hM
    refine ow_ev (ev_add (hr := fun hg => i64b_I64 hI2)) ?_
    obtain ⟨q3, hq4, hM⟩ := bind_some hM
    refine ow_ev (ev_ssub (ol := some (.i64, n0)) (oh := some (.i64, (n0 + 1))) (fun _ => hq4)) ?_
    refine ow_ev ev_assign ?_
    refine ow_nil (hK4 _ _ ?_); clear hK4
    obtain rfl := some_inj hM
    refine cw_ret (kw_retc1 (fun w hm => ret_of hm rfl))
  ·
    replace hM := (ite_f hc1).symm.trans hM
    refine cw_skip (hK2 _ _ ?_); clear hK2
    refine cw_seq fun K5 hK5 => ?_
    refine cw_region ?_
    refine ow_ev ev_assign ?_
    refine ow_nil (hK5 _ _ ?_); clear hK5
    refine cw_seq fun K6 hK6 => ?_
    refine cw_region ?_
    refine ow_ev ev_move ?_
    refine ow_ev ev_lss ?_
    refine ow_ev ev_assign ?_
    refine ow_nil (hK6 _ _ ?_); clear hK6
    refine cw_seq fun K7 hK7 => ?_
    refine cw_block ?_
    refine cw_loop (γ := Nat × (Int × Str) × Unit) (env := fun (_, (n_1, s_1), _) => [(0, .v (.int .i64 n_1)), (3, .v (.string s_1.ba)), (4, .v (.bool (decide (n0 < 0))))]) (mem := fun (_, (n_1, s_1), _) => []) (R := fun g => iter (ref1_Decimal_b1 n0) g.1 g.2.1 = some y) (μ := fun g => g.1) (FUEL, (n0, (⟨[]⟩ : Str)), ()) hM ⟨rfl, rfl, rfl, trivial⟩ (fun w hm => hm.reord) ?_
    clear hM
    intro g hM KL1 hL1
    obtain ⟨nn1, ⟨n_1, s_1⟩, ⟨⟩⟩ := g
    dsimp only at hM ⊢
    obtain ⟨nn1, cont1, rfl, hcont1, hM⟩ := iter_open' hM
    dsimp only [ref1_Decimal_b1] at hM
    refine cw_seq fun K8 hK8 => ?_
    refine cw_seq fun K9 hK9 => ?_
    refine cw_region ?_
    refine ow_ev ev_move ?_
    refine ow_ev ev_neq ?_
    refine ow_nil (hK9 _ _ ?_); clear hK9
    refine cw_cond rfl (fun hc5 => ?_) (fun hc5 => ?_)
    ·
      replace hM := (ite_t hc5).symm.trans hM
      refine cw_skip (hK8 _ _ ?_); clear hK8
      refine cw_block ?_
      refine cw_seq fun K10 hK10 => ?_
      refine cw_region ?_
      refine ow_ev ev_move ?_
      refine ow_ev ev_rem ?_
      refine ow_ev ev_assign ?_
      refine ow_nil (hK10 _ _ ?_); clear hK10
      refine cw_cut (γ := Int × Unit) (env := fun (d_j2, _) => [(0, .v (.int .i64 n_1)), (3, .v (.string s_1.ba)), (4, .v (.bool (decide (n0 < 0)))), (5, .v (.int .i64 d_j2))]) (mem := fun (d_j2, _) => []) (R := fun g => ref1_Decimal_k2 s_1 n_1 cont1 g.1 = some y) ?_ ?_
      · intro KJ2 hJ2
        refine cw_seq fun K12 hK12 => ?_
        refine cw_region ?_
        refine ow_ev ev_move ?_
        refine ow_ev ev_lss ?_
        refine ow_nil (hK12 _ _ ?_); clear hK12
        refine cw_cond rfl (fun hc12 => ?_) (fun hc12 => ?_)
        ·
          replace hM := (ite_t hc12).symm.trans hM
          refine cw_region ?_
          refine ow_ev ev_move ?_
          obtain ⟨hI13, hM⟩ := chk_some hM
          refine ow_ev (ev_neg (hr := fun hg => i64b_I64 hI13)) ?_
          refine ow_ev ev_assign ?_
          refine ow_nil (hJ2 ((-(n_1.tmod 10)), ()) _ _ hM ⟨rfl, rfl, rfl, rfl, trivial⟩ (fun w hm => hm.reord))
        ·
          replace hM := (ite_f hc12).symm.trans hM
          refine cw_skip (hJ2 ((n_1.tmod 10), ()) _ _ hM ⟨rfl, rfl, rfl, rfl, trivial⟩ (fun w hm => hm.reord))
      ·
        clear hM
        intro g hM
        obtain ⟨d_j2, ⟨⟩⟩ := g
        dsimp only at hM ⊢
        dsimp only [ref1_Decimal_k2] at hM
        refine cw_seq fun K11 hK11 => ?_
        refine cw_region ?_
        refine ow_ev ev_move ?_
        refine ow_ev ev_move ?_
        obtain ⟨hI6, hM⟩ := chk_some hM
        refine ow_ev (ev_add (hr := fun hg => i64b_I64 hI6)) ?_
        obtain ⟨q7, hq8, hM⟩ := bind_some hM
        refine ow_ev (ev_ssub (ol := some (.i64, d_j2)) (oh := some (.i64, (d_j2 + 1))) (fun _ => hq8)) ?_
        refine ow_ev ev_move ?_
        obtain ⟨q9, hq10, hM⟩ := bind_some hM
        refine ow_ev (ev_scat (fun _ => hq10)) ?_
        refine ow_ev ev_assign ?_
        refine ow_nil (hK11 _ _ ?_); clear hK11
        refine cw_region ?_
        refine ow_ev ev_move ?_
        obtain ⟨hI11, hM⟩ := chk_some hM
        refine ow_ev (ev_quo' (hr := fun hg => quo_ok hI11)) ?_
        refine ow_ev ev_assign ?_
        refine ow_nil (hL1 (nn1, ((n_1.tdiv 10), q9), ()) _ _ (eqc hcont1 hM) (Nat.lt_succ_self _) ⟨rfl, rfl, rfl, trivial⟩ (fun w hm => hm.reord))
    ·
      replace hM := (ite_f hc5).symm.trans hM
      refine cw_exit (hK7 _ _ ?_); clear hK7
      dsimp only [ref1_Decimal_k1] at hM
      refine cw_cut (γ := Str × Unit) (env := fun (s_j3, _) => [(3, .v (.string s_j3.ba))]) (mem := fun (s_j3, _) => []) (R := fun g => ref1_Decimal_k3 g.1 = some y) ?_ ?_
      · intro KJ3 hJ3
        refine cw_seq fun K14 hK14 => ?_
        refine cw_region ?_
        refine ow_ev ev_move ?_
        refine ow_nil (hK14 _ _ ?_); clear hK14
        refine cw_cond rfl (fun hc14 => ?_) (fun hc14 => ?_)
        ·
          replace hM := (ite_t hc14).symm.trans hM
          refine cw_region ?_
          refine ow_ev ev_move ?_
          obtain ⟨q15, hq16, hM⟩ := bind_some hM
          refine ow_ev (ev_scat (fun _ => hq16)) ?_
          refine ow_ev ev_assign ?_
          refine ow_nil (hJ3 (q15, ()) _ _ hM ⟨rfl, trivial⟩ (fun w hm => hm.reord))
        ·
          replace hM := (ite_f hc14).symm.trans hM
          refine cw_skip (hJ3 (s_1, ()) _ _ hM ⟨rfl, trivial⟩ (fun w hm => hm.reord))
      ·
        clear hM
        intro g hM
        obtain ⟨s_j3, ⟨⟩⟩ := g
        dsimp only at hM ⊢
        dsimp only [ref1_Decimal_k3] at hM
        refine cw_seq fun K13 hK13 => ?_
        refine cw_region ?_
        refine ow_ev ev_move ?_
        refine ow_ev ev_assign ?_
        refine ow_nil (hK13 _ _ ?_); clear hK13
        obtain rfl := some_inj hM
        refine cw_ret (kw_retc1 (fun w hm => ret_of hm rfl))

end Go.Proofs.YtohhihdjdelckaaDoor
