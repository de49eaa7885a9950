/- Models of functions, and that the code computes them. -/
import Derived.Test.YtfbpbmnlbcnanaaDoorTypes
set_option linter.all false
namespace Go.Proofs.YtfbpbmnlbcnanaaDoor
open Go.Dc Go.RowKit
set_option maxRecDepth 10000
def words_class_k1 (c0 : Int) : Bool → Option Int := fun t3_j1 =>
  if t3_j1 then
    (some 1)
  else
    (if decide (c0 = 10) then
      (some 2)
    else
      (if decide (c0 = 35) then
        (some 3)
      else
        (if (decide (33 ≤ c0) && decide (c0 ≤ 126)) then
          (some 4)
        else
          (some 0))))
def words_class_m (c0 : Int) : Option Int :=
  if decide (c0 = 32) then
    (words_class_k1 c0 (decide (c0 = 32)))
  else
    (words_class_k1 c0 (decide (c0 = 9)))
theorem words_class_spec (S : Soup) (w : World) (c0 : Int) (y : Int) (hM : words_class_m c0 = some y) (hS : ∀ k, S k → k < w.heap.size)  :
    Calls Tryd.prog 44 #[.int .u8 c0] w (Ret w (.int .i64 y)) := by
  refine calls_cw (args := [_]) Tryd.func44 rfl ((pre_nil hS).start) rfl ?_
  unfold words_class_m at hM
  refine cw_seq fun K1 hK1 => ?_
  refine cw_region ?_
  refine ow_ev ev_assign ?_
  refine ow_nil (hK1 _ _ ?_); clear hK1
  refine cw_seq fun K2 hK2 => ?_
  refine cw_block ?_
  refine cw_cut (γ := Bool × Unit) (env := fun (t3_j1, _) => [(0, .v (.int .u8 c0)), (3, .v (.bool t3_j1))]) (mem := fun (t3_j1, _) => []) (R := fun g => words_class_k1 c0 g.1 = some y) ?_ ?_
  · intro KJ1 hJ1
    refine cw_seq fun K11 hK11 => ?_
    refine cw_region ?_
    refine ow_ev ev_move ?_
    refine ow_ev ev_eql ?_
    refine ow_ev ev_assign ?_
    refine ow_nil (hK11 _ _ ?_); clear hK11
    refine cw_cond rfl (fun hc5 => ?_) (fun hc5 => ?_)
    ·
      replace hM := (ite_t hc5).symm.trans hM
      refine cw_skip (hJ1 ((decide (c0 = 32)), ()) _ _ hM ⟨rfl, rfl, trivial⟩ (fun w hm => hm.reord))
    ·
      replace hM := (ite_f hc5).symm.trans hM
      refine cw_region ?_
      refine ow_ev ev_move ?_
      refine ow_ev ev_eql ?_
      refine ow_ev ev_assign ?_
      refine ow_nil (hJ1 ((decide (c0 = 9)), ()) _ _ hM ⟨rfl, rfl, trivial⟩ (fun w hm => hm.reord))
  ·
    clear hM
    intro g hM
    obtain ⟨t3_j1, ⟨⟩⟩ := g
    dsimp only at hM ⊢
    dsimp only [words_class_k1] at hM
    refine cw_cond rfl (fun hc1 => ?_) (fun hc1 => ?_)
    ·
      replace hM := (ite_t hc1).symm.trans hM
      refine cw_seq fun K3 hK3 => ?_
      refine cw_region ?_
      refine ow_ev ev_assign ?_
      refine ow_nil (hK3 _ _ ?_); clear hK3
      obtain rfl := some_inj hM
      refine cw_ret (kw_retc1 (fun w hm => ret_of hm rfl))
    ·
      replace hM := (ite_f hc1).symm.trans hM
      refine cw_seq fun K4 hK4 => ?_
      refine cw_region ?_
      refine ow_ev ev_move ?_
      refine ow_ev ev_eql ?_
      refine ow_ev ev_assign ?_
      refine ow_nil (hK4 _ _ ?_); clear hK4
      refine cw_cond rfl (fun hc2 => ?_) (fun hc2 => ?_)
      ·
        replace hM := (ite_t hc2).symm.trans hM
        refine cw_seq fun K5 hK5 => ?_
        refine cw_region ?_
        refine ow_ev ev_assign ?_
        refine ow_nil (hK5 _ _ ?_); clear hK5
        obtain rfl := some_inj hM
        refine cw_ret (kw_retc1 (fun w hm => ret_of hm rfl))
      ·
        replace hM := (ite_f hc2).symm.trans hM
        refine cw_seq fun K6 hK6 => ?_
        refine cw_region ?_
        refine ow_ev ev_move ?_
        refine ow_ev ev_eql ?_
        refine ow_ev ev_assign ?_
        refine ow_nil (hK6 _ _ ?_); clear hK6
        refine cw_cond rfl (fun hc3 => ?_) (fun hc3 => ?_)
        ·
          replace hM := (ite_t hc3).symm.trans hM
          refine cw_seq fun K7 hK7 => ?_
          refine cw_region ?_
          refine ow_ev ev_assign ?_
          refine ow_nil (hK7 _ _ ?_); clear hK7
          obtain rfl := some_inj hM
          refine cw_ret (kw_retc1 (fun w hm => ret_of hm rfl))
        ·
          replace hM := (ite_f hc3).symm.trans hM
          refine cw_seq fun K8 hK8 => ?_
          refine cw_region ?_
          refine ow_ev ev_move ?_
          refine ow_ev ev_geq ?_
          refine ow_ev ev_move ?_
          refine ow_evg rfl ev_move ?_
          refine ow_evg rfl ev_leq ?_
          refine ow_ev ev_and ?_
          refine ow_ev ev_assign ?_
          refine ow_nil (hK8 _ _ ?_); clear hK8
          refine cw_cond rfl (fun hc4 => ?_) (fun hc4 => ?_)
          ·
            replace hM := (ite_t hc4).symm.trans hM
            refine cw_seq fun K9 hK9 => ?_
            refine cw_region ?_
            refine ow_ev ev_assign ?_
            refine ow_nil (hK9 _ _ ?_); clear hK9
            obtain rfl := some_inj hM
            refine cw_ret (kw_retc1 (fun w hm => ret_of hm rfl))
          ·
            replace hM := (ite_f hc4).symm.trans hM
            refine cw_skip (hK2 _ _ ?_); clear hK2
            refine cw_seq fun K10 hK10 => ?_
            refine cw_region ?_
            refine ow_ev ev_assign ?_
            refine ow_nil (hK10 _ _ ?_); clear hK10
            obtain rfl := some_inj hM
            refine cw_ret (kw_retc1 (fun w hm => ret_of hm rfl))

def words_isDigit_m (c0 : Int) : Option Bool :=
  some (decide (48 ≤ c0) && decide (c0 ≤ 57))
theorem words_isDigit_spec (S : Soup) (w : World) (c0 : Int) (y : Bool) (hM : words_isDigit_m c0 = some y) (hS : ∀ k, S k → k < w.heap.size)  :
    Calls Tryd.prog 31 #[.int .u8 c0] w (Ret w (.bool y)) := by
  refine calls_cw (args := [_]) Tryd.func31 rfl ((pre_nil hS).start) rfl ?_
  unfold words_isDigit_m at hM
  refine cw_seq fun K1 hK1 => ?_
  refine cw_region ?_
  refine ow_ev ev_assign ?_
  refine ow_nil (hK1 _ _ ?_); clear hK1
  refine cw_seq fun K2 hK2 => ?_
  refine cw_region ?_
  refine ow_ev ev_move ?_
  refine ow_ev ev_geq ?_
  refine ow_ev ev_move ?_
  refine ow_evg rfl ev_move ?_
  refine ow_evg rfl ev_leq ?_
  refine ow_ev ev_and ?_
  refine ow_ev ev_assign ?_
  refine ow_nil (hK2 _ _ ?_); clear hK2
  obtain rfl := some_inj hM
  refine cw_ret (kw_retc1 (fun w hm => ret_of hm rfl))

def words_isLetter_m (c0 : Int) : Option Bool :=
  some ((decide (65 ≤ c0) && decide (c0 ≤ 90)) || (decide (97 ≤ c0) && decide (c0 ≤ 122)))
theorem words_isLetter_spec (S : Soup) (w : World) (c0 : Int) (y : Bool) (hM : words_isLetter_m c0 = some y) (hS : ∀ k, S k → k < w.heap.size)  :
    Calls Tryd.prog 33 #[.int .u8 c0] w (Ret w (.bool y)) := by
  refine calls_cw (args := [_]) Tryd.func33 rfl ((pre_nil hS).start) rfl ?_
  unfold words_isLetter_m at hM
  refine cw_seq fun K1 hK1 => ?_
  refine cw_region ?_
  refine ow_ev ev_assign ?_
  refine ow_nil (hK1 _ _ ?_); clear hK1
  refine cw_seq fun K2 hK2 => ?_
  refine cw_region ?_
  refine ow_ev ev_move ?_
  refine ow_ev ev_geq ?_
  refine ow_ev ev_move ?_
  refine ow_evg rfl ev_move ?_
  refine ow_evg rfl ev_leq ?_
  refine ow_ev ev_and ?_
  refine ow_ev ev_move ?_
  refine ow_evg rfl ev_move ?_
  refine ow_evg rfl ev_geq ?_
  refine ow_evg rfl ev_move ?_
  refine ow_evg rfl ev_move ?_
  refine ow_evg rfl ev_leq ?_
  refine ow_evg rfl ev_and ?_
  refine ow_ev ev_or ?_
  refine ow_ev ev_assign ?_
  refine ow_nil (hK2 _ _ ?_); clear hK2
  obtain rfl := some_inj hM
  refine cw_ret (kw_retc1 (fun w hm => ret_of hm rfl))

def words_Name_k1 : Unit → Option Bool := fun _ =>
  some true
def words_Name_b1 (s0 : Str) (cont1 : Nat → Option Bool) : Nat → Option Bool := fun t20_1 =>
  if decide ((t20_1 : Int) < (s0.l.length : Int)) then
    ((byteAt s0 (t20_1 : Int)).bind fun c8 =>
    (words_isLetter_m c8).bind fun y10 =>
    (whn (!y10) 0 (byteAt s0 (t20_1 : Int))).bind fun c12 =>
    (whn (!y10) default (words_isDigit_m c12)).bind fun y14 =>
    (whn ((!y10) && (!y14)) 0 (byteAt s0 (t20_1 : Int))).bind fun c16 =>
    if (((!y10) && (!y14)) && decide (c16 ≠ 95)) then
      (some false)
    else
      (cont1 (t20_1 + 1)))
  else
    (words_Name_k1 ())
def words_Name_m (s0 : Str) : Option Bool :=
  (whn (!(decide ((s0.l.length : Int) < 1) || decide (12 < (s0.l.length : Int)))) 0 (byteAt s0 0)).bind fun c1 =>
  (whn (!(decide ((s0.l.length : Int) < 1) || decide (12 < (s0.l.length : Int)))) default (words_isLetter_m c1)).bind fun y3 =>
  if ((decide ((s0.l.length : Int) < 1) || decide (12 < (s0.l.length : Int))) || (!y3)) then
    (some false)
  else
    (chk (decide ((s0.l.length : Int) ≤ 9223372036854775807)) <|
    iter (words_Name_b1 s0) FUEL 0)
theorem words_Name_spec (S : Soup) (w : World) (s0 : Str) (y : Bool) (hM : words_Name_m s0 = some y) (hS : ∀ k, S k → k < w.heap.size)  :
    Calls Tryd.prog 19 #[.string s0.ba] w (Ret w (.bool y)) := by
  refine calls_cw (args := [_]) Tryd.func19 rfl ((pre_nil hS).start) rfl ?_
  unfold words_Name_m at hM
  refine cw_seq fun K1 hK1 => ?_
  refine cw_region ?_
  refine ow_ev ev_assign ?_
  refine ow_nil (hK1 _ _ ?_); clear hK1
  refine cw_seq fun K2 hK2 => ?_
  refine cw_seq fun K3 hK3 => ?_
  refine cw_region ?_
  refine ow_ev ev_move ?_
  refine ow_ev ev_slen ?_
  refine ow_ev ev_lss ?_
  refine ow_ev ev_move ?_
  refine ow_evg rfl ev_move ?_
  refine ow_evg rfl ev_slen ?_
  refine ow_evg rfl ev_gtr ?_
  refine ow_ev ev_or ?_
  refine ow_ev ev_move ?_
  refine ow_evg rfl ev_move ?_
  obtain ⟨c1, hc_2, hM⟩ := bind_some hM
  refine ow_evg rfl (ev_sidx (whn_some hc_2)) ?_
  obtain ⟨y3, hy4, hM⟩ := bind_some hM
  refine ow_callg rfl (fun hg w hm => let ⟨S, hs⟩ := hm; words_isLetter_spec _ w c1 y3 (whn_some hy4 hg) (lend_lt hs) ) ?_
  refine ow_evg rfl ev_not ?_
  refine ow_ev ev_or ?_
  refine ow_nil (hK3 _ _ ?_); clear hK3
  refine cw_cond rfl (fun hc5 => ?_) (fun hc5 => ?_)
  ·
    replace hM := (ite_t hc5).symm.trans hM
    refine cw_seq fun K4 hK4 => ?_
    refine cw_region ?_
    refine ow_ev ev_assign ?_
    refine ow_nil (hK4 _ _ ?_); clear hK4
    obtain rfl := some_inj hM
    refine cw_ret (kw_retc1 (fun w hm => ret_of hm rfl))
  ·
    replace hM := (ite_f hc5).symm.trans hM
    refine cw_skip (hK2 _ _ ?_); clear hK2
    refine cw_seq fun K5 hK5 => ?_
    refine cw_seq fun K6 hK6 => ?_
    refine cw_region ?_
    refine ow_ev ev_move ?_
    obtain ⟨hl6, hM⟩ := chk_some hM
    replace hl6 := of_decide_eq_true hl6
    refine ow_ev ev_slen ?_
    refine ow_ev ev_move ?_
    refine ow_nil (hK6 _ _ ?_); clear hK6
    refine cw_block ?_
    refine cw_loop (γ := Nat × Nat × Unit) (env := fun (_, t20_1, _) => [(0, .v (.string s0.ba)), (19, .v (.int .i64 (s0.l.length : Int))), (20, .v (.int .i64 (t20_1 : Int)))]) (mem := fun (_, t20_1, _) => []) (R := fun g => iter (words_Name_b1 s0) g.1 g.2.1 = some y) (μ := fun g => g.1) (FUEL, 0, ()) hM ⟨rfl, rfl, rfl, trivial⟩ (fun w hm => hm.reord) ?_
    clear hM
    intro g hM KL1 hL1
    obtain ⟨nn1, t20_1, ⟨⟩⟩ := g
    dsimp only at hM ⊢
    obtain ⟨nn1, cont1, rfl, hcont1, hM⟩ := iter_open' hM
    dsimp only [words_Name_b1] at hM
    refine cw_seq fun K7 hK7 => ?_
    refine cw_region ?_
    refine ow_ev ev_lss ?_
    refine ow_nil (hK7 _ _ ?_); clear hK7
    refine cw_seq fun K8 hK8 => ?_
    refine cw_cond rfl (fun hc7 => ?_) (fun hc7 => ?_)
    ·
      replace hM := (ite_t hc7).symm.trans hM
      have hc7d := of_decide_eq_true hc7
      refine cw_skip (hK8 _ _ ?_); clear hK8
      refine cw_seq fun K9 hK9 => ?_
      refine cw_block ?_
      refine cw_seq fun K10 hK10 => ?_
      refine cw_region ?_
      refine ow_ev ev_move ?_
      refine ow_ev ev_assign ?_
      refine ow_nil (hK10 _ _ ?_); clear hK10
      refine cw_seq fun K11 hK11 => ?_
      refine cw_region ?_
      refine ow_ev ev_move ?_
      refine ow_ev ev_move ?_
      obtain ⟨c8, hc_9, hM⟩ := bind_some hM
      refine ow_ev (ev_sidx (fun _ => hc_9)) ?_
      obtain ⟨y10, hy11, hM⟩ := bind_some hM
      refine ow_cons (st_callv (fun w hm => let ⟨S, hs⟩ := hm; words_isLetter_spec _ w c8 y10 hy11 (lend_lt hs) ) ?_)
      refine ow_ev ev_not ?_
      refine ow_ev ev_move ?_
      refine ow_evg rfl ev_move ?_
      refine ow_evg rfl ev_move ?_
      obtain ⟨c12, hc_13, hM⟩ := bind_some hM
      refine ow_evg rfl (ev_sidx (whn_some hc_13)) ?_
      obtain ⟨y14, hy15, hM⟩ := bind_some hM
      refine ow_callg rfl (fun hg w hm => let ⟨S, hs⟩ := hm; words_isDigit_spec _ w c12 y14 (whn_some hy15 hg) (lend_lt hs) ) ?_
      refine ow_evg rfl ev_not ?_
      refine ow_ev ev_and ?_
      refine ow_ev ev_move ?_
      refine ow_evg rfl ev_move ?_
      refine ow_evg rfl ev_move ?_
      obtain ⟨c16, hc_17, hM⟩ := bind_some hM
      refine ow_evg rfl (ev_sidx (whn_some hc_17)) ?_
      refine ow_evg rfl ev_neq ?_
      refine ow_ev ev_and ?_
      refine ow_nil (hK11 _ _ ?_); clear hK11
      refine cw_cond rfl (fun hc18 => ?_) (fun hc18 => ?_)
      ·
        replace hM := (ite_t hc18).symm.trans hM
        refine cw_seq fun K12 hK12 => ?_
        refine cw_region ?_
        refine ow_ev ev_assign ?_
        refine ow_nil (hK12 _ _ ?_); clear hK12
        obtain rfl := some_inj hM
        refine cw_ret (kw_retc1 (fun w hm => ret_of hm rfl))
      ·
        replace hM := (ite_f hc18).symm.trans hM
        refine cw_skip (hK9 _ _ ?_); clear hK9
        refine cw_region ?_
        refine ow_ev (ev_add (hr := fun _ => by unfold I64; omega)) ?_
        refine ow_ev ev_move ?_
        refine ow_nil (hL1 (nn1, (t20_1 + 1), ()) _ _ (eqc hcont1 hM) (Nat.lt_succ_self _) ⟨rfl, rfl, rfl, trivial⟩ (fun w hm => hm.reord))
    ·
      replace hM := (ite_f hc7).symm.trans hM
      refine cw_exit (hK5 _ _ ?_); clear hK5
      dsimp only [words_Name_k1] at hM
      refine cw_seq fun K13 hK13 => ?_
      refine cw_region ?_
      refine ow_ev ev_assign ?_
      refine ow_nil (hK13 _ _ ?_); clear hK13
      obtain rfl := some_inj hM
      refine cw_ret (kw_retc1 (fun w hm => ret_of hm rfl))

end Go.Proofs.YtfbpbmnlbcnanaaDoor
