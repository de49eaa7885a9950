/- Models of functions, and that the code computes them. -/
import Derived.Test.YtohhihdjdelckaaDoorWa
set_option linter.all false
namespace Go.Proofs.YtohhihdjdelckaaDoor
open Go.Dc Go.RowKit
set_option maxRecDepth 10000
def stringslite_HasPrefix_m (s0 : Str) (prefix0 : Str) : Option Bool :=
  (whn (decide ((prefix0.l.length : Int) ≤ (s0.l.length : Int))) default (strSub s0 0 (prefix0.l.length : Int))).bind fun q1 =>
  some (decide ((prefix0.l.length : Int) ≤ (s0.l.length : Int)) && decide (q1 = prefix0))
theorem stringslite_HasPrefix_spec (S : Soup) (w : World) (s0 : Str) (prefix0 : Str) (y : Bool) (hM : stringslite_HasPrefix_m s0 prefix0 = some y) (hS : ∀ k, S k → k < w.heap.size)  :
    Calls Tryd.prog 126 #[.string s0.ba, .string prefix0.ba] w (Ret w (.bool y)) := by
  refine calls_cw (args := [_, _]) Tryd.func126 rfl ((pre_nil hS).start) rfl ?_
  unfold stringslite_HasPrefix_m at hM
  refine cw_seq fun K1 hK1 => ?_
  refine cw_region ?_
  refine ow_ev ev_assign ?_
  refine ow_nil (hK1 _ _ ?_); clear hK1
  refine cw_seq fun K2 hK2 => ?_
  refine cw_region ?_
  refine ow_ev ev_move ?_
  refine ow_ev ev_slen ?_
  refine ow_ev ev_move ?_
  refine ow_ev ev_slen ?_
  refine ow_ev ev_geq ?_
  refine ow_ev ev_move ?_
  refine ow_evg rfl ev_move ?_
  refine ow_evg rfl ev_move ?_
  refine ow_evg rfl ev_slen ?_
  obtain ⟨q1, hq2, hM⟩ := bind_some hM
  refine ow_evg rfl (ev_ssub (ol := none) (oh := some (.i64, (prefix0.l.length : Int))) (whn_some hq2)) ?_
  refine ow_evg rfl ev_move ?_
  refine ow_evg rfl ev_str_eql ?_
  refine ow_ev ev_and ?_
  refine ow_ev ev_assign ?_
  refine ow_nil (hK2 _ _ ?_); clear hK2
  obtain rfl := some_inj hM
  refine cw_ret (kw_retc1 (fun w hm => ret_of hm rfl))

def stringslite_CutPrefix_m (s0 : Str) (prefix0 : Str) : Option (Str × Bool) :=
  (stringslite_HasPrefix_m s0 prefix0).bind fun y1 =>
  if (!y1) then
    (some (s0, false))
  else
    ((strSub s0 (prefix0.l.length : Int) (s0.l.length : Int)).bind fun q4 =>
    some (q4, true))
theorem stringslite_CutPrefix_spec (S : Soup) (w : World) (s0 : Str) (prefix0 : Str) (y : Str × Bool) (hM : stringslite_CutPrefix_m s0 prefix0 = some y) (hS : ∀ k, S k → k < w.heap.size)  :
    Calls Tryd.prog 116 #[.string s0.ba, .string prefix0.ba] w (Ret w (.tuple #[.string y.1.ba, .bool y.2])) := by
  refine calls_cw (args := [_, _]) Tryd.func116 rfl ((pre_nil hS).start) rfl ?_
  unfold stringslite_CutPrefix_m at hM
  refine cw_seq fun K1 hK1 => ?_
  refine cw_region ?_
  refine ow_ev ev_assign ?_
  refine ow_ev ev_assign ?_
  refine ow_nil (hK1 _ _ ?_); clear hK1
  refine cw_seq fun K2 hK2 => ?_
  refine cw_seq fun K3 hK3 => ?_
  refine cw_region ?_
  refine ow_ev ev_move ?_
  refine ow_ev ev_move ?_
  obtain ⟨y1, hy2, hM⟩ := bind_some hM
  refine ow_cons (st_callv (fun w hm => let ⟨S, hs⟩ := hm; stringslite_HasPrefix_spec _ w s0 prefix0 y1 hy2 (lend_lt hs) ) ?_)
  refine ow_ev ev_not ?_
  refine ow_nil (hK3 _ _ ?_); clear hK3
  refine cw_cond rfl (fun hc3 => ?_) (fun hc3 => ?_)
  ·
    replace hM := (ite_t hc3).symm.trans hM
    refine cw_seq fun K4 hK4 => ?_
    refine cw_region ?_
    refine ow_ev ev_move ?_
    refine ow_ev ev_assign ?_
    refine ow_ev ev_assign ?_
    refine ow_nil (hK4 _ _ ?_); clear hK4
    obtain rfl := some_inj hM
    refine cw_ret (kw_retc2 (fun w hm => ret_of hm rfl))
  ·
    replace hM := (ite_f hc3).symm.trans hM
    refine cw_skip (hK2 _ _ ?_); clear hK2
    refine cw_seq fun K5 hK5 => ?_
    refine cw_region ?_
    refine ow_ev ev_move ?_
    refine ow_ev ev_move ?_
    refine ow_ev ev_slen ?_
    obtain ⟨q4, hq5, hM⟩ := bind_some hM
    refine ow_ev (ev_ssub (ol := some (.i64, (prefix0.l.length : Int))) (oh := none) (fun _ => hq5)) ?_
    refine ow_ev ev_assign ?_
    refine ow_ev ev_assign ?_
    refine ow_nil (hK5 _ _ ?_); clear hK5
    obtain rfl := some_inj hM
    refine cw_ret (kw_retc2 (fun w hm => ret_of hm rfl))

def strings_CutPrefix_m (s0 : Str) (prefix0 : Str) : Option (Str × Bool) :=
  (stringslite_CutPrefix_m s0 prefix0).bind fun y1 =>
  some (y1.1, y1.2)
theorem strings_CutPrefix_spec (S : Soup) (w : World) (s0 : Str) (prefix0 : Str) (y : Str × Bool) (hM : strings_CutPrefix_m s0 prefix0 = some y) (hS : ∀ k, S k → k < w.heap.size)  :
    Calls Tryd.prog 106 #[.string s0.ba, .string prefix0.ba] w (Ret w (.tuple #[.string y.1.ba, .bool y.2])) := by
  refine calls_cw (args := [_, _]) Tryd.func106 rfl ((pre_nil hS).start) rfl ?_
  unfold strings_CutPrefix_m at hM
  refine cw_seq fun K1 hK1 => ?_
  refine cw_region ?_
  refine ow_ev ev_assign ?_
  refine ow_ev ev_assign ?_
  refine ow_nil (hK1 _ _ ?_); clear hK1
  refine cw_seq fun K2 hK2 => ?_
  refine cw_region ?_
  refine ow_ev ev_move ?_
  refine ow_ev ev_move ?_
  obtain ⟨y1, hy2, hM⟩ := bind_some hM
  refine ow_cons (st_callv (fun w hm => let ⟨S, hs⟩ := hm; stringslite_CutPrefix_spec _ w s0 prefix0 y1 hy2 (lend_lt hs) ) ?_)
  refine ow_ev (ev_extract (vs := [.string y1.1.ba, .bool y1.2])) ?_
  refine ow_ev (ev_extract (vs := [.string y1.1.ba, .bool y1.2])) ?_
  refine ow_ev ev_assign ?_
  refine ow_ev ev_assign ?_
  refine ow_nil (hK2 _ _ ?_); clear hK2
  obtain rfl := some_inj hM
  refine cw_ret (kw_retc2 (fun w hm => ret_of hm rfl))

def words_Number_k2 : Int → Option (Int × Bool) := fun n_j2 =>
  some (n_j2, true)
def words_Number_k1 (y1 : Str × Bool) (n_1 : Int) : Unit → Option (Int × Bool) := fun _ =>
  if y1.2 then
    (chk (i64b (-n_1)) <|
    words_Number_k2 (-n_1))
  else
    (words_Number_k2 n_1)
def words_Number_b1 (y1 : Str × Bool) (cont1 : (Int × Nat) → Option (Int × Bool)) : (Int × Nat) → Option (Int × Bool) := fun (n_1, t30_1) =>
  if decide ((t30_1 : Int) < (y1.1.l.length : Int)) then
    ((byteAt y1.1 (t30_1 : Int)).bind fun c8 =>
    (words_isDigit_m c8).bind fun y10 =>
    if (!y10) then
      (some (0, false))
    else
      (chk (i64b (10 * n_1)) <|
      (byteAt y1.1 (t30_1 : Int)).bind fun c14 =>
      chk (i64b ((10 * n_1) + (IntKind.i64.wrap (IntKind.u8.wrap (c14 - 48))))) <|
      if decide (1099511627776 < ((10 * n_1) + (IntKind.i64.wrap (IntKind.u8.wrap (c14 - 48))))) then
        (some (0, false))
      else
        (cont1 (((10 * n_1) + (IntKind.i64.wrap (IntKind.u8.wrap (c14 - 48)))), t30_1 + 1))))
  else
    (words_Number_k1 y1 n_1 ())
def words_Number_m (s0 : Str) : Option (Int × Bool) :=
  (strings_CutPrefix_m s0 (⟨[45]⟩ : Str)).bind fun y1 =>
  (whn (!(decide (y1.1 = (⟨[]⟩ : Str)))) 0 (byteAt y1.1 0)).bind fun c3 =>
  if (decide (y1.1 = (⟨[]⟩ : Str)) || (decide (c3 = 48) && (y1.2 || decide (1 < (y1.1.l.length : Int))))) then
    (some (0, false))
  else
    (chk (decide ((y1.1.l.length : Int) ≤ 9223372036854775807)) <|
    iter (words_Number_b1 y1) FUEL (0, 0))
theorem words_Number_spec (S : Soup) (w : World) (s0 : Str) (y : Int × Bool) (hM : words_Number_m s0 = some y) (hS : ∀ k, S k → k < w.heap.size)  :
    Calls Tryd.prog 90 #[.string s0.ba] w (Ret w (.tuple #[.int .i64 y.1, .bool y.2])) := by
  refine calls_cw (args := [_]) Tryd.func90 rfl ((pre_nil hS).start) rfl ?_
  unfold words_Number_m at hM
  refine cw_seq fun K1 hK1 => ?_
  refine cw_region ?_
  refine ow_ev ev_assign ?_
  refine ow_ev ev_assign ?_
  refine ow_nil (hK1 _ _ ?_); clear hK1
  refine cw_seq fun K2 hK2 => ?_
  refine cw_region ?_
  refine ow_ev ev_move ?_
  obtain ⟨y1, hy2, hM⟩ := bind_some hM
  refine ow_cons (st_callv (fun w hm => let ⟨S, hs⟩ := hm; strings_CutPrefix_spec _ w s0 (⟨[45]⟩ : Str) y1 hy2 (lend_lt hs) ) ?_)
  refine ow_ev ev_move ?_
  refine ow_ev (ev_extract (vs := [.string y1.1.ba, .bool y1.2])) ?_
  refine ow_ev (ev_extract (vs := [.string y1.1.ba, .bool y1.2])) ?_
  refine ow_ev ev_assign ?_
  refine ow_ev ev_assign ?_
  refine ow_nil (hK2 _ _ ?_); clear hK2
  refine cw_seq fun K3 hK3 => ?_
  refine cw_seq fun K4 hK4 => ?_
  refine cw_region ?_
  refine ow_ev ev_move ?_
  refine ow_ev ev_str_eql ?_
  refine ow_ev ev_move ?_
  refine ow_evg rfl ev_move ?_
  obtain ⟨c3, hc_4, hM⟩ := bind_some hM
  refine ow_evg rfl (ev_sidx (whn_some hc_4)) ?_
  refine ow_evg rfl ev_eql ?_
  refine ow_evg rfl ev_move ?_
  refine ow_evg rfl ev_move ?_
  refine ow_evg rfl ev_move ?_
  refine ow_evg rfl ev_move ?_
  refine ow_evg rfl ev_slen ?_
  refine ow_evg rfl ev_gtr ?_
  refine ow_evg rfl ev_or ?_
  refine ow_evg rfl ev_and ?_
  refine ow_ev ev_or ?_
  refine ow_nil (hK4 _ _ ?_); clear hK4
  refine cw_cond rfl (fun hc5 => ?_) (fun hc5 => ?_)
  ·
    replace hM := (ite_t hc5).symm.trans hM
    refine cw_seq fun K5 hK5 => ?_
    refine cw_region ?_
    refine ow_ev ev_assign ?_
    refine ow_ev ev_assign ?_
    refine ow_nil (hK5 _ _ ?_); clear hK5
    obtain rfl := some_inj hM
    refine cw_ret (kw_retc2 (fun w hm => ret_of hm rfl))
  ·
    replace hM := (ite_f hc5).symm.trans hM
    refine cw_skip (hK3 _ _ ?_); clear hK3
    refine cw_seq fun K6 hK6 => ?_
    refine cw_region ?_
    refine ow_ev ev_assign ?_
    refine ow_nil (hK6 _ _ ?_); clear hK6
    refine cw_seq fun K7 hK7 => ?_
    refine cw_seq fun K8 hK8 => ?_
    refine cw_region ?_
    refine ow_ev ev_move ?_
    obtain ⟨hl6, hM⟩ := chk_some hM
    replace hl6 := of_decide_eq_true hl6
    refine ow_ev ev_slen ?_
    refine ow_ev ev_move ?_
    refine ow_nil (hK8 _ _ ?_); clear hK8
    refine cw_block ?_
    refine cw_loop (γ := Nat × (Int × Nat) × Unit) (env := fun (_, (n_1, t30_1), _) => [(4, .v (.string y1.1.ba)), (5, .v (.bool y1.2)), (6, .v (.int .i64 n_1)), (29, .v (.int .i64 (y1.1.l.length : Int))), (30, .v (.int .i64 (t30_1 : Int)))]) (mem := fun (_, (n_1, t30_1), _) => []) (R := fun g => iter (words_Number_b1 y1) g.1 g.2.1 = some y) (μ := fun g => g.1) (FUEL, (0, 0), ()) hM ⟨rfl, rfl, rfl, rfl, rfl, trivial⟩ (fun w hm => hm.reord) ?_
    clear hM
    intro g hM KL1 hL1
    obtain ⟨nn1, ⟨n_1, t30_1⟩, ⟨⟩⟩ := g
    dsimp only at hM ⊢
    obtain ⟨nn1, cont1, rfl, hcont1, hM⟩ := iter_open' hM
    dsimp only [words_Number_b1] at hM
    refine cw_seq fun K9 hK9 => ?_
    refine cw_region ?_
    refine ow_ev ev_lss ?_
    refine ow_nil (hK9 _ _ ?_); clear hK9
    refine cw_seq fun K10 hK10 => ?_
    refine cw_cond rfl (fun hc7 => ?_) (fun hc7 => ?_)
    ·
      replace hM := (ite_t hc7).symm.trans hM
      have hc7d := of_decide_eq_true hc7
      refine cw_skip (hK10 _ _ ?_); clear hK10
      refine cw_seq fun K11 hK11 => ?_
      refine cw_block ?_
      refine cw_seq fun K12 hK12 => ?_
      refine cw_region ?_
      refine ow_ev ev_move ?_
      refine ow_ev ev_assign ?_
      refine ow_nil (hK12 _ _ ?_); clear hK12
      refine cw_seq fun K13 hK13 => ?_
      refine cw_seq fun K14 hK14 => ?_
      refine cw_region ?_
      refine ow_ev ev_move ?_
      refine ow_ev ev_move ?_
      obtain ⟨c8, hc_9, hM⟩ := bind_some hM
      refine ow_ev (ev_sidx (fun _ => hc_9)) ?_
      obtain ⟨y10, hy11, hM⟩ := bind_some hM
      refine ow_cons (st_callv (fun w hm => let ⟨S, hs⟩ := hm; words_isDigit_spec _ w c8 y10 hy11 (lend_lt hs) ) ?_)
      refine ow_ev ev_not ?_
      refine ow_nil (hK14 _ _ ?_); clear hK14
      refine cw_cond rfl (fun hc12 => ?_) (fun hc12 => ?_)
      ·
        replace hM := (ite_t hc12).symm.trans hM
        refine cw_seq fun K15 hK15 => ?_
        refine cw_region ?_
        refine ow_ev ev_assign ?_
        refine ow_ev ev_assign ?_
        refine ow_nil (hK15 _ _ ?_); clear hK15
        obtain rfl := some_inj hM
        refine cw_ret (kw_retc2 (fun w hm => ret_of hm rfl))
      ·
        replace hM := (ite_f hc12).symm.trans hM
        refine cw_skip (hK13 _ _ ?_); clear hK13
        refine cw_seq fun K16 hK16 => ?_
        refine cw_region ?_
        refine ow_ev ev_move ?_
        obtain ⟨hI13, hM⟩ := chk_some hM
        refine ow_ev (ev_mul (hr := fun hg => i64b_I64 hI13)) ?_
        refine ow_ev ev_move ?_
        refine ow_ev ev_move ?_
        obtain ⟨c14, hc_15, hM⟩ := bind_some hM
        refine ow_ev (ev_sidx (fun _ => hc_15)) ?_
        refine ow_ev ev_subw ?_
        refine ow_ev (ev_convert_int .i64) ?_
        obtain ⟨hI16, hM⟩ := chk_some hM
        refine ow_ev (ev_add (hr := fun hg => i64b_I64 hI16)) ?_
        refine ow_ev ev_assign ?_
        refine ow_nil (hK16 _ _ ?_); clear hK16
        refine cw_seq fun K17 hK17 => ?_
        refine cw_region ?_
        refine ow_ev ev_move ?_
        refine ow_ev ev_gtr ?_
        refine ow_nil (hK17 _ _ ?_); clear hK17
        refine cw_cond rfl (fun hc17 => ?_) (fun hc17 => ?_)
        ·
          replace hM := (ite_t hc17).symm.trans hM
          refine cw_seq fun K18 hK18 => ?_
          refine cw_region ?_
          refine ow_ev ev_assign ?_
          refine ow_ev ev_assign ?_
          refine ow_nil (hK18 _ _ ?_); clear hK18
          obtain rfl := some_inj hM
          refine cw_ret (kw_retc2 (fun w hm => ret_of hm rfl))
        ·
          replace hM := (ite_f hc17).symm.trans hM
          refine cw_skip (hK11 _ _ ?_); clear hK11
          refine cw_region ?_
          refine ow_ev (ev_add (hr := fun _ => by unfold I64; omega)) ?_
          refine ow_ev ev_move ?_
          refine ow_nil (hL1 (nn1, (((10 * n_1) + (IntKind.i64.wrap (IntKind.u8.wrap (c14 - 48)))), t30_1 + 1), ()) _ _ (eqc hcont1 hM) (Nat.lt_succ_self _) ⟨rfl, rfl, rfl, rfl, rfl, trivial⟩ (fun w hm => hm.reord))
    ·
      replace hM := (ite_f hc7).symm.trans hM
      refine cw_exit (hK7 _ _ ?_); clear hK7
      dsimp only [words_Number_k1] at hM
      refine cw_cut (γ := Int × Unit) (env := fun (n_j2, _) => [(6, .v (.int .i64 n_j2))]) (mem := fun (n_j2, _) => []) (R := fun g => words_Number_k2 g.1 = some y) ?_ ?_
      · intro KJ2 hJ2
        refine cw_seq fun K20 hK20 => ?_
        refine cw_region ?_
        refine ow_ev ev_move ?_
        refine ow_nil (hK20 _ _ ?_); clear hK20
        refine cw_cond rfl (fun hc18 => ?_) (fun hc18 => ?_)
        ·
          replace hM := (ite_t hc18).symm.trans hM
          refine cw_region ?_
          refine ow_ev ev_move ?_
          obtain ⟨hI19, hM⟩ := chk_some hM
          refine ow_ev (ev_neg (hr := fun hg => i64b_I64 hI19)) ?_
          refine ow_ev ev_assign ?_
          refine ow_nil (hJ2 ((-n_1), ()) _ _ hM ⟨rfl, trivial⟩ (fun w hm => hm.reord))
        ·
          replace hM := (ite_f hc18).symm.trans hM
          refine cw_skip (hJ2 (n_1, ()) _ _ hM ⟨rfl, trivial⟩ (fun w hm => hm.reord))
      ·
        clear hM
        intro g hM
        obtain ⟨n_j2, ⟨⟩⟩ := g
        dsimp only at hM ⊢
        dsimp only [words_Number_k2] at hM
        refine cw_seq fun K19 hK19 => ?_
        refine cw_region ?_
        refine ow_ev ev_move ?_
        refine ow_ev ev_assign ?_
        refine ow_ev ev_assign ?_
        refine ow_nil (hK19 _ _ ?_); clear hK19
        obtain rfl := some_inj hM
        refine cw_ret (kw_retc2 (fun w hm => ret_of hm rfl))

end Go.Proofs.YtohhihdjdelckaaDoor
