/- Models of functions, and that the code computes them. -/
import Derived.Test.YtfbpbmnlbcnanaaDoorWg
import Derived.Test.YtfbpbmnlbcnanaaDoorWf
namespace Go.Proofs.YtfbpbmnlbcnanaaDoor
open Go.Dc Go.RowKit
set_option maxRecDepth 10000
set_option linter.unusedVariables false
def law3_WordsLimits_k2 (y1 : Int) (s_2 : Str) (behind0 : Str) (before0 : Int) : Unit → Option Bool := fun _ =>
  if decide (64 < y1) then
    ((strCat s_2 (⟨[10]⟩ : Str)).bind fun q12 =>
    (strSub behind0 0 (if 100 < (behind0.l.length : Int) then 100 else (behind0.l.length : Int))).bind fun q14 =>
    (strCat q12 q14).bind fun q16 =>
    (words_Lines_m q16).bind fun y18 =>
    (law3_awake_m).bind fun y21 =>
    chk (!(y21 && decide (y18.2.2 = 7)) || i64b (1 + (IntKind.i64.wrap (before0.tmod 5)))) <|
    some ((y21 && decide (y18.2.2 = 7)) && decide (y18.2.1 = (1 + (IntKind.i64.wrap (before0.tmod 5))))))
  else
    ((words_Lines_m s_2).bind fun y24 =>
    (law3_awake_m).bind fun y27 =>
    (whn ((((y27 && decide (y24.2.2 = 0)) && decide (y24.2.1 = 0)) && !(decide (y1 = 0) && decide ((y24.1.length : Int) = 0))) && decide ((y24.1.length : Int) = 1)) default (idx y24.1 0)).bind fun x29 =>
    if ((((y27 && decide (y24.2.2 = 0)) && decide (y24.2.1 = 0)) && !(decide (y1 = 0) && decide ((y24.1.length : Int) = 0))) && decide ((y24.1.length : Int) = 1)) then
    (some (((y27 && decide (y24.2.2 = 0)) && decide (y24.2.1 = 0)) && ((decide (y1 = 0) && decide ((y24.1.length : Int) = 0)) || (decide ((y24.1.length : Int) = 1) && decide ((x29.length : Int) = y1)))))
    else
    (some (((y27 && decide (y24.2.2 = 0)) && decide (y24.2.1 = 0)) && ((decide (y1 = 0) && decide ((y24.1.length : Int) = 0)) || false))))
def law3_WordsLimits_b2 (y1 : Int) (behind0 : Str) (before0 : Int) (cont2 : (Str × Nat) → Option Bool) : (Str × Nat) → Option Bool := fun (s_2, i_2) =>
  if decide ((i_2 : Int) < y1) then
    ((strCat s_2 (⟨[119, 32]⟩ : Str)).bind fun q8 =>
    chk (i64b ((i_2 : Int) + 1)) <|
    cont2 (q8, i_2 + 1))
  else
    (law3_WordsLimits_k2 y1 s_2 behind0 before0 ())
def law3_WordsLimits_k1 (y1 : Int) (behind0 : Str) (before0 : Int) (s_1 : Str) : Unit → Option Bool := fun _ =>
  iter (law3_WordsLimits_b2 y1 behind0 before0) FUEL (s_1, 0)
def law3_WordsLimits_b1 (before0 : Int) (y1 : Int) (behind0 : Str) (cont1 : (Str × Nat) → Option Bool) : (Str × Nat) → Option Bool := fun (s_1, i_1) =>
  if decide ((i_1 : Int) < (IntKind.i64.wrap (before0.tmod 5))) then
    ((strCat s_1 (⟨[10]⟩ : Str)).bind fun q4 =>
    chk (i64b ((i_1 : Int) + 1)) <|
    cont1 (q4, i_1 + 1))
  else
    (law3_WordsLimits_k1 y1 behind0 before0 s_1 ())
def law3_WordsLimits_m (n0 : Int) (before0 : Int) (behind0 : Str) : Option Bool :=
  (keep_Pick_m n0 68).bind fun y1 =>
  iter (law3_WordsLimits_b1 before0 y1 behind0) FUEL ((⟨[]⟩ : Str), 0)
theorem law3_WordsLimits_spec (S : Soup) (w : World) (n0 : Int) (before0 : Int) (behind0 : Str) (y : Bool) (hM : law3_WordsLimits_m n0 before0 behind0 = some y) (hS : ∀ k, S k → k < w.heap.size)  :
    Calls Tryd.prog 7 #[.int .i64 n0, .int .u8 before0, .string behind0.ba] w (Ret w (.bool y)) := by
  refine calls_cw (args := [_, _, _]) Tryd.func7 rfl ((pre_nil hS).start) rfl ?_
  unfold law3_WordsLimits_m at hM
  refine cw_seq fun K1 hK1 => ?_
  refine cw_region ?_
  refine ow_ev ev_assign ?_
  refine ow_nil (hK1 _ _ ?_); clear hK1
  refine cw_seq fun K2 hK2 => ?_
  refine cw_region ?_
  refine ow_ev ev_move ?_
  obtain ⟨y1, hy2, hM⟩ := bind_some hM
  refine ow_cons (st_callv (fun w hm => let ⟨S, hs⟩ := hm; keep_Pick_spec _ w n0 68 y1 hy2 (lend_lt hs) ) ?_)
  refine ow_ev ev_assign ?_
  refine ow_nil (hK2 _ _ ?_); clear hK2
  refine cw_seq fun K3 hK3 => ?_
  refine cw_region ?_
  refine ow_ev ev_assign ?_
  refine ow_nil (hK3 _ _ ?_); clear hK3
  refine cw_seq fun K4 hK4 => ?_
  refine cw_seq fun K5 hK5 => ?_
  refine cw_region ?_
  refine ow_ev ev_assign ?_
  refine ow_nil (hK5 _ _ ?_); clear hK5
  refine cw_block ?_
  refine cw_loop (γ := Nat × (Str × Nat) × Unit) (env := fun (_, (s_1, i_1), _) => [(0, .v (.int .i64 y1)), (1, .v (.int .u8 before0)), (2, .v (.string behind0.ba)), (7, .v (.string s_1.ba)), (8, .v (.int .i64 (i_1 : Int)))]) (mem := fun (_, (s_1, i_1), _) => []) (R := fun g => iter (law3_WordsLimits_b1 before0 y1 behind0) g.1 g.2.1 = some y) (μ := fun g => g.1) (FUEL, ((⟨[]⟩ : Str), 0), ()) hM ⟨rfl, rfl, rfl, rfl, rfl, trivial⟩ (fun w hm => hm.reord) ?_
  clear hM
  intro g hM KL1 hL1
  obtain ⟨nn1, ⟨s_1, i_1⟩, ⟨⟩⟩ := g
  dsimp only at hM ⊢
  obtain ⟨nn1, cont1, rfl, hcont1, hM⟩ := iter_open' hM
  dsimp only [law3_WordsLimits_b1] at hM
  refine cw_seq fun K6 hK6 => ?_
  refine cw_seq fun K7 hK7 => ?_
  refine cw_region ?_
  refine ow_ev ev_move ?_
  refine ow_ev ev_move ?_
  refine ow_ev ev_rem ?_
  refine ow_ev (ev_convert_int .i64) ?_
  refine ow_ev ev_lss ?_
  refine ow_nil (hK7 _ _ ?_); clear hK7
  refine cw_cond rfl (fun hc3 => ?_) (fun hc3 => ?_)
  ·
    replace hM := (ite_t hc3).symm.trans hM
    refine cw_skip (hK6 _ _ ?_); clear hK6
    refine cw_seq fun K8 hK8 => ?_
    refine cw_block ?_
    refine cw_region ?_
    refine ow_ev ev_move ?_
    obtain ⟨q4, hq5, hM⟩ := bind_some hM
    refine ow_ev (ev_scat (fun _ => hq5)) ?_
    refine ow_ev ev_assign ?_
    refine ow_nil (hK8 _ _ ?_); clear hK8
    refine cw_region ?_
    refine ow_ev ev_move ?_
    obtain ⟨hI6, hM⟩ := chk_some hM
    refine ow_ev (ev_add (hr := fun hg => i64b_I64 hI6)) ?_
    refine ow_ev ev_assign ?_
    refine ow_nil (hL1 (nn1, (q4, i_1 + 1), ()) _ _ (eqc hcont1 hM) (Nat.lt_succ_self _) ⟨rfl, rfl, rfl, rfl, rfl, trivial⟩ (fun w hm => hm.reord))
  ·
    replace hM := (ite_f hc3).symm.trans hM
    refine cw_exit (hK4 _ _ ?_); clear hK4
    dsimp only [law3_WordsLimits_k1] at hM
    refine cw_seq fun K9 hK9 => ?_
    refine cw_seq fun K10 hK10 => ?_
    refine cw_region ?_
    refine ow_ev ev_assign ?_
    refine ow_nil (hK10 _ _ ?_); clear hK10
    refine cw_block ?_
    refine cw_loop (γ := Nat × (Str × Nat) × Unit) (env := fun (_, (s_2, i_2), _) => [(0, .v (.int .i64 y1)), (1, .v (.int .u8 before0)), (2, .v (.string behind0.ba)), (7, .v (.string s_2.ba)), (9, .v (.int .i64 (i_2 : Int)))]) (mem := fun (_, (s_2, i_2), _) => []) (R := fun g => iter (law3_WordsLimits_b2 y1 behind0 before0) g.1 g.2.1 = some y) (μ := fun g => g.1) (FUEL, (s_1, 0), ()) hM ⟨rfl, rfl, rfl, rfl, rfl, trivial⟩ (fun w hm => hm.reord) ?_
    clear hM
    intro g hM KL2 hL2
    obtain ⟨nn2, ⟨s_2, i_2⟩, ⟨⟩⟩ := g
    dsimp only at hM ⊢
    obtain ⟨nn2, cont2, rfl, hcont2, hM⟩ := iter_open' hM
    dsimp only [law3_WordsLimits_b2] at hM
    refine cw_seq fun K11 hK11 => ?_
    refine cw_seq fun K12 hK12 => ?_
    refine cw_region ?_
    refine ow_ev ev_move ?_
    refine ow_ev ev_move ?_
    refine ow_ev ev_lss ?_
    refine ow_nil (hK12 _ _ ?_); clear hK12
    refine cw_cond rfl (fun hc7 => ?_) (fun hc7 => ?_)
    ·
      replace hM := (ite_t hc7).symm.trans hM
      refine cw_skip (hK11 _ _ ?_); clear hK11
      refine cw_seq fun K13 hK13 => ?_
      refine cw_block ?_
      refine cw_region ?_
      refine ow_ev ev_move ?_
      obtain ⟨q8, hq9, hM⟩ := bind_some hM
      refine ow_ev (ev_scat (fun _ => hq9)) ?_
      refine ow_ev ev_assign ?_
      refine ow_nil (hK13 _ _ ?_); clear hK13
      refine cw_region ?_
      refine ow_ev ev_move ?_
      obtain ⟨hI10, hM⟩ := chk_some hM
      refine ow_ev (ev_add (hr := fun hg => i64b_I64 hI10)) ?_
      refine ow_ev ev_assign ?_
      refine ow_nil (hL2 (nn2, (q8, i_2 + 1), ()) _ _ (eqc hcont2 hM) (Nat.lt_succ_self _) ⟨rfl, rfl, rfl, rfl, rfl, trivial⟩ (fun w hm => hm.reord))
    ·
      replace hM := (ite_f hc7).symm.trans hM
      refine cw_exit (hK9 _ _ ?_); clear hK9
      dsimp only [law3_WordsLimits_k2] at hM
      refine cw_seq fun K14 hK14 => ?_
      refine cw_seq fun K15 hK15 => ?_
      refine cw_region ?_
      refine ow_ev ev_move ?_
      refine ow_ev ev_gtr ?_
      refine ow_nil (hK15 _ _ ?_); clear hK15
      refine cw_cond rfl (fun hc11 => ?_) (fun hc11 => ?_)
      ·
        replace hM := (ite_t hc11).symm.trans hM
        refine cw_seq fun K16 hK16 => ?_
        refine cw_region ?_
        refine ow_ev ev_move ?_
        obtain ⟨q12, hq13, hM⟩ := bind_some hM
        refine ow_ev (ev_scat (fun _ => hq13)) ?_
        refine ow_ev ev_move ?_
        refine ow_ev ev_move ?_
        refine ow_ev ev_slen ?_
        refine ow_ev ev_min2 ?_
        obtain ⟨q14, hq15, hM⟩ := bind_some hM
        refine ow_ev (ev_ssub (ol := none) (oh := some (.i64, (if 100 < (behind0.l.length : Int) then 100 else (behind0.l.length : Int)))) (fun _ => hq15)) ?_
        obtain ⟨q16, hq17, hM⟩ := bind_some hM
        refine ow_ev (ev_scat (fun _ => hq17)) ?_
        obtain ⟨y18, hy19, hM⟩ := bind_some hM
        refine ow_cons (st_callS SelL.nil (fun S w hs hP => words_Lines_spec _ w q16 y18 hy19 hs.lt )  (fun r20 => ?_))
        dsimp only [List.cons_append, List.nil_append]
        refine ow_ev ev_move ?_
        refine ow_ev (ev_extract (vs := [.slice r20.a y18.1.length r20.cap, .int .i64 y18.2.1, .int .i64 y18.2.2])) ?_
        refine ow_ev (ev_extract (vs := [.slice r20.a y18.1.length r20.cap, .int .i64 y18.2.1, .int .i64 y18.2.2])) ?_
        refine ow_ev (ev_extract (vs := [.slice r20.a y18.1.length r20.cap, .int .i64 y18.2.1, .int .i64 y18.2.2])) ?_
        refine ow_ev ev_assign ?_
        refine ow_ev ev_assign ?_
        refine ow_ev ev_assign ?_
        refine ow_nil (hK16 _ _ ?_); clear hK16
        refine cw_seq fun K17 hK17 => ?_
        refine cw_region ?_
        obtain ⟨y21, hy22, hM⟩ := bind_some hM
        refine ow_cons (st_callv (fun w hm => let ⟨S, hs⟩ := hm; law3_awake_spec _ w  y21 hy22 (lend_lt hs) ) ?_)
        refine ow_ev ev_move ?_
        refine ow_evg rfl ev_move ?_
        refine ow_evg rfl ev_eql ?_
        refine ow_ev ev_and ?_
        refine ow_ev ev_move ?_
        refine ow_evg rfl ev_move ?_
        refine ow_evg rfl ev_move ?_
        refine ow_evg rfl ev_rem ?_
        refine ow_evg rfl (ev_convert_int .i64) ?_
        obtain ⟨hI23, hM⟩ := chk_some hM
        refine ow_evg rfl (ev_add (hr := fun hg => i64b_I64 (gor hI23 hg))) ?_
        refine ow_evg rfl ev_eql ?_
        refine ow_ev ev_and ?_
        refine ow_ev ev_assign ?_
        refine ow_nil (hK17 _ _ ?_); clear hK17
        obtain rfl := some_inj hM
        refine cw_ret (kw_retc1 (fun w hm => ret_of hm rfl))
      ·
        replace hM := (ite_f hc11).symm.trans hM
        refine cw_skip (hK14 _ _ ?_); clear hK14
        refine cw_seq fun K18 hK18 => ?_
        refine cw_region ?_
        refine ow_ev ev_move ?_
        obtain ⟨y24, hy25, hM⟩ := bind_some hM
        refine ow_cons (st_callS SelL.nil (fun S w hs hP => words_Lines_spec _ w s_2 y24 hy25 hs.lt )  (fun r26 => ?_))
        dsimp only [List.cons_append, List.nil_append]
        refine ow_ev ev_move ?_
        refine ow_ev (ev_extract (vs := [.slice r26.a y24.1.length r26.cap, .int .i64 y24.2.1, .int .i64 y24.2.2])) ?_
        refine ow_ev (ev_extract (vs := [.slice r26.a y24.1.length r26.cap, .int .i64 y24.2.1, .int .i64 y24.2.2])) ?_
        refine ow_ev (ev_extract (vs := [.slice r26.a y24.1.length r26.cap, .int .i64 y24.2.1, .int .i64 y24.2.2])) ?_
        refine ow_ev ev_assign ?_
        refine ow_ev ev_assign ?_
        refine ow_ev ev_assign ?_
        refine ow_nil (hK18 _ _ ?_); clear hK18
        refine cw_seq fun K19 hK19 => ?_
        refine cw_region ?_
        obtain ⟨y27, hy28, hM⟩ := bind_some hM
        refine ow_cons (st_callv (fun w hm => let ⟨S, hs⟩ := hm; law3_awake_spec _ w  y27 hy28 (lend_lt hs) ) ?_)
        refine ow_ev ev_move ?_
        refine ow_evg rfl ev_move ?_
        refine ow_evg rfl ev_eql ?_
        refine ow_ev ev_and ?_
        refine ow_ev ev_move ?_
        refine ow_evg rfl ev_move ?_
        refine ow_evg rfl ev_eql ?_
        refine ow_ev ev_and ?_
        refine ow_ev ev_move ?_
        refine ow_evg rfl ev_move ?_
        refine ow_evg rfl ev_eql ?_
        refine ow_evg rfl ev_move ?_
        refine ow_evg rfl ev_move ?_
        refine ow_evg rfl ev_len ?_
        refine ow_evg rfl ev_eql ?_
        refine ow_evg rfl ev_and ?_
        refine ow_evg rfl ev_move ?_
        refine ow_evg rfl ev_move ?_
        refine ow_evg rfl ev_len ?_
        refine ow_evg rfl ev_eql ?_
        refine ow_evg rfl ev_move ?_
        refine ow_evg rfl ev_move ?_
        obtain ⟨x29, hx30, hM⟩ := bind_some hM
        refine ow_evg rfl (ev_idx (xs := y24.1) 1 (Kn.trow (e := 33) (r := r26) (by repeat (first | exact Has.head | apply Has.tail))) (fun hg => let h := idx_some (whn_some hx30 hg); ⟨h.1, h.2.1⟩)) ?_
        refine ow_cases ((((y27 && decide (y24.2.2 = 0)) && decide (y24.2.1 = 0)) && !(decide (y1 = 0) && decide ((y24.1.length : Int) = 0))) && decide ((y24.1.length : Int) = 1)) (fun hg31 => ?_) (fun hg31 => ?_)
        ·
          replace hM := (ite_t hg31).symm.trans hM
          have hx32 := whn_some hx30 hg31
          refine ow_know 90 hg31 rfl ?_
          refine ow_know 91 hg31 rfl ?_
          refine ow_gtrue rfl hg31 ?_
          refine ow_ev (ev_ld (i := 0) (xs := y24.1) (y := x29) 0 (Kn.trow (e := 33) (r := r26) (by repeat (first | exact Has.head | apply Has.tail))) (fun _ => hx32)) ?_
          refine ow_gtrue rfl hg31 ?_
          refine ow_ev ev_len ?_
          refine ow_gtrue rfl hg31 ?_
          refine ow_ev ev_move ?_
          refine ow_gtrue rfl hg31 ?_
          refine ow_ev ev_eql ?_
          refine ow_evg rfl ev_and ?_
          refine ow_evg rfl ev_or ?_
          refine ow_ev ev_and ?_
          refine ow_ev ev_assign ?_
          refine ow_nil (hK19 _ _ ?_); clear hK19
          obtain rfl := some_inj hM
          refine cw_ret (kw_retc1 (fun w hm => ret_of hm rfl))
        ·
          replace hM := (ite_f hg31).symm.trans hM
          refine ow_gskip rfl hg31 ?_
          refine ow_gskip rfl hg31 ?_
          refine ow_gskip rfl hg31 ?_
          refine ow_gskip rfl hg31 ?_
          refine ow_evg rfl (ev_andFg hg31) ?_
          refine ow_evg rfl ev_or ?_
          refine ow_ev ev_and ?_
          refine ow_ev ev_assign ?_
          refine ow_nil (hK19 _ _ ?_); clear hK19
          obtain rfl := some_inj hM
          refine cw_ret (kw_retc1 (fun w hm => ret_of hm rfl))

end Go.Proofs.YtfbpbmnlbcnanaaDoor
