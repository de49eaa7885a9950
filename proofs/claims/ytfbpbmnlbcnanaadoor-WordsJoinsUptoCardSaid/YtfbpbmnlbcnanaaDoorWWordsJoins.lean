/- Models of functions, and that the code computes them. -/
import Derived.Test.YtfbpbmnlbcnanaaDoorWg
import Derived.Test.YtfbpbmnlbcnanaaDoorWk
import Derived.Test.YtfbpbmnlbcnanaaDoorWl
import Derived.Test.YtfbpbmnlbcnanaaDoorWf
set_option linter.all false
namespace Go.Proofs.YtfbpbmnlbcnanaaDoor
open Go.Dc Go.RowKit
set_option maxRecDepth 10000
def law3_WordsJoins_k1 (l0 : List (List Str)) (lm_1 : List (List Str)) : Unit → Option Bool := fun _ =>
  (law3_awake_m).bind fun y16 =>
  (whn y16 default (words_Join_m l0)).bind fun y18 =>
  (whn y16 default (ref1_Join_m l0)).bind fun y20 =>
  (whn (y16 && decide (y18 = y20)) default (words_Join_m lm_1)).bind fun y22 =>
  (whn (y16 && decide (y18 = y20)) default (ref1_Join_m lm_1)).bind fun y24 =>
  some ((y16 && decide (y18 = y20)) && decide (y22 = y24))
def law3_WordsJoins_b1 (p0 : List UInt8) (l0 : List (List Str)) (cont1 : ((List (List Str)) × Nat) → Option Bool) : ((List (List Str)) × Nat) → Option Bool := fun (lm_1, i_1) =>
  if (decide ((i_1 : Int) < (p0.length : Int)) && decide ((i_1 : Int) < 20)) then
    (chk (i64b ((i_1 : Int) + 1)) <|
    (sub p0 (i_1 : Int) (if (p0.length : Int) < ((i_1 : Int) + 1) then (p0.length : Int) else ((i_1 : Int) + 1))).bind fun l4 =>
    (law3_pieces_m l4).bind fun y7 =>
    (strCat (⟨[98]⟩ : Str) y7).bind fun q9 =>
    chk (decide ((lm_1.length + ([([(⟨[97]⟩ : Str), q9] : List Str)] : List (List Str)).length) * 24 ≤ 140737488355328)) <|
    chk (i64b ((i_1 : Int) + 1)) <|
    cont1 ((lm_1 ++ ([([(⟨[97]⟩ : Str), q9] : List Str)] : List (List Str))), i_1 + 1))
  else
    (law3_WordsJoins_k1 l0 lm_1 ())
def law3_WordsJoins_m (l0 : List (List Str)) (p0 : List UInt8) : Option Bool :=
  iter (law3_WordsJoins_b1 p0 l0) FUEL (([] : List (List Str)), 0)
theorem law3_WordsJoins_spec (S : Soup) (w : World) (l0 : List (List Str)) (r_l0 : GoRep.R (List (List Str))) (p0 : List UInt8) (r_p0 : GoRep.R (List UInt8)) (y : Bool) (hM : law3_WordsJoins_m l0 p0 = some y) (hS : ∀ k, S k → k < w.heap.size) (h_l0 : GoRep.ok S w r_l0 l0) (h_p0 : GoRep.ok S w r_p0 p0) :
    Calls Tryd.prog 11 #[.slice r_l0.a l0.length r_l0.cap, .slice r_p0.a p0.length r_p0.cap] w (Ret w (.bool y)) := by
  refine calls_cw (args := [_, _]) Tryd.func11 rfl ((pre_nil hS).start |>.immP (α := List (List Str)) (r := r_l0) (x := l0) h_l0|>.immP (α := List UInt8) (r := r_p0) (x := p0) h_p0) rfl ?_
  unfold law3_WordsJoins_m at hM
  refine cw_seq fun K1 hK1 => ?_
  refine cw_region ?_
  refine ow_ev ev_assign ?_
  refine ow_nil (hK1 _ _ ?_); clear hK1
  refine cw_seq fun K2 hK2 => ?_
  refine cw_region ?_
  refine ow_cons (st_bslice (α := List Str) 43 (fun _ => (⟨none, 0, (fun _ => ())⟩ : SR (GoRep.R Str))) ([] : List (List Str)) OkL.nil (fun r1 => ?_))
  refine ow_ev ev_assign ?_
  refine ow_nil (hK2 _ _ ?_); clear hK2
  refine cw_seq fun K3 hK3 => ?_
  refine cw_seq fun K4 hK4 => ?_
  refine cw_region ?_
  refine ow_ev ev_assign ?_
  refine ow_nil (hK4 _ _ ?_); clear hK4
  refine cw_block ?_
  refine cw_loop (γ := Nat × ((List (List Str)) × Nat) × (SR (GoRep.R (List Str)))) (env := fun (_, (lm_1, i_1), rm_1) => [(0, .v (.slice r_l0.a l0.length r_l0.cap)), (1, .v (.slice r_p0.a p0.length r_p0.cap)), (5, .v (.slice rm_1.a lm_1.length rm_1.cap)), (6, .v (.int .i64 (i_1 : Int)))]) (mem := fun (_, (lm_1, i_1), rm_1) => [imm (α := (List (List Str))) r_l0 l0, imm (α := (List UInt8)) r_p0 p0, trow 43 rm_1 lm_1]) (R := fun g => iter (law3_WordsJoins_b1 p0 l0) g.1 g.2.1 = some y) (μ := fun g => g.1) (FUEL, (([] : List (List Str)), 0), r1) hM ⟨rfl, rfl, rfl, rfl, trivial⟩ (fun w hm => hm.reord) ?_
  clear hM
  intro g hM KL1 hL1
  obtain ⟨nn1, ⟨lm_1, i_1⟩, rm_1⟩ := g
  dsimp only at hM ⊢
  obtain ⟨nn1, cont1, rfl, hcont1, hM⟩ := iter_open' hM
  dsimp only [law3_WordsJoins_b1] at hM
  refine cw_seq fun K5 hK5 => ?_
  refine cw_seq fun K6 hK6 => ?_
  refine cw_region ?_
  refine ow_ev ev_move ?_
  refine ow_ev ev_move ?_
  refine ow_ev ev_len ?_
  refine ow_ev ev_lss ?_
  refine ow_ev ev_move ?_
  refine ow_evg rfl ev_move ?_
  refine ow_evg rfl ev_lss ?_
  refine ow_ev ev_and ?_
  refine ow_nil (hK6 _ _ ?_); clear hK6
  refine cw_cond rfl (fun hc2 => ?_) (fun hc2 => ?_)
  ·
    replace hM := (ite_t hc2).symm.trans hM
    refine cw_skip (hK5 _ _ ?_); clear hK5
    refine cw_seq fun K7 hK7 => ?_
    refine cw_block ?_
    refine cw_region ?_
    refine ow_ev ev_move ?_
    refine ow_ev ev_move ?_
    refine ow_ev ev_move ?_
    refine ow_ev ev_move ?_
    obtain ⟨hI3, hM⟩ := chk_some hM
    refine ow_ev (ev_add (hr := fun hg => i64b_I64 hI3)) ?_
    refine ow_ev ev_move ?_
    refine ow_ev ev_len ?_
    refine ow_ev ev_min2 ?_
    obtain ⟨l4, hl5, hM⟩ := bind_some hM
    refine ow_cons (st_sub (r := r_p0) (xs := p0) (ol := some (.i64, (i_1 : Int))) (oh := some (.i64, (if (p0.length : Int) < ((i_1 : Int) + 1) then (p0.length : Int) else ((i_1 : Int) + 1)))) (Sk.imm (α := List UInt8) (r := r_p0) (x := p0) (by repeat (first | exact Has.head | apply Has.tail))) hl5 (fun r6 => ?_))
    obtain ⟨y7, hy8, hM⟩ := bind_some hM
    refine ow_cons (st_callv (fun w hm => let ⟨S, hs⟩ := hm; law3_pieces_spec _ w l4 r6 y7 hy8 (lend_lt hs) (Kn.lend (Kn.imm (α := List UInt8) (r := r6) (x := l4) (by repeat (first | exact Has.head | apply Has.tail))) hs)) ?_)
    obtain ⟨q9, hq10, hM⟩ := bind_some hM
    refine ow_ev (ev_scat (fun _ => hq10)) ?_
    refine ow_cons (st_bslice (α := Str) 9 (fun _ => ()) ([(⟨[97]⟩ : Str), q9] : List Str) (OkL.flat (fun _ _ _ _ => trivial)) (fun r11 => ?_))
    refine ow_imp (fun w hm => hm.freeze (r := r11) (by repeat (first | exact Upd.head | apply Upd.tail))) ?_
    refine ow_cons (st_bslice (α := List Str) 43 (fun _ => r11) ([([(⟨[97]⟩ : Str), q9] : List Str)] : List (List Str)) (OkL.cons (fun S w hs => ((Sk.imm (α := List Str) (r := r11) (x := ([(⟨[97]⟩ : Str), q9] : List Str)) (by repeat (first | exact Has.head | apply Has.tail))) S w hs)) OkL.nil) (fun r12 => ?_))
    obtain ⟨hb13, hM⟩ := chk_some hM
    refine ow_cons (st_append (r := rm_1) (r2 := r12) (by intro r'; repeat (first | exact Upd.head | apply Upd.tail)) (Kn.trow (e := 43) (r := r12) (by repeat (first | exact Has.head | apply Has.tail))) (OkL.row (e := 43) (r := r12) (by repeat (first | exact Has.head | apply Has.tail))) (of_decide_eq_true hb13) (fun r14 => ?_))
    refine ow_ev ev_assign ?_
    refine ow_nil (hK7 _ _ ?_); clear hK7
    refine cw_region ?_
    refine ow_ev ev_move ?_
    obtain ⟨hI15, hM⟩ := chk_some hM
    refine ow_ev (ev_add (hr := fun hg => i64b_I64 hI15)) ?_
    refine ow_ev ev_assign ?_
    refine ow_nil (hL1 (nn1, ((lm_1 ++ ([([(⟨[97]⟩ : Str), q9] : List Str)] : List (List Str))), i_1 + 1), r14) _ _ (eqc hcont1 hM) (Nat.lt_succ_self _) ⟨rfl, rfl, rfl, rfl, trivial⟩ (fun w hm => hm.reord))
  ·
    replace hM := (ite_f hc2).symm.trans hM
    refine cw_exit (hK3 _ _ ?_); clear hK3
    dsimp only [law3_WordsJoins_k1] at hM
    refine cw_seq fun K8 hK8 => ?_
    refine cw_region ?_
    obtain ⟨y16, hy17, hM⟩ := bind_some hM
    refine ow_cons (st_callv (fun w hm => let ⟨S, hs⟩ := hm; law3_awake_spec _ w  y16 hy17 (lend_lt hs) ) ?_)
    refine ow_ev ev_move ?_
    refine ow_evg rfl ev_move ?_
    obtain ⟨y18, hy19, hM⟩ := bind_some hM
    refine ow_callg rfl (fun hg w hm => let ⟨S, hs⟩ := hm; words_Join_spec _ w l0 r_l0 y18 (whn_some hy19 hg) (lend_lt hs) (Kn.lend (Kn.imm (α := List (List Str)) (r := r_l0) (x := l0) (by repeat (first | exact Has.head | apply Has.tail))) hs)) ?_
    refine ow_evg rfl ev_move ?_
    obtain ⟨y20, hy21, hM⟩ := bind_some hM
    refine ow_callg rfl (fun hg w hm => let ⟨S, hs⟩ := hm; ref1_Join_spec _ w l0 r_l0 y20 (whn_some hy21 hg) (lend_lt hs) (Kn.lend (Kn.imm (α := List (List Str)) (r := r_l0) (x := l0) (by repeat (first | exact Has.head | apply Has.tail))) hs)) ?_
    refine ow_evg rfl ev_str_eql ?_
    refine ow_ev ev_and ?_
    refine ow_ev ev_move ?_
    refine ow_evg rfl ev_move ?_
    obtain ⟨y22, hy23, hM⟩ := bind_some hM
    refine ow_callg rfl (fun hg w hm => let ⟨S, hs⟩ := hm; words_Join_spec _ w lm_1 rm_1 y22 (whn_some hy23 hg) (lend_lt hs) (Kn.lend (Kn.trow (e := 43) (r := rm_1) (by repeat (first | exact Has.head | apply Has.tail))) hs)) ?_
    refine ow_evg rfl ev_move ?_
    obtain ⟨y24, hy25, hM⟩ := bind_some hM
    refine ow_callg rfl (fun hg w hm => let ⟨S, hs⟩ := hm; ref1_Join_spec _ w lm_1 rm_1 y24 (whn_some hy25 hg) (lend_lt hs) (Kn.lend (Kn.trow (e := 43) (r := rm_1) (by repeat (first | exact Has.head | apply Has.tail))) hs)) ?_
    refine ow_evg rfl ev_str_eql ?_
    refine ow_ev ev_and ?_
    refine ow_ev ev_assign ?_
    refine ow_nil (hK8 _ _ ?_); clear hK8
    obtain rfl := some_inj hM
    refine cw_ret (kw_retc1 (fun w hm => ret_of hm rfl))

end Go.Proofs.YtfbpbmnlbcnanaaDoor
