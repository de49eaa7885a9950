/- Models of functions, and that the code computes them. -/
import Derived.Test.YtfbpbmnlbcnanaaDoorWg
import Derived.Test.YtfbpbmnlbcnanaaDoorWk
set_option linter.all false
namespace Go.Proofs.YtfbpbmnlbcnanaaDoor
open Go.Dc Go.RowKit
set_option maxRecDepth 10000
def law3_WordsRoundTrip_k2 (x6 : Str) (i_1 : Nat) (cont1 : ((List (List Str)) × Nat) → Option Bool) : (List (List Str)) → Option Bool := fun ll_j2 =>
  chk (i64b ((ll_j2.length : Int) - 1)) <|
  chk (i64b ((ll_j2.length : Int) - 1)) <|
  (idx ll_j2 ((ll_j2.length : Int) - 1)).bind fun x10 =>
  chk (decide ((x10.length + ([x6] : List Str).length) * 16 ≤ 140737488355328)) <|
  (idx ll_j2 ((ll_j2.length : Int) - 1)).bind fun x15 =>
  chk (i64b ((i_1 : Int) + 1)) <|
  cont1 ((ll_j2.set ((ll_j2.length : Int) - 1).toNat (x10 ++ ([x6] : List Str))), i_1 + 1)
def law3_WordsRoundTrip_k4 (cont2 : Nat → Option Bool) (t77_2 : Nat) : Unit → Option Bool := fun _ =>
  cont2 (t77_2 + 1)
def law3_WordsRoundTrip_b3 (x40 : List Word) (y27 : (List (List Word)) × Int × Int) (t77_2 : Nat) (ll_1 : List (List Str)) (cont2 : Nat → Option Bool) (cont3 : Nat → Option Bool) : Nat → Option Bool := fun t96_3 =>
  if decide ((t96_3 : Int) < (x40.length : Int)) then
    ((idx y27.1 (t77_2 : Int)).bind fun x44 =>
    (idx x44 (t96_3 : Int)).bind fun x46 =>
    (idx ll_1 (t77_2 : Int)).bind fun x48 =>
    (idx x48 (t96_3 : Int)).bind fun x50 =>
    (whn (!(!decide (x46.Text = x50))) default (idx y27.1 (t77_2 : Int))).bind fun x52 =>
    if (!(!decide (x46.Text = x50))) then
    ((idx x52 (t96_3 : Int)).bind fun x56 =>
    if ((!decide (x46.Text = x50)) || decide (x56.Line ≠ ((t77_2 : Int) + 1))) then
      (some false)
    else
      (cont3 (t96_3 + 1)))
    else
    (some false))
  else
    (law3_WordsRoundTrip_k4 cont2 t77_2 ())
def law3_WordsRoundTrip_k3 : Unit → Option Bool := fun _ =>
  some true
def law3_WordsRoundTrip_b2 (y27 : (List (List Word)) × Int × Int) (ll_1 : List (List Str)) (cont2 : Nat → Option Bool) : Nat → Option Bool := fun t77_2 =>
  if decide ((t77_2 : Int) < (y27.1.length : Int)) then
    ((idx y27.1 (t77_2 : Int)).bind fun x35 =>
    (idx ll_1 (t77_2 : Int)).bind fun x37 =>
    if decide ((x35.length : Int) ≠ (x37.length : Int)) then
      (some false)
    else
      ((idx y27.1 (t77_2 : Int)).bind fun x40 =>
      iter (law3_WordsRoundTrip_b3 x40 y27 t77_2 ll_1 cont2) FUEL 0))
  else
    (law3_WordsRoundTrip_k3 ())
def law3_WordsRoundTrip_k1 (ll_1 : List (List Str)) : Unit → Option Bool := fun _ =>
  (words_Join_m ll_1).bind fun y25 =>
  (words_Lines_m y25).bind fun y27 =>
  (law3_awake_m).bind fun y30 =>
  if (((!y30) || decide (y27.2.2 ≠ 0)) || decide ((y27.1.length : Int) ≠ (ll_1.length : Int))) then
    (some false)
  else
    (iter (law3_WordsRoundTrip_b2 y27 ll_1) FUEL 0)
def law3_WordsRoundTrip_b1 (p0 : List UInt8) (cut0 : Int) (cont1 : ((List (List Str)) × Nat) → Option Bool) : ((List (List Str)) × Nat) → Option Bool := fun (ll_1, i_1) =>
  if (decide ((i_1 : Int) < (p0.length : Int)) && decide ((i_1 : Int) < 60)) then
    ((idx p0 (i_1 : Int)).bind fun x4 =>
    (idx ([(⟨[120]⟩ : Str), (⟨[45, 49]⟩ : Str), (⟨[46, 46]⟩ : Str), (⟨[126, 125]⟩ : Str), (⟨[78, 97, 109, 101, 95, 49]⟩ : Str), (⟨[33, 34, 36]⟩ : Str)] : List Str) ((x4.toNat : Int).tmod 6)).bind fun x6 =>
    chk (i64b (1 + (IntKind.i64.wrap (cut0.tmod 7)))) <|
    chk (decide ((1 + (IntKind.i64.wrap (cut0.tmod 7))) ≠ 0)) <|
    if decide (((i_1 : Int).tmod (1 + (IntKind.i64.wrap (cut0.tmod 7)))) = 0) then
      (chk (decide ((ll_1.length + 1) * 24 ≤ 140737488355328)) <|
      law3_WordsRoundTrip_k2 x6 i_1 cont1 (ll_1 ++ [[]]))
    else
      (law3_WordsRoundTrip_k2 x6 i_1 cont1 ll_1))
  else
    (law3_WordsRoundTrip_k1 ll_1 ())
def law3_WordsRoundTrip_m (p0 : List UInt8) (cut0 : Int) : Option Bool :=
  iter (law3_WordsRoundTrip_b1 p0 cut0) FUEL (([] : List (List Str)), 0)
theorem law3_WordsRoundTrip_spec (S : Soup) (w : World) (p0 : List UInt8) (r_p0 : GoRep.R (List UInt8)) (cut0 : Int) (y : Bool) (hM : law3_WordsRoundTrip_m p0 cut0 = some y) (hS : ∀ k, S k → k < w.heap.size) (h_p0 : GoRep.ok S w r_p0 p0) :
    Calls Tryd.prog 12 #[.slice r_p0.a p0.length r_p0.cap, .int .u8 cut0] w (Ret w (.bool y)) := by
  refine calls_cw (args := [_, _]) Tryd.func12 rfl ((pre_nil hS).start |>.immP (α := List UInt8) (r := r_p0) (x := p0) h_p0) rfl ?_
  unfold law3_WordsRoundTrip_m at hM
  refine cw_seq fun K1 hK1 => ?_
  refine cw_region ?_
  refine ow_ev ev_assign ?_
  refine ow_nil (hK1 _ _ ?_); clear hK1
  refine cw_seq fun K2 hK2 => ?_
  refine cw_region ?_
  refine ow_ev ev_assign ?_
  refine ow_nil (hK2 _ _ ?_); clear hK2
  refine cw_seq fun K3 hK3 => ?_
  refine cw_seq fun K4 hK4 => ?_
  refine cw_region ?_
  refine ow_ev ev_assign ?_
  refine ow_nil (hK4 _ _ ?_); clear hK4
  refine cw_block ?_
  refine cw_imp (fun w hm => hm.row_nil (α := List Str) 43 (fun _ => (⟨none, 0, (fun _ => ())⟩ : SR (GoRep.R Str)))) ?_
  refine cw_imp (fun w hm => hm.nil0 (e := 43) (e2 := 9) (fun _ => ⟨rfl, rfl⟩) (by repeat (first | exact Upd.head | apply Upd.tail))) ?_
  refine cw_loop (γ := Nat × ((List (List Str)) × Nat) × (SR (GoRep.R (List Str)))) (env := fun (_, (ll_1, i_1), rl_1) => [(0, .v (.slice r_p0.a p0.length r_p0.cap)), (1, .v (.int .u8 cut0)), (5, .v (.slice rl_1.a ll_1.length rl_1.cap)), (6, .v (.int .i64 (i_1 : Int)))]) (mem := fun (_, (ll_1, i_1), rl_1) => [imm (α := (List UInt8)) r_p0 p0, rows2 (fun _ => True) 43 9 rl_1 ll_1]) (R := fun g => iter (law3_WordsRoundTrip_b1 p0 cut0) g.1 g.2.1 = some y) (μ := fun g => g.1) (FUEL, (([] : List (List Str)), 0), (⟨none, 0, (fun _ => (⟨none, 0, (fun _ => ())⟩ : SR (GoRep.R Str)))⟩ : SR (GoRep.R (List Str)) )) hM ⟨rfl, rfl, rfl, rfl, trivial⟩ (fun w hm => hm.reord) ?_
  clear hM
  intro g hM KL1 hL1
  obtain ⟨nn1, ⟨ll_1, i_1⟩, rl_1⟩ := g
  dsimp only at hM ⊢
  obtain ⟨nn1, cont1, rfl, hcont1, hM⟩ := iter_open' hM
  dsimp only [law3_WordsRoundTrip_b1] at hM
  refine cw_seq fun K5 hK5 => ?_
  refine cw_seq fun K6 hK6 => ?_
  refine cw_region ?_
  refine ow_ev ev_move ?_
  refine ow_ev ev_move ?_
  refine ow_ev ev_len ?_
  refine ow_ev ev_lss ?_
  refine ow_ev ev_move ?_
  refine ow_evg rfl ev_move ?_
  refine ow_evg rfl ev_lss ?_
  refine ow_ev ev_and ?_
  refine ow_nil (hK6 _ _ ?_); clear hK6
  refine cw_cond rfl (fun hc2 => ?_) (fun hc2 => ?_)
  ·
    replace hM := (ite_t hc2).symm.trans hM
    refine cw_skip (hK5 _ _ ?_); clear hK5
    refine cw_seq fun K7 hK7 => ?_
    refine cw_block ?_
    refine cw_seq fun K8 hK8 => ?_
    refine cw_region ?_
    refine ow_cons (st_bslice (α := Str) 9 (fun _ => ()) ([(⟨[120]⟩ : Str), (⟨[45, 49]⟩ : Str), (⟨[46, 46]⟩ : Str), (⟨[126, 125]⟩ : Str), (⟨[78, 97, 109, 101, 95, 49]⟩ : Str), (⟨[33, 34, 36]⟩ : Str)] : List Str) (OkL.flat (fun _ _ _ _ => trivial)) (fun r3 => ?_))
    refine ow_ev ev_move ?_
    refine ow_ev ev_move ?_
    obtain ⟨x4, hx5, hM⟩ := bind_some hM
    refine ow_ev (ev_idx (xs := p0) 1 (Kn.imm (α := List UInt8) (r := r_p0) (x := p0) (by repeat (first | exact Has.head | apply Has.tail))) (fun hg => let h := idx_some hx5; ⟨h.1, h.2.1⟩)) ?_
    refine ow_ev (ev_ld (i := (i_1 : Int)) (xs := p0) (y := x4) 0 (Kn.imm (α := List UInt8) (r := r_p0) (x := p0) (by repeat (first | exact Has.head | apply Has.tail))) (fun _ => hx5)) ?_
    refine ow_ev ev_rem ?_
    obtain ⟨x6, hx7, hM⟩ := bind_some hM
    refine ow_ev (ev_idx (xs := ([(⟨[120]⟩ : Str), (⟨[45, 49]⟩ : Str), (⟨[46, 46]⟩ : Str), (⟨[126, 125]⟩ : Str), (⟨[78, 97, 109, 101, 95, 49]⟩ : Str), (⟨[33, 34, 36]⟩ : Str)] : List Str)) 1 (Kn.trow (e := 9) (r := r3) (by repeat (first | exact Has.head | apply Has.tail))) (fun hg => let h := idx_some hx7; ⟨h.1, h.2.1⟩)) ?_
    refine ow_ev (ev_ld (i := ((x4.toNat : Int).tmod 6)) (xs := ([(⟨[120]⟩ : Str), (⟨[45, 49]⟩ : Str), (⟨[46, 46]⟩ : Str), (⟨[126, 125]⟩ : Str), (⟨[78, 97, 109, 101, 95, 49]⟩ : Str), (⟨[33, 34, 36]⟩ : Str)] : List Str)) (y := x6) 0 (Kn.trow (e := 9) (r := r3) (by repeat (first | exact Has.head | apply Has.tail))) (fun _ => hx7)) ?_
    refine ow_ev ev_assign ?_
    refine ow_nil (hK8 _ _ ?_); clear hK8
    refine cw_cut (γ := (List (List Str)) × (SR (GoRep.R (List Str)))) (env := fun (ll_j2, rl_j2) => [(0, .v (.slice r_p0.a p0.length r_p0.cap)), (1, .v (.int .u8 cut0)), (5, .v (.slice rl_j2.a ll_j2.length rl_j2.cap)), (6, .v (.int .i64 (i_1 : Int))), (7, .v (.string x6.ba))]) (mem := fun (ll_j2, rl_j2) => [imm (α := (List UInt8)) r_p0 p0, rows2 (fun _ => True) 43 9 rl_j2 ll_j2]) (R := fun g => law3_WordsRoundTrip_k2 x6 i_1 cont1 g.1 = some y) ?_ ?_
    · intro KJ2 hJ2
      refine cw_seq fun K9 hK9 => ?_
      refine cw_region ?_
      refine ow_ev ev_move ?_
      refine ow_ev ev_move ?_
      refine ow_ev ev_rem ?_
      refine ow_ev (ev_convert_int .i64) ?_
      obtain ⟨hI18, hM⟩ := chk_some hM
      refine ow_ev (ev_add (hr := fun hg => i64b_I64 hI18)) ?_
      obtain ⟨hI19, hM⟩ := chk_some hM
      refine ow_ev (ev_rem (hq := fun hg => of_decide_eq_true hI19)) ?_
      refine ow_ev ev_eql ?_
      refine ow_nil (hK9 _ _ ?_); clear hK9
      refine cw_cond rfl (fun hc20 => ?_) (fun hc20 => ?_)
      ·
        replace hM := (ite_t hc20).symm.trans hM
        refine cw_region ?_
        refine ow_ev ev_move ?_
        refine ow_imp (fun w hm => hm.row_nil (α := Str) 9 (fun _ => ())) ?_
        refine ow_imp (fun w hm => hm.freeze (r := (⟨none, 0, (fun _ => ())⟩ : SR (GoRep.R Str)           )) (by repeat (first | exact Upd.head | apply Upd.tail))) ?_
        refine ow_cons (st_bsliceE (α := List Str) 43 (fun _ => (⟨none, 0, (fun _ => ())⟩ : SR (GoRep.R Str)           )) ([([] : List Str)] : List (List Str)) (OkL.cons (fun S w hs => ((Sk.imm (α := List Str) (r := (⟨none, 0, (fun _ => ())⟩ : SR (GoRep.R Str)           )) (x := ([] : List Str)) (by repeat (first | exact Has.head | apply Has.tail))) S w hs)) OkL.nil) (fun r22 hr22 => ?_))
        obtain ⟨hb23, hM⟩ := chk_some hM
        refine ow_cons (st_app2 (r := rl_1) (r2 := r22) (xs := ll_1) (fun _ => ()) (by repeat (first | exact Sel.head | apply Sel.tail)) (by repeat (first | exact Has.head | apply Has.tail)) hr22 (of_decide_eq_true hb23) (fun r24 => ?_))
        refine ow_ev ev_assign ?_
        refine ow_nil (hJ2 ((ll_1 ++ [[]]), r24) _ _ hM ⟨rfl, rfl, rfl, rfl, rfl, trivial⟩ (fun w hm => hm.reord))
      ·
        replace hM := (ite_f hc20).symm.trans hM
        refine cw_skip (hJ2 (ll_1, rl_1) _ _ hM ⟨rfl, rfl, rfl, rfl, rfl, trivial⟩ (fun w hm => hm.reord))
    ·
      clear hM
      intro g hM
      obtain ⟨ll_j2, rl_j2⟩ := g
      dsimp only at hM ⊢
      dsimp only [law3_WordsRoundTrip_k2] at hM
      refine cw_region ?_
      refine ow_ev ev_move ?_
      refine ow_ev ev_move ?_
      refine ow_ev ev_len ?_
      obtain ⟨hI8, hM⟩ := chk_some hM
      refine ow_ev (ev_sub (hr := fun hg => i64b_I64 hI8)) ?_
      refine ow_ev ev_move ?_
      refine ow_ev ev_move ?_
      refine ow_ev ev_len ?_
      obtain ⟨hI9, hM⟩ := chk_some hM
      refine ow_ev (ev_sub (hr := fun hg => i64b_I64 hI9)) ?_
      obtain ⟨x10, hx11, hM⟩ := bind_some hM
      refine ow_ev (ev_idx2 (r := rl_j2) (xs := ll_j2) (by repeat (first | exact Has.head | apply Has.tail)) (fun hg => let h := idx_some hx11; ⟨h.1, h.2.1⟩)) ?_
      refine ow_ev (ev_ld2 (r := rl_j2) (xs := ll_j2) (i := ((ll_j2.length : Int) - 1)) (by repeat (first | exact Has.head | apply Has.tail)) (fun _ => hx11)) ?_
      refine ow_ev ev_move ?_
      refine ow_cons (st_bslice (α := Str) 9 (fun _ => ()) ([x6] : List Str) (OkL.flat (fun _ _ _ _ => trivial)) (fun r12 => ?_))
      refine ow_imp (fun w hm => hm.open2 (e := 43) (e2 := 9) (r := rl_j2) (xs := ll_j2) hx11 (by repeat (first | exact Sel.head | apply Sel.tail))) ?_
      obtain ⟨hb13, hM⟩ := chk_some hM
      refine ow_cons (st_append (r := (rl_j2.es ((ll_j2.length : Int) - 1).toNat)) (r2 := r12) (by intro r'; repeat (first | exact Upd.head | apply Upd.tail)) (Kn.trow (e := 9) (r := r12) (by repeat (first | exact Has.head | apply Has.tail))) (OkL.flat (fun _ _ _ _ => trivial)) (of_decide_eq_true hb13) (fun r14 => ?_))
      obtain ⟨x15, hx16, hM⟩ := bind_some hM
      refine ow_ev (ev_idx2 (r := rl_j2) (xs := ll_j2) (by repeat (first | exact Has.head | apply Has.tail)) (fun hg => let h := idx_some hx16; ⟨h.1, h.2.1⟩)) ?_
      refine ow_cons (st_set2 (r := rl_j2) (xs := ll_j2) (i := ((ll_j2.length : Int) - 1)) (q := r14) (u' := (x10 ++ ([x6] : List Str))) hx11 (by repeat (first | exact Upd.head | apply Upd.tail)) ?_)
      refine ow_imp (fun w hm => hm.shut2 (e := 43) (e2 := 9) (r := rl_j2) (xs := ll_j2) (q := r14) (u' := (x10 ++ ([x6] : List Str))) hx11 (by repeat (first | exact Sel.head | apply Sel.tail)) (by repeat (first | exact Sel.head | apply Sel.tail))) ?_
      refine ow_nil (hK7 _ _ ?_); clear hK7
      refine cw_region ?_
      refine ow_ev ev_move ?_
      obtain ⟨hI17, hM⟩ := chk_some hM
      refine ow_ev (ev_add (hr := fun hg => i64b_I64 hI17)) ?_
      refine ow_ev ev_assign ?_
      refine ow_nil (hL1 (nn1, ((ll_j2.set ((ll_j2.length : Int) - 1).toNat (x10 ++ ([x6] : List Str))), i_1 + 1), (rl_j2.upd ((ll_j2.length : Int) - 1).toNat r14)) _ _ (eqc hcont1 hM) (Nat.lt_succ_self _) ⟨rfl, rfl, (by simp only [List.length_set]; rfl), rfl, trivial⟩ (fun w hm => hm.reord))
  ·
    replace hM := (ite_f hc2).symm.trans hM
    refine cw_exit (hK3 _ _ ?_); clear hK3
    dsimp only [law3_WordsRoundTrip_k1] at hM
    refine cw_seq fun K10 hK10 => ?_
    refine cw_region ?_
    refine ow_ev ev_move ?_
    obtain ⟨y25, hy26, hM⟩ := bind_some hM
    refine ow_cons (st_callv (fun w hm => let ⟨S, hs⟩ := hm; words_Join_spec _ w ll_1 rl_1 y25 hy26 (lend_lt hs) (Kn.lend (Kn.trow2 (e := 43) (r := rl_1) (by repeat (first | exact Has.head | apply Has.tail))) hs)) ?_)
    obtain ⟨y27, hy28, hM⟩ := bind_some hM
    refine ow_cons (st_callS SelL.nil (fun S w hs hP => words_Lines_spec _ w y25 y27 hy28 hs.lt )  (fun r29 => ?_))
    dsimp only [List.cons_append, List.nil_append]
    refine ow_ev ev_move ?_
    refine ow_ev (ev_extract (vs := [.slice r29.a y27.1.length r29.cap, .int .i64 y27.2.1, .int .i64 y27.2.2])) ?_
    refine ow_ev (ev_extract (vs := [.slice r29.a y27.1.length r29.cap, .int .i64 y27.2.1, .int .i64 y27.2.2])) ?_
    refine ow_ev (ev_extract (vs := [.slice r29.a y27.1.length r29.cap, .int .i64 y27.2.1, .int .i64 y27.2.2])) ?_
    refine ow_ev ev_assign ?_
    refine ow_ev ev_assign ?_
    refine ow_ev ev_assign ?_
    refine ow_nil (hK10 _ _ ?_); clear hK10
    refine cw_seq fun K11 hK11 => ?_
    refine cw_seq fun K12 hK12 => ?_
    refine cw_region ?_
    obtain ⟨y30, hy31, hM⟩ := bind_some hM
    refine ow_cons (st_callv (fun w hm => let ⟨S, hs⟩ := hm; law3_awake_spec _ w  y30 hy31 (lend_lt hs) ) ?_)
    refine ow_ev ev_not ?_
    refine ow_ev ev_move ?_
    refine ow_evg rfl ev_move ?_
    refine ow_evg rfl ev_neq ?_
    refine ow_ev ev_or ?_
    refine ow_ev ev_move ?_
    refine ow_evg rfl ev_move ?_
    refine ow_evg rfl ev_len ?_
    refine ow_evg rfl ev_move ?_
    refine ow_evg rfl ev_len ?_
    refine ow_evg rfl ev_neq ?_
    refine ow_ev ev_or ?_
    refine ow_nil (hK12 _ _ ?_); clear hK12
    refine cw_cond rfl (fun hc32 => ?_) (fun hc32 => ?_)
    ·
      replace hM := (ite_t hc32).symm.trans hM
      refine cw_seq fun K13 hK13 => ?_
      refine cw_region ?_
      refine ow_ev ev_assign ?_
      refine ow_nil (hK13 _ _ ?_); clear hK13
      obtain rfl := some_inj hM
      refine cw_ret (kw_retc1 (fun w hm => ret_of hm rfl))
    ·
      replace hM := (ite_f hc32).symm.trans hM
      refine cw_skip (hK11 _ _ ?_); clear hK11
      refine cw_seq fun K14 hK14 => ?_
      refine cw_seq fun K15 hK15 => ?_
      refine cw_region ?_
      refine ow_ev ev_move ?_
      refine ow_have (fun w hm => Kn.len (Kn.trow (e := 33) (r := r29) (by repeat (first | exact Has.head | apply Has.tail))) hm) fun hl33 => ?_
      refine ow_ev ev_len ?_
      refine ow_ev ev_move ?_
      refine ow_nil (hK15 _ _ ?_); clear hK15
      refine cw_block ?_
      refine cw_loop (γ := Nat × Nat × Unit) (env := fun (_, t77_2, _) => [(5, .v (.slice rl_1.a ll_1.length rl_1.cap)), (8, .v (.slice r29.a y27.1.length r29.cap)), (76, .v (.int .i64 (y27.1.length : Int))), (77, .v (.int .i64 (t77_2 : Int)))]) (mem := fun (_, t77_2, _) => [rows2 (fun _ => True) 43 9 rl_1 ll_1, trow 33 r29 y27.1]) (R := fun g => iter (law3_WordsRoundTrip_b2 y27 ll_1) g.1 g.2.1 = some y) (μ := fun g => g.1) (FUEL, 0, ()) hM ⟨rfl, rfl, rfl, rfl, trivial⟩ (fun w hm => hm.reord) ?_
      clear hM
      intro g hM KL2 hL2
      obtain ⟨nn2, t77_2, ⟨⟩⟩ := g
      dsimp only at hM ⊢
      obtain ⟨nn2, cont2, rfl, hcont2, hM⟩ := iter_open' hM
      dsimp only [law3_WordsRoundTrip_b2] at hM
      refine cw_seq fun K16 hK16 => ?_
      refine cw_region ?_
      refine ow_ev ev_lss ?_
      refine ow_nil (hK16 _ _ ?_); clear hK16
      refine cw_seq fun K17 hK17 => ?_
      refine cw_cond rfl (fun hc34 => ?_) (fun hc34 => ?_)
      ·
        replace hM := (ite_t hc34).symm.trans hM
        have hc34d := of_decide_eq_true hc34
        refine cw_skip (hK17 _ _ ?_); clear hK17
        refine cw_seq fun K18 hK18 => ?_
        refine cw_block ?_
        refine cw_seq fun K19 hK19 => ?_
        refine cw_region ?_
        refine ow_ev ev_move ?_
        refine ow_ev ev_assign ?_
        refine ow_nil (hK19 _ _ ?_); clear hK19
        refine cw_seq fun K20 hK20 => ?_
        refine cw_seq fun K21 hK21 => ?_
        refine cw_region_any _ (List.Sublist.refl _) ?_
        refine aw_ev 0 rfl ev_move ?_
        refine aw_ev 1 rfl ev_move ?_
        obtain ⟨x35, hx36, hM⟩ := bind_some hM
        refine aw_ev 2 rfl (ev_idx (xs := y27.1) 1 (Kn.trow (e := 33) (r := r29) (by repeat (first | exact Has.head | apply Has.tail))) (fun hg => let h := idx_some hx36; ⟨h.1, h.2.1⟩)) ?_
        refine aw_ev 3 rfl (ev_ld (i := (t77_2 : Int)) (xs := y27.1) (y := x35) 0 (Kn.trow (e := 33) (r := r29) (by repeat (first | exact Has.head | apply Has.tail))) (fun _ => hx36)) ?_
        refine aw_ev 4 rfl ev_len ?_
        refine aw_ev 5 rfl ev_move ?_
        refine aw_ev 6 rfl ev_move ?_
        obtain ⟨x37, hx38, hM⟩ := bind_some hM
        refine aw_ev 7 rfl (ev_idx2 (r := rl_1) (xs := ll_1) (by repeat (first | exact Has.head | apply Has.tail)) (fun hg => let h := idx_some hx38; ⟨h.1, h.2.1⟩)) ?_
        refine aw_ev 8 rfl (ev_ld2 (r := rl_1) (xs := ll_1) (i := (t77_2 : Int)) (by repeat (first | exact Has.head | apply Has.tail)) (fun _ => hx38)) ?_
        refine aw_ev 9 rfl ev_len ?_
        refine aw_ev 10 rfl ev_neq ?_
        refine aw_done (hK21 _ _ ?_); clear hK21
        refine cw_cond rfl (fun hc39 => ?_) (fun hc39 => ?_)
        ·
          replace hM := (ite_t hc39).symm.trans hM
          refine cw_seq fun K22 hK22 => ?_
          refine cw_region ?_
          refine ow_ev ev_assign ?_
          refine ow_nil (hK22 _ _ ?_); clear hK22
          obtain rfl := some_inj hM
          refine cw_ret (kw_retc1 (fun w hm => ret_of hm rfl))
        ·
          replace hM := (ite_f hc39).symm.trans hM
          refine cw_skip (hK20 _ _ ?_); clear hK20
          refine cw_seq fun K23 hK23 => ?_
          refine cw_region ?_
          refine ow_ev ev_move ?_
          refine ow_ev ev_move ?_
          obtain ⟨x40, hx41, hM⟩ := bind_some hM
          refine ow_ev (ev_idx (xs := y27.1) 1 (Kn.trow (e := 33) (r := r29) (by repeat (first | exact Has.head | apply Has.tail))) (fun hg => let h := idx_some hx41; ⟨h.1, h.2.1⟩)) ?_
          refine ow_ev (ev_ld (i := (t77_2 : Int)) (xs := y27.1) (y := x40) 0 (Kn.trow (e := 33) (r := r29) (by repeat (first | exact Has.head | apply Has.tail))) (fun _ => hx41)) ?_
          refine ow_have (fun w hm => Kn.len ((Sk.row (e := 33) (r := r29) (by repeat (first | exact Has.head | apply Has.tail)) hx41)).kn hm) fun hl42 => ?_
          refine ow_ev ev_len ?_
          refine ow_ev ev_move ?_
          refine ow_nil (hK23 _ _ ?_); clear hK23
          refine cw_block ?_
          refine cw_loop (γ := Nat × Nat × Unit) (env := fun (_, t96_3, _) => [(5, .v (.slice rl_1.a ll_1.length rl_1.cap)), (8, .v (.slice r29.a y27.1.length r29.cap)), (11, .v (.int .i64 (t77_2 : Int))), (76, .v (.int .i64 (y27.1.length : Int))), (77, .v (.int .i64 (t77_2 : Int))), (95, .v (.int .i64 (x40.length : Int))), (96, .v (.int .i64 (t96_3 : Int)))]) (mem := fun (_, t96_3, _) => [rows2 (fun _ => True) 43 9 rl_1 ll_1, trow 33 r29 y27.1]) (R := fun g => iter (law3_WordsRoundTrip_b3 x40 y27 t77_2 ll_1 cont2) g.1 g.2.1 = some y) (μ := fun g => g.1) (FUEL, 0, ()) hM ⟨rfl, rfl, rfl, rfl, rfl, rfl, rfl, trivial⟩ (fun w hm => hm.reord) ?_
          clear hM
          intro g hM KL3 hL3
          obtain ⟨nn3, t96_3, ⟨⟩⟩ := g
          dsimp only at hM ⊢
          obtain ⟨nn3, cont3, rfl, hcont3, hM⟩ := iter_open' hM
          dsimp only [law3_WordsRoundTrip_b3] at hM
          refine cw_seq fun K24 hK24 => ?_
          refine cw_region ?_
          refine ow_ev ev_lss ?_
          refine ow_nil (hK24 _ _ ?_); clear hK24
          refine cw_seq fun K25 hK25 => ?_
          refine cw_cond rfl (fun hc43 => ?_) (fun hc43 => ?_)
          ·
            replace hM := (ite_t hc43).symm.trans hM
            have hc43d := of_decide_eq_true hc43
            refine cw_skip (hK25 _ _ ?_); clear hK25
            refine cw_seq fun K26 hK26 => ?_
            refine cw_block ?_
            refine cw_seq fun K27 hK27 => ?_
            refine cw_region ?_
            refine ow_ev ev_move ?_
            refine ow_ev ev_assign ?_
            refine ow_nil (hK27 _ _ ?_); clear hK27
            refine cw_seq fun K28 hK28 => ?_
            refine cw_region_any _ (List.Sublist.refl _) ?_
            refine aw_ev 0 rfl ev_move ?_
            refine aw_ev 1 rfl ev_move ?_
            obtain ⟨x44, hx45, hM⟩ := bind_some hM
            refine aw_ev 2 rfl (ev_idx (xs := y27.1) 1 (Kn.trow (e := 33) (r := r29) (by repeat (first | exact Has.head | apply Has.tail))) (fun hg => let h := idx_some hx45; ⟨h.1, h.2.1⟩)) ?_
            refine aw_ev 3 rfl (ev_ld (i := (t77_2 : Int)) (xs := y27.1) (y := x44) 0 (Kn.trow (e := 33) (r := r29) (by repeat (first | exact Has.head | apply Has.tail))) (fun _ => hx45)) ?_
            refine aw_ev 4 rfl ev_move ?_
            obtain ⟨x46, hx47, hM⟩ := bind_some hM
            refine aw_ev 5 rfl (ev_idx (xs := x44) 3 ((Sk.row (e := 33) (r := r29) (by repeat (first | exact Has.head | apply Has.tail)) hx45)).kn (fun hg => let h := idx_some hx47; ⟨h.1, h.2.1⟩)) ?_
            refine aw_ev 6 rfl (ev_field_addr 0) ?_
            refine aw_ev 7 rfl (ev_ld (i := (t96_3 : Int)) (xs := x44) (y := x46) 0 ((Sk.row (e := 33) (r := r29) (by repeat (first | exact Has.head | apply Has.tail)) hx45)).kn (fun _ => hx47)) ?_
            refine aw_ev 8 rfl ev_move ?_
            refine aw_ev 9 rfl ev_move ?_
            obtain ⟨x48, hx49, hM⟩ := bind_some hM
            refine aw_ev 10 rfl (ev_idx2 (r := rl_1) (xs := ll_1) (by repeat (first | exact Has.head | apply Has.tail)) (fun hg => let h := idx_some hx49; ⟨h.1, h.2.1⟩)) ?_
            refine aw_ev 11 rfl (ev_ld2 (r := rl_1) (xs := ll_1) (i := (t77_2 : Int)) (by repeat (first | exact Has.head | apply Has.tail)) (fun _ => hx49)) ?_
            refine aw_ev 12 rfl ev_move ?_
            obtain ⟨x50, hx51, hM⟩ := bind_some hM
            refine aw_ev 13 rfl (ev_idx (xs := x48) 1 (Kn.row2 (e := 43) (e2 := 9) (r := rl_1) (xs := ll_1) (by repeat (first | exact Has.head | apply Has.tail)) hx49) (fun hg => let h := idx_some hx51; ⟨h.1, h.2.1⟩)) ?_
            refine aw_ev 14 rfl (ev_ld (i := (t96_3 : Int)) (xs := x48) (y := x50) 0 (Kn.row2 (e := 43) (e2 := 9) (r := rl_1) (xs := ll_1) (by repeat (first | exact Has.head | apply Has.tail)) hx49) (fun _ => hx51)) ?_
            refine aw_ev 15 rfl ev_str_neq ?_
            refine aw_ev 16 rfl ev_move ?_
            refine aw_evg 17 rfl rfl ev_move ?_
            refine aw_evg 18 rfl rfl ev_move ?_
            obtain ⟨x52, hx53, hM⟩ := bind_some hM
            refine aw_evg 19 rfl rfl (ev_idx (xs := y27.1) 1 (Kn.trow (e := 33) (r := r29) (by repeat (first | exact Has.head | apply Has.tail))) (fun hg => let h := idx_some (whn_some hx53 hg); ⟨h.1, h.2.1⟩)) ?_
            refine aw_cases (!(!decide (x46.Text = x50))) (fun hg54 => ?_) (fun hg54 => ?_)
            ·
              replace hM := (ite_t hg54).symm.trans hM
              have hx55 := whn_some hx53 hg54
              refine aw_know 116 hg54 rfl ?_
              refine aw_know 117 hg54 rfl ?_
              refine aw_know 118 hg54 rfl ?_
              refine aw_evk 20 rfl rfl hg54 (ev_ld (i := (t77_2 : Int)) (xs := y27.1) (y := x52) 0 (Kn.trow (e := 33) (r := r29) (by repeat (first | exact Has.head | apply Has.tail))) (fun _ => hx55)) ?_
              refine aw_evk 21 rfl rfl hg54 ev_move ?_
              obtain ⟨x56, hx57, hM⟩ := bind_some hM
              refine aw_evk 22 rfl rfl hg54 (ev_idx (xs := x52) 3 ((Sk.row (e := 33) (r := r29) (by repeat (first | exact Has.head | apply Has.tail)) hx55)).kn (fun hg => let h := idx_some hx57; ⟨h.1, h.2.1⟩)) ?_
              refine aw_evk 23 rfl rfl hg54 (ev_field_addr 1) ?_
              refine aw_evk 24 rfl rfl hg54 (ev_ld (i := (t96_3 : Int)) (xs := x52) (y := x56) 1 ((Sk.row (e := 33) (r := r29) (by repeat (first | exact Has.head | apply Has.tail)) hx55)).kn (fun _ => hx57)) ?_
              refine aw_evk 25 rfl rfl hg54 ev_move ?_
              refine aw_evk 26 rfl rfl hg54 (ev_add (hr := fun _ => by unfold I64; omega)) ?_
              refine aw_evk 27 rfl rfl hg54 ev_neq ?_
              refine aw_ev 28 rfl ev_or ?_
              refine aw_done (hK28 _ _ ?_); clear hK28
              refine cw_cond rfl (fun hc58 => ?_) (fun hc58 => ?_)
              ·
                replace hM := (ite_t hc58).symm.trans hM
                refine cw_seq fun K29 hK29 => ?_
                refine cw_region ?_
                refine ow_ev ev_assign ?_
                refine ow_nil (hK29 _ _ ?_); clear hK29
                obtain rfl := some_inj hM
                refine cw_ret (kw_retc1 (fun w hm => ret_of hm rfl))
              ·
                replace hM := (ite_f hc58).symm.trans hM
                refine cw_skip (hK26 _ _ ?_); clear hK26
                refine cw_region ?_
                refine ow_ev (ev_add (hr := fun _ => by unfold I64; omega)) ?_
                refine ow_ev ev_move ?_
                refine ow_nil (hL3 (nn3, (t96_3 + 1), ()) _ _ (eqc hcont3 hM) (Nat.lt_succ_self _) ⟨rfl, rfl, rfl, rfl, rfl, rfl, rfl, trivial⟩ (fun w hm => hm.reord))
            ·
              replace hM := (ite_f hg54).symm.trans hM
              refine aw_gskip 20 rfl rfl hg54 ?_
              refine aw_gskip 21 rfl rfl hg54 ?_
              refine aw_gskip 22 rfl rfl hg54 ?_
              refine aw_gskip 23 rfl rfl hg54 ?_
              refine aw_gskip 24 rfl rfl hg54 ?_
              refine aw_gskip 25 rfl rfl hg54 ?_
              refine aw_gskip 26 rfl rfl hg54 ?_
              refine aw_gskip 27 rfl rfl hg54 ?_
              refine aw_ev 28 rfl (ev_orT (bnT hg54)) ?_
              refine aw_done (hK28 _ _ ?_); clear hK28
              refine cw_cond_true rfl rfl ?_
              refine cw_seq fun K30 hK30 => ?_
              refine cw_region ?_
              refine ow_ev ev_assign ?_
              refine ow_nil (hK30 _ _ ?_); clear hK30
              obtain rfl := some_inj hM
              refine cw_ret (kw_retc1 (fun w hm => ret_of hm rfl))
          ·
            replace hM := (ite_f hc43).symm.trans hM
            refine cw_exit (hK18 _ _ ?_); clear hK18
            dsimp only [law3_WordsRoundTrip_k4] at hM
            refine cw_region ?_
            refine ow_ev (ev_add (hr := fun _ => by unfold I64; omega)) ?_
            refine ow_ev ev_move ?_
            refine ow_nil (hL2 (nn2, (t77_2 + 1), ()) _ _ (eqc hcont2 hM) (Nat.lt_succ_self _) ⟨rfl, rfl, rfl, rfl, trivial⟩ (fun w hm => hm.reord))
      ·
        replace hM := (ite_f hc34).symm.trans hM
        refine cw_exit (hK14 _ _ ?_); clear hK14
        dsimp only [law3_WordsRoundTrip_k3] at hM
        refine cw_seq fun K31 hK31 => ?_
        refine cw_region ?_
        refine ow_ev ev_assign ?_
        refine ow_nil (hK31 _ _ ?_); clear hK31
        obtain rfl := some_inj hM
        refine cw_ret (kw_retc1 (fun w hm => ret_of hm rfl))

end Go.Proofs.YtfbpbmnlbcnanaaDoor
