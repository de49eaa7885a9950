/- Models of functions, and that the code computes them. -/
import Derived.Test.YtfbpbmnlbcnanaaDoorWg
namespace Go.Proofs.YtfbpbmnlbcnanaaDoor
open Go.Dc Go.RowKit
set_option maxRecDepth 10000
set_option linter.unusedVariables false
def law3_WordsCommentsAndSpace_k3 : Unit → Option Bool := fun _ =>
  some true
def law3_WordsCommentsAndSpace_b3 (y32 : (List (List Word)) × Int × Int) (y35 : (List (List Word)) × Int × Int) (cont3 : Nat → Option Bool) : Nat → Option Bool := fun t99_3 =>
  if decide ((t99_3 : Int) < (y32.1.length : Int)) then
    ((idx y32.1 (t99_3 : Int)).bind fun x43 =>
    (whn (!(decide ((x43.length : Int) ≠ 1))) default (idx y35.1 (t99_3 : Int))).bind fun x45 =>
    if (!(decide ((x43.length : Int) ≠ 1))) then
    ((whn (!(decide ((x43.length : Int) ≠ 1) || decide ((x45.length : Int) ≠ 1))) default (idx y32.1 (t99_3 : Int))).bind fun x49 =>
    if (!(decide ((x43.length : Int) ≠ 1) || decide ((x45.length : Int) ≠ 1))) then
    ((idx x49 0).bind fun x53 =>
    (idx y35.1 (t99_3 : Int)).bind fun x55 =>
    (idx x55 0).bind fun x57 =>
    (whn (!((decide ((x43.length : Int) ≠ 1) || decide ((x45.length : Int) ≠ 1)) || (!decide (x53.Text = x57.Text)))) default (idx y35.1 (t99_3 : Int))).bind fun x59 =>
    if (!((decide ((x43.length : Int) ≠ 1) || decide ((x45.length : Int) ≠ 1)) || (!decide (x53.Text = x57.Text)))) then
    ((idx x59 0).bind fun x63 =>
    chk (i64b (2 * (t99_3 : Int))) <|
    chk (i64b ((2 * (t99_3 : Int)) + 1)) <|
    (whn (!(((decide ((x43.length : Int) ≠ 1) || decide ((x45.length : Int) ≠ 1)) || (!decide (x53.Text = x57.Text))) || decide (x63.Line ≠ ((2 * (t99_3 : Int)) + 1)))) default (idx y35.1 (t99_3 : Int))).bind fun x67 =>
    if (!(((decide ((x43.length : Int) ≠ 1) || decide ((x45.length : Int) ≠ 1)) || (!decide (x53.Text = x57.Text))) || decide (x63.Line ≠ ((2 * (t99_3 : Int)) + 1)))) then
    ((idx x67 0).bind fun x71 =>
    if ((((decide ((x43.length : Int) ≠ 1) || decide ((x45.length : Int) ≠ 1)) || (!decide (x53.Text = x57.Text))) || decide (x63.Line ≠ ((2 * (t99_3 : Int)) + 1))) || decide (x71.Col ≠ 3)) then
      (some false)
    else
      (cont3 (t99_3 + 1)))
    else
    (some false))
    else
    ((whn (!true) default (idx y35.1 (t99_3 : Int))).bind fun x74 =>
    if (!true) then
    ((idx x74 0).bind fun x78 =>
    if (true || decide (x78.Col ≠ 3)) then
      (some false)
    else
      (cont3 (t99_3 + 1)))
    else
    (some false)))
    else
    ((whn (!true) default (idx y35.1 (t99_3 : Int))).bind fun x81 =>
    if (!true) then
    ((idx x81 0).bind fun x85 =>
    chk (i64b (2 * (t99_3 : Int))) <|
    chk (i64b ((2 * (t99_3 : Int)) + 1)) <|
    (whn (!(true || decide (x85.Line ≠ ((2 * (t99_3 : Int)) + 1)))) default (idx y35.1 (t99_3 : Int))).bind fun x89 =>
    if (!(true || decide (x85.Line ≠ ((2 * (t99_3 : Int)) + 1)))) then
    ((idx x89 0).bind fun x93 =>
    if ((true || decide (x85.Line ≠ ((2 * (t99_3 : Int)) + 1))) || decide (x93.Col ≠ 3)) then
      (some false)
    else
      (cont3 (t99_3 + 1)))
    else
    (some false))
    else
    (some false)))
    else
    ((whn (!true) default (idx y32.1 (t99_3 : Int))).bind fun x96 =>
    if (!true) then
    ((idx x96 0).bind fun x100 =>
    (idx y35.1 (t99_3 : Int)).bind fun x102 =>
    (idx x102 0).bind fun x104 =>
    (whn (!(true || (!decide (x100.Text = x104.Text)))) default (idx y35.1 (t99_3 : Int))).bind fun x106 =>
    if (!(true || (!decide (x100.Text = x104.Text)))) then
    ((idx x106 0).bind fun x110 =>
    chk (i64b (2 * (t99_3 : Int))) <|
    chk (i64b ((2 * (t99_3 : Int)) + 1)) <|
    (whn (!((true || (!decide (x100.Text = x104.Text))) || decide (x110.Line ≠ ((2 * (t99_3 : Int)) + 1)))) default (idx y35.1 (t99_3 : Int))).bind fun x114 =>
    if (!((true || (!decide (x100.Text = x104.Text))) || decide (x110.Line ≠ ((2 * (t99_3 : Int)) + 1)))) then
    ((idx x114 0).bind fun x118 =>
    if (((true || (!decide (x100.Text = x104.Text))) || decide (x110.Line ≠ ((2 * (t99_3 : Int)) + 1))) || decide (x118.Col ≠ 3)) then
      (some false)
    else
      (cont3 (t99_3 + 1)))
    else
    (some false))
    else
    ((idx y35.1 (t99_3 : Int)).bind fun x121 =>
    (idx x121 0).bind fun x123 =>
    if (true || decide (x123.Col ≠ 3)) then
      (some false)
    else
      (cont3 (t99_3 + 1))))
    else
    (some false)))
  else
    (law3_WordsCommentsAndSpace_k3 ())
def law3_WordsCommentsAndSpace_k2 (t_2 : Str) (u_2 : Str) : Unit → Option Bool := fun _ =>
  (words_Lines_m t_2).bind fun y32 =>
  (words_Lines_m u_2).bind fun y35 =>
  (law3_awake_m).bind fun y38 =>
  if ((((!y38) || decide (y32.2.2 ≠ 0)) || decide (y35.2.2 ≠ 0)) || decide ((y32.1.length : Int) ≠ (y35.1.length : Int))) then
    (some false)
  else
    (iter (law3_WordsCommentsAndSpace_b3 y32 y35) FUEL 0)
def law3_WordsCommentsAndSpace_b2 (l0 : List UInt8) (s_1 : Str) (cont2 : (Str × Str × Nat) → Option Bool) : (Str × Str × Nat) → Option Bool := fun (t_2, u_2, i_2) =>
  if (decide ((i_2 : Int) < (l0.length : Int)) && decide ((i_2 : Int) < 30)) then
    ((idx l0 (i_2 : Int)).bind fun x13 =>
    (idx ([(⟨[97]⟩ : Str), (⟨[49, 50]⟩ : Str), (⟨[117, 112]⟩ : Str), (⟨[45]⟩ : Str)] : List Str) ((x13.toNat : Int).tmod 4)).bind fun x15 =>
    (strCat x15 (⟨[10]⟩ : Str)).bind fun q17 =>
    (strCat t_2 q17).bind fun q19 =>
    (strCat (⟨[32, 9]⟩ : Str) x15).bind fun q21 =>
    (strCat q21 (⟨[32, 32, 35]⟩ : Str)).bind fun q23 =>
    (strCat q23 s_1).bind fun q25 =>
    (strCat q25 (⟨[10, 10]⟩ : Str)).bind fun q27 =>
    (strCat u_2 q27).bind fun q29 =>
    chk (i64b ((i_2 : Int) + 1)) <|
    cont2 (q19, q29, i_2 + 1))
  else
    (law3_WordsCommentsAndSpace_k2 t_2 u_2 ())
def law3_WordsCommentsAndSpace_k1 (l0 : List UInt8) (s_1 : Str) : Unit → Option Bool := fun _ =>
  iter (law3_WordsCommentsAndSpace_b2 l0 s_1) FUEL ((⟨[]⟩ : Str), (⟨[]⟩ : Str), 0)
def law3_WordsCommentsAndSpace_b1 (comment0 : Str) (l0 : List UInt8) (cont1 : (Str × Nat) → Option Bool) : (Str × Nat) → Option Bool := fun (s_1, t19_1_1) =>
  if decide (t19_1_1 < comment0.l.length) then
  ((whn (decide ((t19_1_1 : Int) < 50)) 0 (byteAt comment0 (t19_1_1 : Int))).bind fun c3 =>
  if (decide ((t19_1_1 : Int) < 50) && decide (c3 ≠ 10)) then
    (chk (i64b ((t19_1_1 : Int) + 1)) <|
    (strSub comment0 (t19_1_1 : Int) ((t19_1_1 : Int) + 1)).bind fun q7 =>
    (strCat s_1 q7).bind fun q9 =>
    cont1 (q9, (t19_1_1 + (Utf8.decode comment0.ba t19_1_1).2)))
  else
    (cont1 (s_1, (t19_1_1 + (Utf8.decode comment0.ba t19_1_1).2))))
  else
  (law3_WordsCommentsAndSpace_k1 l0 s_1 ())
def law3_WordsCommentsAndSpace_m (l0 : List UInt8) (comment0 : Str) : Option Bool :=
  iter (law3_WordsCommentsAndSpace_b1 comment0 l0) FUEL ((⟨[]⟩ : Str), 0)
theorem law3_WordsCommentsAndSpace_spec (S : Soup) (w : World) (l0 : List UInt8) (r_l0 : GoRep.R (List UInt8)) (comment0 : Str) (y : Bool) (hM : law3_WordsCommentsAndSpace_m l0 comment0 = some y) (hS : ∀ k, S k → k < w.heap.size) (h_l0 : GoRep.ok S w r_l0 l0) :
    Calls Tryd.prog 8 #[.slice r_l0.a l0.length r_l0.cap, .string comment0.ba] w (Ret w (.bool y)) := by
  refine calls_cw (args := [_, _]) Tryd.func8 rfl ((pre_nil hS).start |>.immP (α := List UInt8) (r := r_l0) (x := l0) h_l0) rfl ?_
  unfold law3_WordsCommentsAndSpace_m at hM
  refine cw_seq fun K1 hK1 => ?_
  refine cw_region ?_
  refine ow_ev ev_assign ?_
  refine ow_nil (hK1 _ _ ?_); clear hK1
  refine cw_seq fun K2 hK2 => ?_
  refine cw_region ?_
  refine ow_ev ev_assign ?_
  refine ow_nil (hK2 _ _ ?_); clear hK2
  refine cw_seq fun K3 hK3 => ?_
  refine cw_seq fun K4 hK4 => ?_
  refine cw_region ?_
  refine ow_ev ev_move ?_
  refine ow_cons (st_rangeStr (s := comment0) (fun b1 => ?_))
  refine ow_nil (hK4 _ _ ?_); clear hK4
  refine cw_block ?_
  refine cw_loop (γ := Nat × (Str × Nat) × Unit) (env := fun (_, (s_1, t19_1_1), _) => [(0, .v (.slice r_l0.a l0.length r_l0.cap)), (1, .v (.string comment0.ba)), (5, .v (.string s_1.ba)), (19, .v (.pointer (some ⟨b1, 0, none⟩)))]) (mem := fun (_, (s_1, t19_1_1), _) => [imm (α := (List UInt8)) r_l0 l0, siter b1 comment0 t19_1_1]) (R := fun g => iter (law3_WordsCommentsAndSpace_b1 comment0 l0) g.1 g.2.1 = some y) (μ := fun g => g.1) (FUEL, ((⟨[]⟩ : Str), 0), ()) hM ⟨rfl, rfl, rfl, rfl, trivial⟩ (fun w hm => hm.reord) ?_
  clear hM
  intro g hM KL1 hL1
  obtain ⟨nn1, ⟨s_1, t19_1_1⟩, ⟨⟩⟩ := g
  dsimp only at hM ⊢
  obtain ⟨nn1, cont1, rfl, hcont1, hM⟩ := iter_open' hM
  dsimp only [law3_WordsCommentsAndSpace_b1] at hM
  refine cw_seq fun K5 hK5 => ?_
  refine cw_region ?_
  refine ow_cases (decide (t19_1_1 < comment0.l.length)) (fun hg2 => ?_) (fun hg2 => ?_)
  ·
    replace hM := (ite_t hg2).symm.trans hM
    refine ow_cons (st_nextStr (k_ := b1) (s := comment0) (pos := t19_1_1) (of_decide_eq_true hg2) (by repeat (first | exact Upd.head | apply Upd.tail)) ?_)
    refine ow_ev (ev_extract (vs := [.bool true, .int .i64 (t19_1_1 : Int), .int .i32 ((Utf8.decode comment0.ba t19_1_1).1 : Int)])) ?_
    refine ow_nil (hK5 _ _ ?_); clear hK5
    refine cw_seq fun K6 hK6 => ?_
    refine cw_cond_true rfl rfl ?_
    refine cw_skip (hK6 _ _ ?_); clear hK6
    refine cw_block ?_
    refine cw_seq fun K7 hK7 => ?_
    refine cw_region ?_
    refine ow_ev (ev_extract (vs := [.bool true, .int .i64 (t19_1_1 : Int), .int .i32 ((Utf8.decode comment0.ba t19_1_1).1 : Int)])) ?_
    refine ow_ev ev_assign ?_
    refine ow_nil (hK7 _ _ ?_); clear hK7
    refine cw_seq fun K8 hK8 => ?_
    refine cw_region ?_
    refine ow_ev ev_move ?_
    refine ow_ev ev_lss ?_
    refine ow_ev ev_move ?_
    refine ow_evg rfl ev_move ?_
    refine ow_evg rfl ev_move ?_
    obtain ⟨c3, hc_4, hM⟩ := bind_some hM
    refine ow_evg rfl (ev_sidx (whn_some hc_4)) ?_
    refine ow_evg rfl ev_neq ?_
    refine ow_ev ev_and ?_
    refine ow_nil (hK8 _ _ ?_); clear hK8
    refine cw_cond rfl (fun hc5 => ?_) (fun hc5 => ?_)
    ·
      replace hM := (ite_t hc5).symm.trans hM
      refine cw_region ?_
      refine ow_ev ev_move ?_
      refine ow_ev ev_move ?_
      refine ow_ev ev_move ?_
      refine ow_ev ev_move ?_
      obtain ⟨hI6, hM⟩ := chk_some hM
      refine ow_ev (ev_add (hr := fun hg => i64b_I64 hI6)) ?_
      obtain ⟨q7, hq8, hM⟩ := bind_some hM
      refine ow_ev (ev_ssub (ol := some (.i64, (t19_1_1 : Int))) (oh := some (.i64, ((t19_1_1 : Int) + 1))) (fun _ => hq8)) ?_
      obtain ⟨q9, hq10, hM⟩ := bind_some hM
      refine ow_ev (ev_scat (fun _ => hq10)) ?_
      refine ow_ev ev_assign ?_
      refine ow_nil (hL1 (nn1, (q9, (t19_1_1 + (Utf8.decode comment0.ba t19_1_1).2)), ()) _ _ (eqc hcont1 hM) (Nat.lt_succ_self _) ⟨rfl, rfl, rfl, rfl, trivial⟩ (fun w hm => hm.reord))
    ·
      replace hM := (ite_f hc5).symm.trans hM
      refine cw_skip (hL1 (nn1, (s_1, (t19_1_1 + (Utf8.decode comment0.ba t19_1_1).2)), ()) _ _ (eqc hcont1 hM) (Nat.lt_succ_self _) ⟨rfl, rfl, rfl, rfl, trivial⟩ (fun w hm => hm.reord))
  ·
    replace hM := (ite_f hg2).symm.trans hM
    refine ow_cons (st_nextEnd (k_ := b1) (s := comment0) (pos := t19_1_1) (of_decide_eq_false hg2) (by repeat (first | exact Has.head | apply Has.tail)) ?_)
    refine ow_ev (ev_extract (vs := [.bool false])) ?_
    refine ow_nil (hK5 _ _ ?_); clear hK5
    refine cw_seq fun K9 hK9 => ?_
    refine cw_cond_false rfl rfl ?_
    refine cw_exit (hK3 _ _ ?_); clear hK3
    dsimp only [law3_WordsCommentsAndSpace_k1] at hM
    refine cw_seq fun K10 hK10 => ?_
    refine cw_region ?_
    refine ow_ev ev_assign ?_
    refine ow_nil (hK10 _ _ ?_); clear hK10
    refine cw_seq fun K11 hK11 => ?_
    refine cw_region ?_
    refine ow_ev ev_assign ?_
    refine ow_nil (hK11 _ _ ?_); clear hK11
    refine cw_seq fun K12 hK12 => ?_
    refine cw_seq fun K13 hK13 => ?_
    refine cw_region ?_
    refine ow_ev ev_assign ?_
    refine ow_nil (hK13 _ _ ?_); clear hK13
    refine cw_block ?_
    refine cw_loop (γ := Nat × (Str × Str × Nat) × Unit) (env := fun (_, (t_2, u_2, i_2), _) => [(0, .v (.slice r_l0.a l0.length r_l0.cap)), (5, .v (.string s_1.ba)), (7, .v (.string t_2.ba)), (8, .v (.string u_2.ba)), (9, .v (.int .i64 (i_2 : Int)))]) (mem := fun (_, (t_2, u_2, i_2), _) => [imm (α := (List UInt8)) r_l0 l0]) (R := fun g => iter (law3_WordsCommentsAndSpace_b2 l0 s_1) g.1 g.2.1 = some y) (μ := fun g => g.1) (FUEL, ((⟨[]⟩ : Str), (⟨[]⟩ : Str), 0), ()) hM ⟨rfl, rfl, rfl, rfl, rfl, trivial⟩ (fun w hm => hm.reord) ?_
    clear hM
    intro g hM KL2 hL2
    obtain ⟨nn2, ⟨t_2, u_2, i_2⟩, ⟨⟩⟩ := g
    dsimp only at hM ⊢
    obtain ⟨nn2, cont2, rfl, hcont2, hM⟩ := iter_open' hM
    dsimp only [law3_WordsCommentsAndSpace_b2] at hM
    refine cw_seq fun K14 hK14 => ?_
    refine cw_seq fun K15 hK15 => ?_
    refine cw_region ?_
    refine ow_ev ev_move ?_
    refine ow_ev ev_move ?_
    refine ow_ev ev_len ?_
    refine ow_ev ev_lss ?_
    refine ow_ev ev_move ?_
    refine ow_evg rfl ev_move ?_
    refine ow_evg rfl ev_lss ?_
    refine ow_ev ev_and ?_
    refine ow_nil (hK15 _ _ ?_); clear hK15
    refine cw_cond rfl (fun hc11 => ?_) (fun hc11 => ?_)
    ·
      replace hM := (ite_t hc11).symm.trans hM
      refine cw_skip (hK14 _ _ ?_); clear hK14
      refine cw_seq fun K16 hK16 => ?_
      refine cw_block ?_
      refine cw_seq fun K17 hK17 => ?_
      refine cw_region ?_
      refine ow_cons (st_bslice (α := Str) 9 (fun _ => ()) ([(⟨[97]⟩ : Str), (⟨[49, 50]⟩ : Str), (⟨[117, 112]⟩ : Str), (⟨[45]⟩ : Str)] : List Str) (OkL.flat (fun _ _ _ _ => trivial)) (fun r12 => ?_))
      refine ow_ev ev_move ?_
      refine ow_ev ev_move ?_
      obtain ⟨x13, hx14, hM⟩ := bind_some hM
      refine ow_ev (ev_idx (xs := l0) 1 (Kn.imm (α := List UInt8) (r := r_l0) (x := l0) (by repeat (first | exact Has.head | apply Has.tail))) (fun hg => let h := idx_some hx14; ⟨h.1, h.2.1⟩)) ?_
      refine ow_ev (ev_ld (i := (i_2 : Int)) (xs := l0) (y := x13) 0 (Kn.imm (α := List UInt8) (r := r_l0) (x := l0) (by repeat (first | exact Has.head | apply Has.tail))) (fun _ => hx14)) ?_
      refine ow_ev ev_rem ?_
      obtain ⟨x15, hx16, hM⟩ := bind_some hM
      refine ow_ev (ev_idx (xs := ([(⟨[97]⟩ : Str), (⟨[49, 50]⟩ : Str), (⟨[117, 112]⟩ : Str), (⟨[45]⟩ : Str)] : List Str)) 1 (Kn.trow (e := 9) (r := r12) (by repeat (first | exact Has.head | apply Has.tail))) (fun hg => let h := idx_some hx16; ⟨h.1, h.2.1⟩)) ?_
      refine ow_ev (ev_ld (i := ((x13.toNat : Int).tmod 4)) (xs := ([(⟨[97]⟩ : Str), (⟨[49, 50]⟩ : Str), (⟨[117, 112]⟩ : Str), (⟨[45]⟩ : Str)] : List Str)) (y := x15) 0 (Kn.trow (e := 9) (r := r12) (by repeat (first | exact Has.head | apply Has.tail))) (fun _ => hx16)) ?_
      refine ow_ev ev_assign ?_
      refine ow_nil (hK17 _ _ ?_); clear hK17
      refine cw_seq fun K18 hK18 => ?_
      refine cw_region ?_
      refine ow_ev ev_move ?_
      refine ow_ev ev_move ?_
      obtain ⟨q17, hq18, hM⟩ := bind_some hM
      refine ow_ev (ev_scat (fun _ => hq18)) ?_
      obtain ⟨q19, hq20, hM⟩ := bind_some hM
      refine ow_ev (ev_scat (fun _ => hq20)) ?_
      refine ow_ev ev_assign ?_
      refine ow_nil (hK18 _ _ ?_); clear hK18
      refine cw_region ?_
      refine ow_ev ev_move ?_
      refine ow_ev ev_move ?_
      obtain ⟨q21, hq22, hM⟩ := bind_some hM
      refine ow_ev (ev_scat (fun _ => hq22)) ?_
      obtain ⟨q23, hq24, hM⟩ := bind_some hM
      refine ow_ev (ev_scat (fun _ => hq24)) ?_
      refine ow_ev ev_move ?_
      obtain ⟨q25, hq26, hM⟩ := bind_some hM
      refine ow_ev (ev_scat (fun _ => hq26)) ?_
      obtain ⟨q27, hq28, hM⟩ := bind_some hM
      refine ow_ev (ev_scat (fun _ => hq28)) ?_
      obtain ⟨q29, hq30, hM⟩ := bind_some hM
      refine ow_ev (ev_scat (fun _ => hq30)) ?_
      refine ow_ev ev_assign ?_
      refine ow_nil (hK16 _ _ ?_); clear hK16
      refine cw_region ?_
      refine ow_ev ev_move ?_
      obtain ⟨hI31, hM⟩ := chk_some hM
      refine ow_ev (ev_add (hr := fun hg => i64b_I64 hI31)) ?_
      refine ow_ev ev_assign ?_
      refine ow_nil (hL2 (nn2, (q19, q29, i_2 + 1), ()) _ _ (eqc hcont2 hM) (Nat.lt_succ_self _) ⟨rfl, rfl, rfl, rfl, rfl, trivial⟩ (fun w hm => hm.reord))
    ·
      replace hM := (ite_f hc11).symm.trans hM
      refine cw_exit (hK12 _ _ ?_); clear hK12
      dsimp only [law3_WordsCommentsAndSpace_k2] at hM
      refine cw_seq fun K19 hK19 => ?_
      refine cw_region ?_
      refine ow_ev ev_move ?_
      obtain ⟨y32, hy33, hM⟩ := bind_some hM
      refine ow_cons (st_callS SelL.nil (fun S w hs hP => words_Lines_spec _ w t_2 y32 hy33 hs.lt )  (fun r34 => ?_))
      dsimp only [List.cons_append, List.nil_append]
      refine ow_ev ev_move ?_
      refine ow_ev (ev_extract (vs := [.slice r34.a y32.1.length r34.cap, .int .i64 y32.2.1, .int .i64 y32.2.2])) ?_
      refine ow_ev (ev_extract (vs := [.slice r34.a y32.1.length r34.cap, .int .i64 y32.2.1, .int .i64 y32.2.2])) ?_
      refine ow_ev (ev_extract (vs := [.slice r34.a y32.1.length r34.cap, .int .i64 y32.2.1, .int .i64 y32.2.2])) ?_
      refine ow_ev ev_assign ?_
      refine ow_ev ev_assign ?_
      refine ow_ev ev_assign ?_
      refine ow_nil (hK19 _ _ ?_); clear hK19
      refine cw_seq fun K20 hK20 => ?_
      refine cw_region ?_
      refine ow_ev ev_move ?_
      obtain ⟨y35, hy36, hM⟩ := bind_some hM
      refine ow_cons (st_callS SelL.nil (fun S w hs hP => words_Lines_spec _ w u_2 y35 hy36 hs.lt )  (fun r37 => ?_))
      dsimp only [List.cons_append, List.nil_append]
      refine ow_ev ev_move ?_
      refine ow_ev (ev_extract (vs := [.slice r37.a y35.1.length r37.cap, .int .i64 y35.2.1, .int .i64 y35.2.2])) ?_
      refine ow_ev (ev_extract (vs := [.slice r37.a y35.1.length r37.cap, .int .i64 y35.2.1, .int .i64 y35.2.2])) ?_
      refine ow_ev (ev_extract (vs := [.slice r37.a y35.1.length r37.cap, .int .i64 y35.2.1, .int .i64 y35.2.2])) ?_
      refine ow_ev ev_assign ?_
      refine ow_ev ev_assign ?_
      refine ow_ev ev_assign ?_
      refine ow_nil (hK20 _ _ ?_); clear hK20
      refine cw_seq fun K21 hK21 => ?_
      refine cw_seq fun K22 hK22 => ?_
      refine cw_region ?_
      obtain ⟨y38, hy39, hM⟩ := bind_some hM
      refine ow_cons (st_callv (fun w hm => let ⟨S, hs⟩ := hm; law3_awake_spec _ w  y38 hy39 (lend_lt hs) ) ?_)
      refine ow_ev ev_not ?_
      refine ow_ev ev_move ?_
      refine ow_evg rfl ev_move ?_
      refine ow_evg rfl ev_neq ?_
      refine ow_ev ev_or ?_
      refine ow_ev ev_move ?_
      refine ow_evg rfl ev_move ?_
      refine ow_evg rfl ev_neq ?_
      refine ow_ev ev_or ?_
      refine ow_ev ev_move ?_
      refine ow_evg rfl ev_move ?_
      refine ow_evg rfl ev_len ?_
      refine ow_evg rfl ev_move ?_
      refine ow_evg rfl ev_len ?_
      refine ow_evg rfl ev_neq ?_
      refine ow_ev ev_or ?_
      refine ow_nil (hK22 _ _ ?_); clear hK22
      refine cw_cond rfl (fun hc40 => ?_) (fun hc40 => ?_)
      ·
        replace hM := (ite_t hc40).symm.trans hM
        refine cw_seq fun K23 hK23 => ?_
        refine cw_region ?_
        refine ow_ev ev_assign ?_
        refine ow_nil (hK23 _ _ ?_); clear hK23
        obtain rfl := some_inj hM
        refine cw_ret (kw_retc1 (fun w hm => ret_of hm rfl))
      ·
        replace hM := (ite_f hc40).symm.trans hM
        refine cw_skip (hK21 _ _ ?_); clear hK21
        refine cw_seq fun K24 hK24 => ?_
        refine cw_seq fun K25 hK25 => ?_
        refine cw_region ?_
        refine ow_ev ev_move ?_
        refine ow_have (fun w hm => Kn.len (Kn.trow (e := 33) (r := r34) (by repeat (first | exact Has.head | apply Has.tail))) hm) fun hl41 => ?_
        refine ow_ev ev_len ?_
        refine ow_ev ev_move ?_
        refine ow_nil (hK25 _ _ ?_); clear hK25
        refine cw_block ?_
        refine cw_loop (γ := Nat × Nat × Unit) (env := fun (_, t99_3, _) => [(11, .v (.slice r34.a y32.1.length r34.cap)), (14, .v (.slice r37.a y35.1.length r37.cap)), (98, .v (.int .i64 (y32.1.length : Int))), (99, .v (.int .i64 (t99_3 : Int)))]) (mem := fun (_, t99_3, _) => [trow 33 r34 y32.1, trow 33 r37 y35.1]) (R := fun g => iter (law3_WordsCommentsAndSpace_b3 y32 y35) g.1 g.2.1 = some y) (μ := fun g => g.1) (FUEL, 0, ()) hM ⟨rfl, rfl, rfl, rfl, trivial⟩ (fun w hm => hm.reord) ?_
        clear hM
        intro g hM KL3 hL3
        obtain ⟨nn3, t99_3, ⟨⟩⟩ := g
        dsimp only at hM ⊢
        obtain ⟨nn3, cont3, rfl, hcont3, hM⟩ := iter_open' hM
        dsimp only [law3_WordsCommentsAndSpace_b3] at hM
        refine cw_seq fun K26 hK26 => ?_
        refine cw_region ?_
        refine ow_ev ev_lss ?_
        refine ow_nil (hK26 _ _ ?_); clear hK26
        refine cw_seq fun K27 hK27 => ?_
        refine cw_cond rfl (fun hc42 => ?_) (fun hc42 => ?_)
        ·
          replace hM := (ite_t hc42).symm.trans hM
          have hc42d := of_decide_eq_true hc42
          refine cw_skip (hK27 _ _ ?_); clear hK27
          refine cw_seq fun K28 hK28 => ?_
          refine cw_block ?_
          refine cw_seq fun K29 hK29 => ?_
          refine cw_region ?_
          refine ow_ev ev_move ?_
          refine ow_ev ev_assign ?_
          refine ow_nil (hK29 _ _ ?_); clear hK29
          refine cw_seq fun K30 hK30 => ?_
          refine cw_region_any _ (List.Sublist.refl _) ?_
          refine aw_ev 0 rfl ev_move ?_
          refine aw_ev 1 rfl ev_move ?_
          obtain ⟨x43, hx44, hM⟩ := bind_some hM
          refine aw_ev 2 rfl (ev_idx (xs := y32.1) 1 (Kn.trow (e := 33) (r := r34) (by repeat (first | exact Has.head | apply Has.tail))) (fun hg => let h := idx_some hx44; ⟨h.1, h.2.1⟩)) ?_
          refine aw_ev 3 rfl (ev_ld (i := (t99_3 : Int)) (xs := y32.1) (y := x43) 0 (Kn.trow (e := 33) (r := r34) (by repeat (first | exact Has.head | apply Has.tail))) (fun _ => hx44)) ?_
          refine aw_ev 4 rfl ev_len ?_
          refine aw_ev 5 rfl ev_neq ?_
          refine aw_ev 6 rfl ev_move ?_
          refine aw_evg 7 rfl rfl ev_move ?_
          refine aw_evg 8 rfl rfl ev_move ?_
          obtain ⟨x45, hx46, hM⟩ := bind_some hM
          refine aw_evg 9 rfl rfl (ev_idx (xs := y35.1) 1 (Kn.trow (e := 33) (r := r37) (by repeat (first | exact Has.head | apply Has.tail))) (fun hg => let h := idx_some (whn_some hx46 hg); ⟨h.1, h.2.1⟩)) ?_
          refine aw_cases (!(decide ((x43.length : Int) ≠ 1))) (fun hg47 => ?_) (fun hg47 => ?_)
          ·
            replace hM := (ite_t hg47).symm.trans hM
            have hx48 := whn_some hx46 hg47
            refine aw_know 109 hg47 rfl ?_
            refine aw_know 110 hg47 rfl ?_
            refine aw_know 111 hg47 rfl ?_
            refine aw_evk 10 rfl rfl hg47 (ev_ld (i := (t99_3 : Int)) (xs := y35.1) (y := x45) 0 (Kn.trow (e := 33) (r := r37) (by repeat (first | exact Has.head | apply Has.tail))) (fun _ => hx48)) ?_
            refine aw_evk 11 rfl rfl hg47 ev_len ?_
            refine aw_evk 12 rfl rfl hg47 ev_neq ?_
            refine aw_ev 13 rfl ev_or ?_
            refine aw_ev 14 rfl ev_move ?_
            refine aw_evg 15 rfl rfl ev_move ?_
            refine aw_evg 16 rfl rfl ev_move ?_
            obtain ⟨x49, hx50, hM⟩ := bind_some hM
            refine aw_evg 17 rfl rfl (ev_idx (xs := y32.1) 1 (Kn.trow (e := 33) (r := r34) (by repeat (first | exact Has.head | apply Has.tail))) (fun hg => let h := idx_some (whn_some hx50 hg); ⟨h.1, h.2.1⟩)) ?_
            refine aw_cases (!(decide ((x43.length : Int) ≠ 1) || decide ((x45.length : Int) ≠ 1))) (fun hg51 => ?_) (fun hg51 => ?_)
            ·
              replace hM := (ite_t hg51).symm.trans hM
              have hx52 := whn_some hx50 hg51
              refine aw_know 117 hg51 rfl ?_
              refine aw_know 118 hg51 rfl ?_
              refine aw_know 119 hg51 rfl ?_
              refine aw_evk 18 rfl rfl hg51 (ev_ld (i := (t99_3 : Int)) (xs := y32.1) (y := x49) 0 (Kn.trow (e := 33) (r := r34) (by repeat (first | exact Has.head | apply Has.tail))) (fun _ => hx52)) ?_
              obtain ⟨x53, hx54, hM⟩ := bind_some hM
              refine aw_evk 19 rfl rfl hg51 (ev_idx (xs := x49) 3 ((Sk.row (e := 33) (r := r34) (by repeat (first | exact Has.head | apply Has.tail)) hx52)).kn (fun hg => let h := idx_some hx54; ⟨h.1, h.2.1⟩)) ?_
              refine aw_evk 20 rfl rfl hg51 (ev_field_addr 0) ?_
              refine aw_evk 21 rfl rfl hg51 (ev_ld (i := 0) (xs := x49) (y := x53) 0 ((Sk.row (e := 33) (r := r34) (by repeat (first | exact Has.head | apply Has.tail)) hx52)).kn (fun _ => hx54)) ?_
              refine aw_evk 22 rfl rfl hg51 ev_move ?_
              refine aw_evk 23 rfl rfl hg51 ev_move ?_
              obtain ⟨x55, hx56, hM⟩ := bind_some hM
              refine aw_evk 24 rfl rfl hg51 (ev_idx (xs := y35.1) 1 (Kn.trow (e := 33) (r := r37) (by repeat (first | exact Has.head | apply Has.tail))) (fun hg => let h := idx_some hx56; ⟨h.1, h.2.1⟩)) ?_
              refine aw_evk 25 rfl rfl hg51 (ev_ld (i := (t99_3 : Int)) (xs := y35.1) (y := x55) 0 (Kn.trow (e := 33) (r := r37) (by repeat (first | exact Has.head | apply Has.tail))) (fun _ => hx56)) ?_
              obtain ⟨x57, hx58, hM⟩ := bind_some hM
              refine aw_evk 26 rfl rfl hg51 (ev_idx (xs := x55) 3 ((Sk.row (e := 33) (r := r37) (by repeat (first | exact Has.head | apply Has.tail)) hx56)).kn (fun hg => let h := idx_some hx58; ⟨h.1, h.2.1⟩)) ?_
              refine aw_evk 27 rfl rfl hg51 (ev_field_addr 0) ?_
              refine aw_evk 28 rfl rfl hg51 (ev_ld (i := 0) (xs := x55) (y := x57) 0 ((Sk.row (e := 33) (r := r37) (by repeat (first | exact Has.head | apply Has.tail)) hx56)).kn (fun _ => hx58)) ?_
              refine aw_evk 29 rfl rfl hg51 ev_str_neq ?_
              refine aw_ev 30 rfl ev_or ?_
              refine aw_ev 31 rfl ev_move ?_
              refine aw_evg 32 rfl rfl ev_move ?_
              refine aw_evg 33 rfl rfl ev_move ?_
              obtain ⟨x59, hx60, hM⟩ := bind_some hM
              refine aw_evg 34 rfl rfl (ev_idx (xs := y35.1) 1 (Kn.trow (e := 33) (r := r37) (by repeat (first | exact Has.head | apply Has.tail))) (fun hg => let h := idx_some (whn_some hx60 hg); ⟨h.1, h.2.1⟩)) ?_
              refine aw_cases (!((decide ((x43.length : Int) ≠ 1) || decide ((x45.length : Int) ≠ 1)) || (!decide (x53.Text = x57.Text)))) (fun hg61 => ?_) (fun hg61 => ?_)
              ·
                replace hM := (ite_t hg61).symm.trans hM
                have hx62 := whn_some hx60 hg61
                refine aw_know 134 hg61 rfl ?_
                refine aw_know 135 hg61 rfl ?_
                refine aw_know 136 hg61 rfl ?_
                refine aw_evk 35 rfl rfl hg61 (ev_ld (i := (t99_3 : Int)) (xs := y35.1) (y := x59) 0 (Kn.trow (e := 33) (r := r37) (by repeat (first | exact Has.head | apply Has.tail))) (fun _ => hx62)) ?_
                obtain ⟨x63, hx64, hM⟩ := bind_some hM
                refine aw_evk 36 rfl rfl hg61 (ev_idx (xs := x59) 3 ((Sk.row (e := 33) (r := r37) (by repeat (first | exact Has.head | apply Has.tail)) hx62)).kn (fun hg => let h := idx_some hx64; ⟨h.1, h.2.1⟩)) ?_
                refine aw_evk 37 rfl rfl hg61 (ev_field_addr 1) ?_
                refine aw_evk 38 rfl rfl hg61 (ev_ld (i := 0) (xs := x59) (y := x63) 1 ((Sk.row (e := 33) (r := r37) (by repeat (first | exact Has.head | apply Has.tail)) hx62)).kn (fun _ => hx64)) ?_
                refine aw_evk 39 rfl rfl hg61 ev_move ?_
                obtain ⟨hI65, hM⟩ := chk_some hM
                refine aw_evk 40 rfl rfl hg61 (ev_mul (hr := fun hg => i64b_I64 hI65)) ?_
                obtain ⟨hI66, hM⟩ := chk_some hM
                refine aw_evk 41 rfl rfl hg61 (ev_add (hr := fun hg => i64b_I64 hI66)) ?_
                refine aw_evk 42 rfl rfl hg61 ev_neq ?_
                refine aw_ev 43 rfl ev_or ?_
                refine aw_ev 44 rfl ev_move ?_
                refine aw_evg 45 rfl rfl ev_move ?_
                refine aw_evg 46 rfl rfl ev_move ?_
                obtain ⟨x67, hx68, hM⟩ := bind_some hM
                refine aw_evg 47 rfl rfl (ev_idx (xs := y35.1) 1 (Kn.trow (e := 33) (r := r37) (by repeat (first | exact Has.head | apply Has.tail))) (fun hg => let h := idx_some (whn_some hx68 hg); ⟨h.1, h.2.1⟩)) ?_
                refine aw_cases (!(((decide ((x43.length : Int) ≠ 1) || decide ((x45.length : Int) ≠ 1)) || (!decide (x53.Text = x57.Text))) || decide (x63.Line ≠ ((2 * (t99_3 : Int)) + 1)))) (fun hg69 => ?_) (fun hg69 => ?_)
                ·
                  replace hM := (ite_t hg69).symm.trans hM
                  have hx70 := whn_some hx68 hg69
                  refine aw_know 147 hg69 rfl ?_
                  refine aw_know 148 hg69 rfl ?_
                  refine aw_know 149 hg69 rfl ?_
                  refine aw_evk 48 rfl rfl hg69 (ev_ld (i := (t99_3 : Int)) (xs := y35.1) (y := x67) 0 (Kn.trow (e := 33) (r := r37) (by repeat (first | exact Has.head | apply Has.tail))) (fun _ => hx70)) ?_
                  obtain ⟨x71, hx72, hM⟩ := bind_some hM
                  refine aw_evk 49 rfl rfl hg69 (ev_idx (xs := x67) 3 ((Sk.row (e := 33) (r := r37) (by repeat (first | exact Has.head | apply Has.tail)) hx70)).kn (fun hg => let h := idx_some hx72; ⟨h.1, h.2.1⟩)) ?_
                  refine aw_evk 50 rfl rfl hg69 (ev_field_addr 2) ?_
                  refine aw_evk 51 rfl rfl hg69 (ev_ld (i := 0) (xs := x67) (y := x71) 2 ((Sk.row (e := 33) (r := r37) (by repeat (first | exact Has.head | apply Has.tail)) hx70)).kn (fun _ => hx72)) ?_
                  refine aw_evk 52 rfl rfl hg69 ev_neq ?_
                  refine aw_ev 53 rfl ev_or ?_
                  refine aw_done (hK30 _ _ ?_); clear hK30
                  refine cw_cond rfl (fun hc73 => ?_) (fun hc73 => ?_)
                  ·
                    replace hM := (ite_t hc73).symm.trans hM
                    refine cw_seq fun K31 hK31 => ?_
                    refine cw_region ?_
                    refine ow_ev ev_assign ?_
                    refine ow_nil (hK31 _ _ ?_); clear hK31
                    obtain rfl := some_inj hM
                    refine cw_ret (kw_retc1 (fun w hm => ret_of hm rfl))
                  ·
                    replace hM := (ite_f hc73).symm.trans hM
                    refine cw_skip (hK28 _ _ ?_); clear hK28
                    refine cw_region ?_
                    refine ow_ev (ev_add (hr := fun _ => by unfold I64; omega)) ?_
                    refine ow_ev ev_move ?_
                    refine ow_nil (hL3 (nn3, (t99_3 + 1), ()) _ _ (eqc hcont3 hM) (Nat.lt_succ_self _) ⟨rfl, rfl, rfl, rfl, trivial⟩ (fun w hm => hm.reord))
                ·
                  replace hM := (ite_f hg69).symm.trans hM
                  refine aw_gskip 48 rfl rfl hg69 ?_
                  refine aw_gskip 49 rfl rfl hg69 ?_
                  refine aw_gskip 50 rfl rfl hg69 ?_
                  refine aw_gskip 51 rfl rfl hg69 ?_
                  refine aw_gskip 52 rfl rfl hg69 ?_
                  refine aw_ev 53 rfl (ev_orT (bnT hg69)) ?_
                  refine aw_done (hK30 _ _ ?_); clear hK30
                  refine cw_cond_true rfl rfl ?_
                  refine cw_seq fun K32 hK32 => ?_
                  refine cw_region ?_
                  refine ow_ev ev_assign ?_
                  refine ow_nil (hK32 _ _ ?_); clear hK32
                  obtain rfl := some_inj hM
                  refine cw_ret (kw_retc1 (fun w hm => ret_of hm rfl))
              ·
                replace hM := (ite_f hg61).symm.trans hM
                refine aw_gskip 35 rfl rfl hg61 ?_
                refine aw_gskip 36 rfl rfl hg61 ?_
                refine aw_gskip 37 rfl rfl hg61 ?_
                refine aw_gskip 38 rfl rfl hg61 ?_
                refine aw_gskip 39 rfl rfl hg61 ?_
                refine aw_gskip 40 rfl rfl hg61 ?_
                refine aw_gskip 41 rfl rfl hg61 ?_
                refine aw_gskip 42 rfl rfl hg61 ?_
                refine aw_ev 43 rfl (ev_orT (bnT hg61)) ?_
                refine aw_ev 44 rfl ev_move ?_
                refine aw_evg 45 rfl rfl ev_move ?_
                refine aw_evg 46 rfl rfl ev_move ?_
                obtain ⟨x74, hx75, hM⟩ := bind_some hM
                refine aw_evg 47 rfl rfl (ev_idx (xs := y35.1) 1 (Kn.trow (e := 33) (r := r37) (by repeat (first | exact Has.head | apply Has.tail))) (fun hg => let h := idx_some (whn_some hx75 hg); ⟨h.1, h.2.1⟩)) ?_
                refine aw_cases (!true) (fun hg76 => ?_) (fun hg76 => ?_)
                ·
                  replace hM := (ite_t hg76).symm.trans hM
                  have hx77 := whn_some hx75 hg76
                  refine aw_know 147 hg76 rfl ?_
                  refine aw_know 148 hg76 rfl ?_
                  refine aw_know 149 hg76 rfl ?_
                  refine aw_evk 48 rfl rfl hg76 (ev_ld (i := (t99_3 : Int)) (xs := y35.1) (y := x74) 0 (Kn.trow (e := 33) (r := r37) (by repeat (first | exact Has.head | apply Has.tail))) (fun _ => hx77)) ?_
                  obtain ⟨x78, hx79, hM⟩ := bind_some hM
                  refine aw_evk 49 rfl rfl hg76 (ev_idx (xs := x74) 3 ((Sk.row (e := 33) (r := r37) (by repeat (first | exact Has.head | apply Has.tail)) hx77)).kn (fun hg => let h := idx_some hx79; ⟨h.1, h.2.1⟩)) ?_
                  refine aw_evk 50 rfl rfl hg76 (ev_field_addr 2) ?_
                  refine aw_evk 51 rfl rfl hg76 (ev_ld (i := 0) (xs := x74) (y := x78) 2 ((Sk.row (e := 33) (r := r37) (by repeat (first | exact Has.head | apply Has.tail)) hx77)).kn (fun _ => hx79)) ?_
                  refine aw_evk 52 rfl rfl hg76 ev_neq ?_
                  refine aw_ev 53 rfl ev_or ?_
                  refine aw_done (hK30 _ _ ?_); clear hK30
                  refine cw_cond rfl (fun hc80 => ?_) (fun hc80 => ?_)
                  ·
                    replace hM := (ite_t hc80).symm.trans hM
                    refine cw_seq fun K33 hK33 => ?_
                    refine cw_region ?_
                    refine ow_ev ev_assign ?_
                    refine ow_nil (hK33 _ _ ?_); clear hK33
                    obtain rfl := some_inj hM
                    refine cw_ret (kw_retc1 (fun w hm => ret_of hm rfl))
                  ·
                    replace hM := (ite_f hc80).symm.trans hM
                    refine cw_skip (hK28 _ _ ?_); clear hK28
                    refine cw_region ?_
                    refine ow_ev (ev_add (hr := fun _ => by unfold I64; omega)) ?_
                    refine ow_ev ev_move ?_
                    refine ow_nil (hL3 (nn3, (t99_3 + 1), ()) _ _ (eqc hcont3 hM) (Nat.lt_succ_self _) ⟨rfl, rfl, rfl, rfl, trivial⟩ (fun w hm => hm.reord))
                ·
                  replace hM := (ite_f hg76).symm.trans hM
                  refine aw_gskip 48 rfl rfl hg76 ?_
                  refine aw_gskip 49 rfl rfl hg76 ?_
                  refine aw_gskip 50 rfl rfl hg76 ?_
                  refine aw_gskip 51 rfl rfl hg76 ?_
                  refine aw_gskip 52 rfl rfl hg76 ?_
                  refine aw_ev 53 rfl (ev_orT (bnT hg76)) ?_
                  refine aw_done (hK30 _ _ ?_); clear hK30
                  refine cw_cond_true rfl rfl ?_
                  refine cw_seq fun K34 hK34 => ?_
                  refine cw_region ?_
                  refine ow_ev ev_assign ?_
                  refine ow_nil (hK34 _ _ ?_); clear hK34
                  obtain rfl := some_inj hM
                  refine cw_ret (kw_retc1 (fun w hm => ret_of hm rfl))
            ·
              replace hM := (ite_f hg51).symm.trans hM
              refine aw_gskip 18 rfl rfl hg51 ?_
              refine aw_gskip 19 rfl rfl hg51 ?_
              refine aw_gskip 20 rfl rfl hg51 ?_
              refine aw_gskip 21 rfl rfl hg51 ?_
              refine aw_gskip 22 rfl rfl hg51 ?_
              refine aw_gskip 23 rfl rfl hg51 ?_
              refine aw_gskip 24 rfl rfl hg51 ?_
              refine aw_gskip 25 rfl rfl hg51 ?_
              refine aw_gskip 26 rfl rfl hg51 ?_
              refine aw_gskip 27 rfl rfl hg51 ?_
              refine aw_gskip 28 rfl rfl hg51 ?_
              refine aw_gskip 29 rfl rfl hg51 ?_
              refine aw_ev 30 rfl (ev_orT (bnT hg51)) ?_
              refine aw_ev 31 rfl ev_move ?_
              refine aw_evg 32 rfl rfl ev_move ?_
              refine aw_evg 33 rfl rfl ev_move ?_
              obtain ⟨x81, hx82, hM⟩ := bind_some hM
              refine aw_evg 34 rfl rfl (ev_idx (xs := y35.1) 1 (Kn.trow (e := 33) (r := r37) (by repeat (first | exact Has.head | apply Has.tail))) (fun hg => let h := idx_some (whn_some hx82 hg); ⟨h.1, h.2.1⟩)) ?_
              refine aw_cases (!true) (fun hg83 => ?_) (fun hg83 => ?_)
              ·
                replace hM := (ite_t hg83).symm.trans hM
                have hx84 := whn_some hx82 hg83
                refine aw_know 134 hg83 rfl ?_
                refine aw_know 135 hg83 rfl ?_
                refine aw_know 136 hg83 rfl ?_
                refine aw_evk 35 rfl rfl hg83 (ev_ld (i := (t99_3 : Int)) (xs := y35.1) (y := x81) 0 (Kn.trow (e := 33) (r := r37) (by repeat (first | exact Has.head | apply Has.tail))) (fun _ => hx84)) ?_
                obtain ⟨x85, hx86, hM⟩ := bind_some hM
                refine aw_evk 36 rfl rfl hg83 (ev_idx (xs := x81) 3 ((Sk.row (e := 33) (r := r37) (by repeat (first | exact Has.head | apply Has.tail)) hx84)).kn (fun hg => let h := idx_some hx86; ⟨h.1, h.2.1⟩)) ?_
                refine aw_evk 37 rfl rfl hg83 (ev_field_addr 1) ?_
                refine aw_evk 38 rfl rfl hg83 (ev_ld (i := 0) (xs := x81) (y := x85) 1 ((Sk.row (e := 33) (r := r37) (by repeat (first | exact Has.head | apply Has.tail)) hx84)).kn (fun _ => hx86)) ?_
                refine aw_evk 39 rfl rfl hg83 ev_move ?_
                obtain ⟨hI87, hM⟩ := chk_some hM
                refine aw_evk 40 rfl rfl hg83 (ev_mul (hr := fun hg => i64b_I64 hI87)) ?_
                obtain ⟨hI88, hM⟩ := chk_some hM
                refine aw_evk 41 rfl rfl hg83 (ev_add (hr := fun hg => i64b_I64 hI88)) ?_
                refine aw_evk 42 rfl rfl hg83 ev_neq ?_
                refine aw_ev 43 rfl ev_or ?_
                refine aw_ev 44 rfl ev_move ?_
                refine aw_evg 45 rfl rfl ev_move ?_
                refine aw_evg 46 rfl rfl ev_move ?_
                obtain ⟨x89, hx90, hM⟩ := bind_some hM
                refine aw_evg 47 rfl rfl (ev_idx (xs := y35.1) 1 (Kn.trow (e := 33) (r := r37) (by repeat (first | exact Has.head | apply Has.tail))) (fun hg => let h := idx_some (whn_some hx90 hg); ⟨h.1, h.2.1⟩)) ?_
                refine aw_cases (!(true || decide (x85.Line ≠ ((2 * (t99_3 : Int)) + 1)))) (fun hg91 => ?_) (fun hg91 => ?_)
                ·
                  replace hM := (ite_t hg91).symm.trans hM
                  have hx92 := whn_some hx90 hg91
                  refine aw_know 147 hg91 rfl ?_
                  refine aw_know 148 hg91 rfl ?_
                  refine aw_know 149 hg91 rfl ?_
                  refine aw_evk 48 rfl rfl hg91 (ev_ld (i := (t99_3 : Int)) (xs := y35.1) (y := x89) 0 (Kn.trow (e := 33) (r := r37) (by repeat (first | exact Has.head | apply Has.tail))) (fun _ => hx92)) ?_
                  obtain ⟨x93, hx94, hM⟩ := bind_some hM
                  refine aw_evk 49 rfl rfl hg91 (ev_idx (xs := x89) 3 ((Sk.row (e := 33) (r := r37) (by repeat (first | exact Has.head | apply Has.tail)) hx92)).kn (fun hg => let h := idx_some hx94; ⟨h.1, h.2.1⟩)) ?_
                  refine aw_evk 50 rfl rfl hg91 (ev_field_addr 2) ?_
                  refine aw_evk 51 rfl rfl hg91 (ev_ld (i := 0) (xs := x89) (y := x93) 2 ((Sk.row (e := 33) (r := r37) (by repeat (first | exact Has.head | apply Has.tail)) hx92)).kn (fun _ => hx94)) ?_
                  refine aw_evk 52 rfl rfl hg91 ev_neq ?_
                  refine aw_ev 53 rfl ev_or ?_
                  refine aw_done (hK30 _ _ ?_); clear hK30
                  refine cw_cond rfl (fun hc95 => ?_) (fun hc95 => ?_)
                  ·
                    replace hM := (ite_t hc95).symm.trans hM
                    refine cw_seq fun K35 hK35 => ?_
                    refine cw_region ?_
                    refine ow_ev ev_assign ?_
                    refine ow_nil (hK35 _ _ ?_); clear hK35
                    obtain rfl := some_inj hM
                    refine cw_ret (kw_retc1 (fun w hm => ret_of hm rfl))
                  ·
                    replace hM := (ite_f hc95).symm.trans hM
                    refine cw_skip (hK28 _ _ ?_); clear hK28
                    refine cw_region ?_
                    refine ow_ev (ev_add (hr := fun _ => by unfold I64; omega)) ?_
                    refine ow_ev ev_move ?_
                    refine ow_nil (hL3 (nn3, (t99_3 + 1), ()) _ _ (eqc hcont3 hM) (Nat.lt_succ_self _) ⟨rfl, rfl, rfl, rfl, trivial⟩ (fun w hm => hm.reord))
                ·
                  replace hM := (ite_f hg91).symm.trans hM
                  refine aw_gskip 48 rfl rfl hg91 ?_
                  refine aw_gskip 49 rfl rfl hg91 ?_
                  refine aw_gskip 50 rfl rfl hg91 ?_
                  refine aw_gskip 51 rfl rfl hg91 ?_
                  refine aw_gskip 52 rfl rfl hg91 ?_
                  refine aw_ev 53 rfl (ev_orT (bnT hg91)) ?_
                  refine aw_done (hK30 _ _ ?_); clear hK30
                  refine cw_cond_true rfl rfl ?_
                  refine cw_seq fun K36 hK36 => ?_
                  refine cw_region ?_
                  refine ow_ev ev_assign ?_
                  refine ow_nil (hK36 _ _ ?_); clear hK36
                  obtain rfl := some_inj hM
                  refine cw_ret (kw_retc1 (fun w hm => ret_of hm rfl))
              ·
                replace hM := (ite_f hg83).symm.trans hM
                refine aw_gskip 35 rfl rfl hg83 ?_
                refine aw_gskip 36 rfl rfl hg83 ?_
                refine aw_gskip 37 rfl rfl hg83 ?_
                refine aw_gskip 38 rfl rfl hg83 ?_
                refine aw_gskip 39 rfl rfl hg83 ?_
                refine aw_gskip 40 rfl rfl hg83 ?_
                refine aw_gskip 41 rfl rfl hg83 ?_
                refine aw_gskip 42 rfl rfl hg83 ?_
                refine aw_ev 43 rfl (ev_orT (bnT hg83)) ?_
                refine aw_ev 44 rfl ev_move ?_
                refine aw_gskip 45 rfl rfl hg83 ?_
                refine aw_gskip 46 rfl rfl hg83 ?_
                refine aw_gskip 47 rfl rfl hg83 ?_
                refine aw_gskip 48 rfl rfl hg83 ?_
                refine aw_gskip 49 rfl rfl hg83 ?_
                refine aw_gskip 50 rfl rfl hg83 ?_
                refine aw_gskip 51 rfl rfl hg83 ?_
                refine aw_gskip 52 rfl rfl hg83 ?_
                refine aw_ev 53 rfl (ev_orT (bnT hg83)) ?_
                refine aw_done (hK30 _ _ ?_); clear hK30
                refine cw_cond_true rfl rfl ?_
                refine cw_seq fun K37 hK37 => ?_
                refine cw_region ?_
                refine ow_ev ev_assign ?_
                refine ow_nil (hK37 _ _ ?_); clear hK37
                obtain rfl := some_inj hM
                refine cw_ret (kw_retc1 (fun w hm => ret_of hm rfl))
          ·
            replace hM := (ite_f hg47).symm.trans hM
            refine aw_gskip 10 rfl rfl hg47 ?_
            refine aw_gskip 11 rfl rfl hg47 ?_
            refine aw_gskip 12 rfl rfl hg47 ?_
            refine aw_ev 13 rfl (ev_orT (bnT hg47)) ?_
            refine aw_ev 14 rfl ev_move ?_
            refine aw_evg 15 rfl rfl ev_move ?_
            refine aw_evg 16 rfl rfl ev_move ?_
            obtain ⟨x96, hx97, hM⟩ := bind_some hM
            refine aw_evg 17 rfl rfl (ev_idx (xs := y32.1) 1 (Kn.trow (e := 33) (r := r34) (by repeat (first | exact Has.head | apply Has.tail))) (fun hg => let h := idx_some (whn_some hx97 hg); ⟨h.1, h.2.1⟩)) ?_
            refine aw_cases (!true) (fun hg98 => ?_) (fun hg98 => ?_)
            ·
              replace hM := (ite_t hg98).symm.trans hM
              have hx99 := whn_some hx97 hg98
              refine aw_know 117 hg98 rfl ?_
              refine aw_know 118 hg98 rfl ?_
              refine aw_know 119 hg98 rfl ?_
              refine aw_evk 18 rfl rfl hg98 (ev_ld (i := (t99_3 : Int)) (xs := y32.1) (y := x96) 0 (Kn.trow (e := 33) (r := r34) (by repeat (first | exact Has.head | apply Has.tail))) (fun _ => hx99)) ?_
              obtain ⟨x100, hx101, hM⟩ := bind_some hM
              refine aw_evk 19 rfl rfl hg98 (ev_idx (xs := x96) 3 ((Sk.row (e := 33) (r := r34) (by repeat (first | exact Has.head | apply Has.tail)) hx99)).kn (fun hg => let h := idx_some hx101; ⟨h.1, h.2.1⟩)) ?_
              refine aw_evk 20 rfl rfl hg98 (ev_field_addr 0) ?_
              refine aw_evk 21 rfl rfl hg98 (ev_ld (i := 0) (xs := x96) (y := x100) 0 ((Sk.row (e := 33) (r := r34) (by repeat (first | exact Has.head | apply Has.tail)) hx99)).kn (fun _ => hx101)) ?_
              refine aw_evk 22 rfl rfl hg98 ev_move ?_
              refine aw_evk 23 rfl rfl hg98 ev_move ?_
              obtain ⟨x102, hx103, hM⟩ := bind_some hM
              refine aw_evk 24 rfl rfl hg98 (ev_idx (xs := y35.1) 1 (Kn.trow (e := 33) (r := r37) (by repeat (first | exact Has.head | apply Has.tail))) (fun hg => let h := idx_some hx103; ⟨h.1, h.2.1⟩)) ?_
              refine aw_evk 25 rfl rfl hg98 (ev_ld (i := (t99_3 : Int)) (xs := y35.1) (y := x102) 0 (Kn.trow (e := 33) (r := r37) (by repeat (first | exact Has.head | apply Has.tail))) (fun _ => hx103)) ?_
              obtain ⟨x104, hx105, hM⟩ := bind_some hM
              refine aw_evk 26 rfl rfl hg98 (ev_idx (xs := x102) 3 ((Sk.row (e := 33) (r := r37) (by repeat (first | exact Has.head | apply Has.tail)) hx103)).kn (fun hg => let h := idx_some hx105; ⟨h.1, h.2.1⟩)) ?_
              refine aw_evk 27 rfl rfl hg98 (ev_field_addr 0) ?_
              refine aw_evk 28 rfl rfl hg98 (ev_ld (i := 0) (xs := x102) (y := x104) 0 ((Sk.row (e := 33) (r := r37) (by repeat (first | exact Has.head | apply Has.tail)) hx103)).kn (fun _ => hx105)) ?_
              refine aw_evk 29 rfl rfl hg98 ev_str_neq ?_
              refine aw_ev 30 rfl ev_or ?_
              refine aw_ev 31 rfl ev_move ?_
              refine aw_evg 32 rfl rfl ev_move ?_
              refine aw_evg 33 rfl rfl ev_move ?_
              obtain ⟨x106, hx107, hM⟩ := bind_some hM
              refine aw_evg 34 rfl rfl (ev_idx (xs := y35.1) 1 (Kn.trow (e := 33) (r := r37) (by repeat (first | exact Has.head | apply Has.tail))) (fun hg => let h := idx_some (whn_some hx107 hg); ⟨h.1, h.2.1⟩)) ?_
              refine aw_cases (!(true || (!decide (x100.Text = x104.Text)))) (fun hg108 => ?_) (fun hg108 => ?_)
              ·
                replace hM := (ite_t hg108).symm.trans hM
                have hx109 := whn_some hx107 hg108
                refine aw_know 134 hg108 rfl ?_
                refine aw_know 135 hg108 rfl ?_
                refine aw_know 136 hg108 rfl ?_
                refine aw_evk 35 rfl rfl hg108 (ev_ld (i := (t99_3 : Int)) (xs := y35.1) (y := x106) 0 (Kn.trow (e := 33) (r := r37) (by repeat (first | exact Has.head | apply Has.tail))) (fun _ => hx109)) ?_
                obtain ⟨x110, hx111, hM⟩ := bind_some hM
                refine aw_evk 36 rfl rfl hg108 (ev_idx (xs := x106) 3 ((Sk.row (e := 33) (r := r37) (by repeat (first | exact Has.head | apply Has.tail)) hx109)).kn (fun hg => let h := idx_some hx111; ⟨h.1, h.2.1⟩)) ?_
                refine aw_evk 37 rfl rfl hg108 (ev_field_addr 1) ?_
                refine aw_evk 38 rfl rfl hg108 (ev_ld (i := 0) (xs := x106) (y := x110) 1 ((Sk.row (e := 33) (r := r37) (by repeat (first | exact Has.head | apply Has.tail)) hx109)).kn (fun _ => hx111)) ?_
                refine aw_evk 39 rfl rfl hg108 ev_move ?_
                obtain ⟨hI112, hM⟩ := chk_some hM
                refine aw_evk 40 rfl rfl hg108 (ev_mul (hr := fun hg => i64b_I64 hI112)) ?_
                obtain ⟨hI113, hM⟩ := chk_some hM
                refine aw_evk 41 rfl rfl hg108 (ev_add (hr := fun hg => i64b_I64 hI113)) ?_
                refine aw_evk 42 rfl rfl hg108 ev_neq ?_
                refine aw_ev 43 rfl ev_or ?_
                refine aw_ev 44 rfl ev_move ?_
                refine aw_evg 45 rfl rfl ev_move ?_
                refine aw_evg 46 rfl rfl ev_move ?_
                obtain ⟨x114, hx115, hM⟩ := bind_some hM
                refine aw_evg 47 rfl rfl (ev_idx (xs := y35.1) 1 (Kn.trow (e := 33) (r := r37) (by repeat (first | exact Has.head | apply Has.tail))) (fun hg => let h := idx_some (whn_some hx115 hg); ⟨h.1, h.2.1⟩)) ?_
                refine aw_cases (!((true || (!decide (x100.Text = x104.Text))) || decide (x110.Line ≠ ((2 * (t99_3 : Int)) + 1)))) (fun hg116 => ?_) (fun hg116 => ?_)
                ·
                  replace hM := (ite_t hg116).symm.trans hM
                  have hx117 := whn_some hx115 hg116
                  refine aw_know 147 hg116 rfl ?_
                  refine aw_know 148 hg116 rfl ?_
                  refine aw_know 149 hg116 rfl ?_
                  refine aw_evk 48 rfl rfl hg116 (ev_ld (i := (t99_3 : Int)) (xs := y35.1) (y := x114) 0 (Kn.trow (e := 33) (r := r37) (by repeat (first | exact Has.head | apply Has.tail))) (fun _ => hx117)) ?_
                  obtain ⟨x118, hx119, hM⟩ := bind_some hM
                  refine aw_evk 49 rfl rfl hg116 (ev_idx (xs := x114) 3 ((Sk.row (e := 33) (r := r37) (by repeat (first | exact Has.head | apply Has.tail)) hx117)).kn (fun hg => let h := idx_some hx119; ⟨h.1, h.2.1⟩)) ?_
                  refine aw_evk 50 rfl rfl hg116 (ev_field_addr 2) ?_
                  refine aw_evk 51 rfl rfl hg116 (ev_ld (i := 0) (xs := x114) (y := x118) 2 ((Sk.row (e := 33) (r := r37) (by repeat (first | exact Has.head | apply Has.tail)) hx117)).kn (fun _ => hx119)) ?_
                  refine aw_evk 52 rfl rfl hg116 ev_neq ?_
                  refine aw_ev 53 rfl ev_or ?_
                  refine aw_done (hK30 _ _ ?_); clear hK30
                  refine cw_cond rfl (fun hc120 => ?_) (fun hc120 => ?_)
                  ·
                    replace hM := (ite_t hc120).symm.trans hM
                    refine cw_seq fun K38 hK38 => ?_
                    refine cw_region ?_
                    refine ow_ev ev_assign ?_
                    refine ow_nil (hK38 _ _ ?_); clear hK38
                    obtain rfl := some_inj hM
                    refine cw_ret (kw_retc1 (fun w hm => ret_of hm rfl))
                  ·
                    replace hM := (ite_f hc120).symm.trans hM
                    refine cw_skip (hK28 _ _ ?_); clear hK28
                    refine cw_region ?_
                    refine ow_ev (ev_add (hr := fun _ => by unfold I64; omega)) ?_
                    refine ow_ev ev_move ?_
                    refine ow_nil (hL3 (nn3, (t99_3 + 1), ()) _ _ (eqc hcont3 hM) (Nat.lt_succ_self _) ⟨rfl, rfl, rfl, rfl, trivial⟩ (fun w hm => hm.reord))
                ·
                  replace hM := (ite_f hg116).symm.trans hM
                  refine aw_gskip 48 rfl rfl hg116 ?_
                  refine aw_gskip 49 rfl rfl hg116 ?_
                  refine aw_gskip 50 rfl rfl hg116 ?_
                  refine aw_gskip 51 rfl rfl hg116 ?_
                  refine aw_gskip 52 rfl rfl hg116 ?_
                  refine aw_ev 53 rfl (ev_orT (bnT hg116)) ?_
                  refine aw_done (hK30 _ _ ?_); clear hK30
                  refine cw_cond_true rfl rfl ?_
                  refine cw_seq fun K39 hK39 => ?_
                  refine cw_region ?_
                  refine ow_ev ev_assign ?_
                  refine ow_nil (hK39 _ _ ?_); clear hK39
                  obtain rfl := some_inj hM
                  refine cw_ret (kw_retc1 (fun w hm => ret_of hm rfl))
              ·
                replace hM := (ite_f hg108).symm.trans hM
                refine aw_gskip 35 rfl rfl hg108 ?_
                refine aw_gskip 36 rfl rfl hg108 ?_
                refine aw_gskip 37 rfl rfl hg108 ?_
                refine aw_gskip 38 rfl rfl hg108 ?_
                refine aw_gskip 39 rfl rfl hg108 ?_
                refine aw_gskip 40 rfl rfl hg108 ?_
                refine aw_gskip 41 rfl rfl hg108 ?_
                refine aw_gskip 42 rfl rfl hg108 ?_
                refine aw_ev 43 rfl (ev_orT (bnT hg108)) ?_
                refine aw_ev 44 rfl ev_move ?_
                refine aw_evk 45 rfl rfl hg98 ev_move ?_
                refine aw_evk 46 rfl rfl hg98 ev_move ?_
                obtain ⟨x121, hx122, hM⟩ := bind_some hM
                refine aw_evk 47 rfl rfl hg98 (ev_idx (xs := y35.1) 1 (Kn.trow (e := 33) (r := r37) (by repeat (first | exact Has.head | apply Has.tail))) (fun hg => let h := idx_some hx122; ⟨h.1, h.2.1⟩)) ?_
                refine aw_evk 48 rfl rfl hg98 (ev_ld (i := (t99_3 : Int)) (xs := y35.1) (y := x121) 0 (Kn.trow (e := 33) (r := r37) (by repeat (first | exact Has.head | apply Has.tail))) (fun _ => hx122)) ?_
                obtain ⟨x123, hx124, hM⟩ := bind_some hM
                refine aw_evk 49 rfl rfl hg98 (ev_idx (xs := x121) 3 ((Sk.row (e := 33) (r := r37) (by repeat (first | exact Has.head | apply Has.tail)) hx122)).kn (fun hg => let h := idx_some hx124; ⟨h.1, h.2.1⟩)) ?_
                refine aw_evk 50 rfl rfl hg98 (ev_field_addr 2) ?_
                refine aw_evk 51 rfl rfl hg98 (ev_ld (i := 0) (xs := x121) (y := x123) 2 ((Sk.row (e := 33) (r := r37) (by repeat (first | exact Has.head | apply Has.tail)) hx122)).kn (fun _ => hx124)) ?_
                refine aw_evk 52 rfl rfl hg98 ev_neq ?_
                refine aw_ev 53 rfl ev_or ?_
                refine aw_done (hK30 _ _ ?_); clear hK30
                refine cw_cond rfl (fun hc125 => ?_) (fun hc125 => ?_)
                ·
                  replace hM := (ite_t hc125).symm.trans hM
                  refine cw_seq fun K40 hK40 => ?_
                  refine cw_region ?_
                  refine ow_ev ev_assign ?_
                  refine ow_nil (hK40 _ _ ?_); clear hK40
                  obtain rfl := some_inj hM
                  refine cw_ret (kw_retc1 (fun w hm => ret_of hm rfl))
                ·
                  replace hM := (ite_f hc125).symm.trans hM
                  refine cw_skip (hK28 _ _ ?_); clear hK28
                  refine cw_region ?_
                  refine ow_ev (ev_add (hr := fun _ => by unfold I64; omega)) ?_
                  refine ow_ev ev_move ?_
                  refine ow_nil (hL3 (nn3, (t99_3 + 1), ()) _ _ (eqc hcont3 hM) (Nat.lt_succ_self _) ⟨rfl, rfl, rfl, rfl, trivial⟩ (fun w hm => hm.reord))
            ·
              replace hM := (ite_f hg98).symm.trans hM
              refine aw_gskip 18 rfl rfl hg98 ?_
              refine aw_gskip 19 rfl rfl hg98 ?_
              refine aw_gskip 20 rfl rfl hg98 ?_
              refine aw_gskip 21 rfl rfl hg98 ?_
              refine aw_gskip 22 rfl rfl hg98 ?_
              refine aw_gskip 23 rfl rfl hg98 ?_
              refine aw_gskip 24 rfl rfl hg98 ?_
              refine aw_gskip 25 rfl rfl hg98 ?_
              refine aw_gskip 26 rfl rfl hg98 ?_
              refine aw_gskip 27 rfl rfl hg98 ?_
              refine aw_gskip 28 rfl rfl hg98 ?_
              refine aw_gskip 29 rfl rfl hg98 ?_
              refine aw_ev 30 rfl (ev_orT (bnT hg98)) ?_
              refine aw_ev 31 rfl ev_move ?_
              refine aw_gskip 32 rfl rfl hg98 ?_
              refine aw_gskip 33 rfl rfl hg98 ?_
              refine aw_gskip 34 rfl rfl hg98 ?_
              refine aw_gskip 35 rfl rfl hg98 ?_
              refine aw_gskip 36 rfl rfl hg98 ?_
              refine aw_gskip 37 rfl rfl hg98 ?_
              refine aw_gskip 38 rfl rfl hg98 ?_
              refine aw_gskip 39 rfl rfl hg98 ?_
              refine aw_gskip 40 rfl rfl hg98 ?_
              refine aw_gskip 41 rfl rfl hg98 ?_
              refine aw_gskip 42 rfl rfl hg98 ?_
              refine aw_ev 43 rfl (ev_orT (bnT hg98)) ?_
              refine aw_ev 44 rfl ev_move ?_
              refine aw_gskip 45 rfl rfl hg98 ?_
              refine aw_gskip 46 rfl rfl hg98 ?_
              refine aw_gskip 47 rfl rfl hg98 ?_
              refine aw_gskip 48 rfl rfl hg98 ?_
              refine aw_gskip 49 rfl rfl hg98 ?_
              refine aw_gskip 50 rfl rfl hg98 ?_
              refine aw_gskip 51 rfl rfl hg98 ?_
              refine aw_gskip 52 rfl rfl hg98 ?_
              refine aw_ev 53 rfl (ev_orT (bnT hg98)) ?_
              refine aw_done (hK30 _ _ ?_); clear hK30
              refine cw_cond_true rfl rfl ?_
              refine cw_seq fun K41 hK41 => ?_
              refine cw_region ?_
              refine ow_ev ev_assign ?_
              refine ow_nil (hK41 _ _ ?_); clear hK41
              obtain rfl := some_inj hM
              refine cw_ret (kw_retc1 (fun w hm => ret_of hm rfl))
        ·
          replace hM := (ite_f hc42).symm.trans hM
          refine cw_exit (hK24 _ _ ?_); clear hK24
          dsimp only [law3_WordsCommentsAndSpace_k3] at hM
          refine cw_seq fun K42 hK42 => ?_
          refine cw_region ?_
          refine ow_ev ev_assign ?_
          refine ow_nil (hK42 _ _ ?_); clear hK42
          obtain rfl := some_inj hM
          refine cw_ret (kw_retc1 (fun w hm => ret_of hm rfl))

end Go.Proofs.YtfbpbmnlbcnanaaDoor
