/- Models of functions, and that the code computes them. -/
import Derived.Test.YtohhihdjdelckaaDoorLe
import Derived.Test.YtohhihdjdelckaaDoorLg
namespace Go.Proofs.YtohhihdjdelckaaDoor
open Go.Dc Go.RowKit
set_option maxRecDepth 10000
set_option linter.unusedVariables false
def law4_LayoutParses_k1 (s0 : Str) (t_1 : Str) : Unit → Option Bool := fun _ =>
  (law4_awake_m).bind fun y13 =>
  (whn y13 default (law4_parses_m s0)).bind fun y15 =>
  (whn (y13 && y15) default (law4_parses_m t_1)).bind fun y17 =>
  some ((y13 && y15) && y17)
def law4_LayoutParses_b1 (l0 : List UInt8) (s0 : Str) (cont1 : (Str × Nat) → Option Bool) : (Str × Nat) → Option Bool := fun (t_1, i_1) =>
  if (decide ((i_1 : Int) < (l0.length : Int)) && decide ((i_1 : Int) < 80)) then
    ((idx l0 (i_1 : Int)).bind fun x3 =>
    chk (decide ((([(⟨[115, 116, 97, 116, 105, 111, 110]⟩ : Str), (⟨[112, 111, 105, 110, 116]⟩ : Str), (⟨[115, 101, 99, 116, 105, 111, 110]⟩ : Str), (⟨[108, 105, 110, 107]⟩ : Str), (⟨[97, 116]⟩ : Str), (⟨[65]⟩ : Str), (⟨[66]⟩ : Str), (⟨[88]⟩ : Str), (⟨[89]⟩ : Str), (⟨[87]⟩ : Str), (⟨[83, 48]⟩ : Str), (⟨[48]⟩ : Str), (⟨[49]⟩ : Str), (⟨[50, 48]⟩ : Str), (⟨[57, 48, 48, 48]⟩ : Str), (⟨[45, 51]⟩ : Str), (⟨[10]⟩ : Str), (⟨[10]⟩ : Str), (⟨[10]⟩ : Str), (⟨[35]⟩ : Str)] : List Str).length : Int) ≠ 0)) <|
    (idx ([(⟨[115, 116, 97, 116, 105, 111, 110]⟩ : Str), (⟨[112, 111, 105, 110, 116]⟩ : Str), (⟨[115, 101, 99, 116, 105, 111, 110]⟩ : Str), (⟨[108, 105, 110, 107]⟩ : Str), (⟨[97, 116]⟩ : Str), (⟨[65]⟩ : Str), (⟨[66]⟩ : Str), (⟨[88]⟩ : Str), (⟨[89]⟩ : Str), (⟨[87]⟩ : Str), (⟨[83, 48]⟩ : Str), (⟨[48]⟩ : Str), (⟨[49]⟩ : Str), (⟨[50, 48]⟩ : Str), (⟨[57, 48, 48, 48]⟩ : Str), (⟨[45, 51]⟩ : Str), (⟨[10]⟩ : Str), (⟨[10]⟩ : Str), (⟨[10]⟩ : Str), (⟨[35]⟩ : Str)] : List Str) ((IntKind.i64.wrap (x3.toNat : Int)).tmod (([(⟨[115, 116, 97, 116, 105, 111, 110]⟩ : Str), (⟨[112, 111, 105, 110, 116]⟩ : Str), (⟨[115, 101, 99, 116, 105, 111, 110]⟩ : Str), (⟨[108, 105, 110, 107]⟩ : Str), (⟨[97, 116]⟩ : Str), (⟨[65]⟩ : Str), (⟨[66]⟩ : Str), (⟨[88]⟩ : Str), (⟨[89]⟩ : Str), (⟨[87]⟩ : Str), (⟨[83, 48]⟩ : Str), (⟨[48]⟩ : Str), (⟨[49]⟩ : Str), (⟨[50, 48]⟩ : Str), (⟨[57, 48, 48, 48]⟩ : Str), (⟨[45, 51]⟩ : Str), (⟨[10]⟩ : Str), (⟨[10]⟩ : Str), (⟨[10]⟩ : Str), (⟨[35]⟩ : Str)] : List Str).length : Int))).bind fun x6 =>
    (strCat x6 (⟨[32]⟩ : Str)).bind fun q8 =>
    (strCat t_1 q8).bind fun q10 =>
    chk (i64b ((i_1 : Int) + 1)) <|
    cont1 (q10, i_1 + 1))
  else
    (law4_LayoutParses_k1 s0 t_1 ())
def law4_LayoutParses_m (s0 : Str) (l0 : List UInt8) : Option Bool :=
  iter (law4_LayoutParses_b1 l0 s0) FUEL ((⟨[]⟩ : Str), 0)
theorem law4_LayoutParses_spec (S : Soup) (w : World) (s0 : Str) (l0 : List UInt8) (r_l0 : GoRep.R (List UInt8)) (y : Bool) (hM : law4_LayoutParses_m s0 l0 = some y) (hS : ∀ k, S k → k < w.heap.size) (h_l0 : GoRep.ok S w r_l0 l0) (hg_0 : (imm (α := (List Str)) (⟨some ⟨0, 0, none⟩, 2, fun _ => ()⟩ : SR Unit) ([(⟨[65]⟩ : Str), (⟨[66]⟩ : Str)] : List Str)).φ S w) :
    Calls Tryd.prog 6 #[.string s0.ba, .slice r_l0.a l0.length r_l0.cap] w (Ret w (.bool y)) := by
  refine calls_cw (args := [_, _]) Tryd.func6 rfl ((pre_nil hS).start |>.immP (α := List UInt8) (r := r_l0) (x := l0) h_l0|>.factP (c := imm (α := (List Str)) (⟨some ⟨0, 0, none⟩, 2, fun _ => ()⟩ : SR Unit) ([(⟨[65]⟩ : Str), (⟨[66]⟩ : Str)] : List Str)) (fun _ h => False.elim h) hg_0) rfl ?_
  unfold law4_LayoutParses_m at hM
  refine cw_seq fun K1 hK1 => ?_
  refine cw_region ?_
  refine ow_ev ev_assign ?_
  refine ow_nil (hK1 _ _ ?_); clear hK1
  refine cw_seq fun K2 hK2 => ?_
  refine cw_region ?_
  refine ow_cons (st_bslice (α := Str) 9 (fun _ => ()) ([(⟨[115, 116, 97, 116, 105, 111, 110]⟩ : Str), (⟨[112, 111, 105, 110, 116]⟩ : Str), (⟨[115, 101, 99, 116, 105, 111, 110]⟩ : Str), (⟨[108, 105, 110, 107]⟩ : Str), (⟨[97, 116]⟩ : Str), (⟨[65]⟩ : Str), (⟨[66]⟩ : Str), (⟨[88]⟩ : Str), (⟨[89]⟩ : Str), (⟨[87]⟩ : Str), (⟨[83, 48]⟩ : Str), (⟨[48]⟩ : Str), (⟨[49]⟩ : Str), (⟨[50, 48]⟩ : Str), (⟨[57, 48, 48, 48]⟩ : Str), (⟨[45, 51]⟩ : Str), (⟨[10]⟩ : Str), (⟨[10]⟩ : Str), (⟨[10]⟩ : Str), (⟨[35]⟩ : Str)] : List Str) (OkL.flat (fun _ _ _ _ => trivial)) (fun r1 => ?_))
  refine ow_ev ev_assign ?_
  refine ow_nil (hK2 _ _ ?_); clear hK2
  refine cw_seq fun K3 hK3 => ?_
  refine cw_region ?_
  refine ow_ev ev_assign ?_
  refine ow_nil (hK3 _ _ ?_); clear hK3
  refine cw_seq fun K4 hK4 => ?_
  refine cw_seq fun K5 hK5 => ?_
  refine cw_region ?_
  refine ow_ev ev_assign ?_
  refine ow_nil (hK5 _ _ ?_); clear hK5
  refine cw_block ?_
  refine cw_loop (γ := Nat × (Str × Nat) × Unit) (env := fun (_, (t_1, i_1), _) => [(0, .v (.string s0.ba)), (1, .v (.slice r_l0.a l0.length r_l0.cap)), (5, .v (.slice r1.a (([(⟨[115, 116, 97, 116, 105, 111, 110]⟩ : Str), (⟨[112, 111, 105, 110, 116]⟩ : Str), (⟨[115, 101, 99, 116, 105, 111, 110]⟩ : Str), (⟨[108, 105, 110, 107]⟩ : Str), (⟨[97, 116]⟩ : Str), (⟨[65]⟩ : Str), (⟨[66]⟩ : Str), (⟨[88]⟩ : Str), (⟨[89]⟩ : Str), (⟨[87]⟩ : Str), (⟨[83, 48]⟩ : Str), (⟨[48]⟩ : Str), (⟨[49]⟩ : Str), (⟨[50, 48]⟩ : Str), (⟨[57, 48, 48, 48]⟩ : Str), (⟨[45, 51]⟩ : Str), (⟨[10]⟩ : Str), (⟨[10]⟩ : Str), (⟨[10]⟩ : Str), (⟨[35]⟩ : Str)] : List Str).length) r1.cap)), (6, .v (.string t_1.ba)), (7, .v (.int .i64 (i_1 : Int)))]) (mem := fun (_, (t_1, i_1), _) => [imm (α := (List Str)) (⟨some ⟨0, 0, none⟩, 2, fun _ => ()⟩ : SR Unit) ([(⟨[65]⟩ : Str), (⟨[66]⟩ : Str)] : List Str), imm (α := (List UInt8)) r_l0 l0, trow 9 r1 ([(⟨[115, 116, 97, 116, 105, 111, 110]⟩ : Str), (⟨[112, 111, 105, 110, 116]⟩ : Str), (⟨[115, 101, 99, 116, 105, 111, 110]⟩ : Str), (⟨[108, 105, 110, 107]⟩ : Str), (⟨[97, 116]⟩ : Str), (⟨[65]⟩ : Str), (⟨[66]⟩ : Str), (⟨[88]⟩ : Str), (⟨[89]⟩ : Str), (⟨[87]⟩ : Str), (⟨[83, 48]⟩ : Str), (⟨[48]⟩ : Str), (⟨[49]⟩ : Str), (⟨[50, 48]⟩ : Str), (⟨[57, 48, 48, 48]⟩ : Str), (⟨[45, 51]⟩ : Str), (⟨[10]⟩ : Str), (⟨[10]⟩ : Str), (⟨[10]⟩ : Str), (⟨[35]⟩ : Str)] : List Str)]) (R := fun g => iter (law4_LayoutParses_b1 l0 s0) g.1 g.2.1 = some y) (μ := fun g => g.1) (FUEL, ((⟨[]⟩ : Str), 0), ()) hM ⟨rfl, rfl, rfl, rfl, rfl, trivial⟩ (fun w hm => hm.reord) ?_
  clear hM
  intro g hM KL1 hL1
  obtain ⟨nn1, ⟨t_1, i_1⟩, ⟨⟩⟩ := g
  dsimp only at hM ⊢
  obtain ⟨nn1, cont1, rfl, hcont1, hM⟩ := iter_open' hM
  dsimp only [law4_LayoutParses_b1] at hM
  refine cw_seq fun K6 hK6 => ?_
  refine cw_seq fun K7 hK7 => ?_
  refine cw_region ?_
  refine ow_ev ev_move ?_
  refine ow_ev ev_move ?_
  refine ow_ev ev_len ?_
  refine ow_ev ev_lss ?_
  refine ow_ev ev_move ?_
  refine ow_evg rfl ev_move ?_
  refine ow_evg rfl ev_lss ?_
  refine ow_ev ev_and ?_
  refine ow_nil (hK7 _ _ ?_); clear hK7
  refine cw_cond rfl (fun hc2 => ?_) (fun hc2 => ?_)
  ·
    replace hM := (ite_t hc2).symm.trans hM
    refine cw_skip (hK6 _ _ ?_); clear hK6
    refine cw_seq fun K8 hK8 => ?_
    refine cw_block ?_
    refine cw_region ?_
    refine ow_ev ev_move ?_
    refine ow_ev ev_move ?_
    refine ow_ev ev_move ?_
    refine ow_ev ev_move ?_
    obtain ⟨x3, hx4, hM⟩ := bind_some hM
    refine ow_ev (ev_idx (xs := l0) 1 (Kn.imm (α := List UInt8) (r := r_l0) (x := l0) (by repeat (first | exact Has.head | apply Has.tail))) (fun hg => let h := idx_some hx4; ⟨h.1, h.2.1⟩)) ?_
    refine ow_ev (ev_ld (i := (i_1 : Int)) (xs := l0) (y := x3) 0 (Kn.imm (α := List UInt8) (r := r_l0) (x := l0) (by repeat (first | exact Has.head | apply Has.tail))) (fun _ => hx4)) ?_
    refine ow_ev (ev_convert_int .i64) ?_
    refine ow_ev ev_move ?_
    refine ow_ev ev_len ?_
    obtain ⟨hI5, hM⟩ := chk_some hM
    refine ow_ev (ev_rem (hq := fun hg => of_decide_eq_true hI5)) ?_
    obtain ⟨x6, hx7, hM⟩ := bind_some hM
    refine ow_ev (ev_idx (xs := ([(⟨[115, 116, 97, 116, 105, 111, 110]⟩ : Str), (⟨[112, 111, 105, 110, 116]⟩ : Str), (⟨[115, 101, 99, 116, 105, 111, 110]⟩ : Str), (⟨[108, 105, 110, 107]⟩ : Str), (⟨[97, 116]⟩ : Str), (⟨[65]⟩ : Str), (⟨[66]⟩ : Str), (⟨[88]⟩ : Str), (⟨[89]⟩ : Str), (⟨[87]⟩ : Str), (⟨[83, 48]⟩ : Str), (⟨[48]⟩ : Str), (⟨[49]⟩ : Str), (⟨[50, 48]⟩ : Str), (⟨[57, 48, 48, 48]⟩ : Str), (⟨[45, 51]⟩ : Str), (⟨[10]⟩ : Str), (⟨[10]⟩ : Str), (⟨[10]⟩ : Str), (⟨[35]⟩ : Str)] : List Str)) 1 (Kn.trow (e := 9) (r := r1) (by repeat (first | exact Has.head | apply Has.tail))) (fun hg => let h := idx_some hx7; ⟨h.1, h.2.1⟩)) ?_
    refine ow_ev (ev_ld (i := ((IntKind.i64.wrap (x3.toNat : Int)).tmod (([(⟨[115, 116, 97, 116, 105, 111, 110]⟩ : Str), (⟨[112, 111, 105, 110, 116]⟩ : Str), (⟨[115, 101, 99, 116, 105, 111, 110]⟩ : Str), (⟨[108, 105, 110, 107]⟩ : Str), (⟨[97, 116]⟩ : Str), (⟨[65]⟩ : Str), (⟨[66]⟩ : Str), (⟨[88]⟩ : Str), (⟨[89]⟩ : Str), (⟨[87]⟩ : Str), (⟨[83, 48]⟩ : Str), (⟨[48]⟩ : Str), (⟨[49]⟩ : Str), (⟨[50, 48]⟩ : Str), (⟨[57, 48, 48, 48]⟩ : Str), (⟨[45, 51]⟩ : Str), (⟨[10]⟩ : Str), (⟨[10]⟩ : Str), (⟨[10]⟩ : Str), (⟨[35]⟩ : Str)] : List Str).length : Int))) (xs := ([(⟨[115, 116, 97, 116, 105, 111, 110]⟩ : Str), (⟨[112, 111, 105, 110, 116]⟩ : Str), (⟨[115, 101, 99, 116, 105, 111, 110]⟩ : Str), (⟨[108, 105, 110, 107]⟩ : Str), (⟨[97, 116]⟩ : Str), (⟨[65]⟩ : Str), (⟨[66]⟩ : Str), (⟨[88]⟩ : Str), (⟨[89]⟩ : Str), (⟨[87]⟩ : Str), (⟨[83, 48]⟩ : Str), (⟨[48]⟩ : Str), (⟨[49]⟩ : Str), (⟨[50, 48]⟩ : Str), (⟨[57, 48, 48, 48]⟩ : Str), (⟨[45, 51]⟩ : Str), (⟨[10]⟩ : Str), (⟨[10]⟩ : Str), (⟨[10]⟩ : Str), (⟨[35]⟩ : Str)] : List Str)) (y := x6) 0 (Kn.trow (e := 9) (r := r1) (by repeat (first | exact Has.head | apply Has.tail))) (fun _ => hx7)) ?_
    obtain ⟨q8, hq9, hM⟩ := bind_some hM
    refine ow_ev (ev_scat (fun _ => hq9)) ?_
    obtain ⟨q10, hq11, hM⟩ := bind_some hM
    refine ow_ev (ev_scat (fun _ => hq11)) ?_
    refine ow_ev ev_assign ?_
    refine ow_nil (hK8 _ _ ?_); clear hK8
    refine cw_region ?_
    refine ow_ev ev_move ?_
    obtain ⟨hI12, hM⟩ := chk_some hM
    refine ow_ev (ev_add (hr := fun hg => i64b_I64 hI12)) ?_
    refine ow_ev ev_assign ?_
    refine ow_nil (hL1 (nn1, (q10, i_1 + 1), ()) _ _ (eqc hcont1 hM) (Nat.lt_succ_self _) ⟨rfl, rfl, rfl, rfl, rfl, trivial⟩ (fun w hm => hm.reord))
  ·
    replace hM := (ite_f hc2).symm.trans hM
    refine cw_exit (hK4 _ _ ?_); clear hK4
    dsimp only [law4_LayoutParses_k1] at hM
    refine cw_seq fun K9 hK9 => ?_
    refine cw_region ?_
    obtain ⟨y13, hy14, hM⟩ := bind_some hM
    refine ow_cons (st_callv (fun w hm => let ⟨S, hs⟩ := hm; law4_awake_spec _ w  y13 hy14 (lend_lt hs) ) ?_)
    refine ow_ev ev_move ?_
    refine ow_evg rfl ev_move ?_
    obtain ⟨y15, hy16, hM⟩ := bind_some hM
    refine ow_callg rfl (fun hg w hm => let ⟨S, hs⟩ := hm; law4_parses_spec _ w s0 y15 (whn_some hy16 hg) (lend_lt hs) (Chunk.mono _ _ _ _ (fun _ h => .inl h) (((by repeat (first | exact Has.head | apply Has.tail)) : Has _ (imm (α := (List Str)) (⟨some ⟨0, 0, none⟩, 2, fun _ => ()⟩ : SR Unit) ([(⟨[65]⟩ : Str), (⟨[66]⟩ : Str)] : List Str))).φ hs))) ?_
    refine ow_ev ev_and ?_
    refine ow_ev ev_move ?_
    refine ow_evg rfl ev_move ?_
    obtain ⟨y17, hy18, hM⟩ := bind_some hM
    refine ow_callg rfl (fun hg w hm => let ⟨S, hs⟩ := hm; law4_parses_spec _ w t_1 y17 (whn_some hy18 hg) (lend_lt hs) (Chunk.mono _ _ _ _ (fun _ h => .inl h) (((by repeat (first | exact Has.head | apply Has.tail)) : Has _ (imm (α := (List Str)) (⟨some ⟨0, 0, none⟩, 2, fun _ => ()⟩ : SR Unit) ([(⟨[65]⟩ : Str), (⟨[66]⟩ : Str)] : List Str))).φ hs))) ?_
    refine ow_ev ev_and ?_
    refine ow_ev ev_assign ?_
    refine ow_nil (hK9 _ _ ?_); clear hK9
    obtain rfl := some_inj hM
    refine cw_ret (kw_retc1 (fun w hm => ret_of hm rfl))

end Go.Proofs.YtohhihdjdelckaaDoor
