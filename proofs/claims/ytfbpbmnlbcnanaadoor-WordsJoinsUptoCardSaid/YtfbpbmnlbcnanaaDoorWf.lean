/- Models of functions, and that the code computes them. -/
import Derived.Test.YtfbpbmnlbcnanaaDoorTypes
set_option linter.all false
namespace Go.Proofs.YtfbpbmnlbcnanaaDoor
open Go.Dc Go.RowKit
set_option maxRecDepth 10000
def law3_pieces_k1 (s_1 : Str) : Unit → Option Str := fun _ =>
  some s_1
def law3_pieces_b1 (l0 : List UInt8) (cont1 : (Str × Nat) → Option Str) : (Str × Nat) → Option Str := fun (s_1, i_1) =>
  if (decide ((i_1 : Int) < (l0.length : Int)) && decide ((i_1 : Int) < 80)) then
    ((idx l0 (i_1 : Int)).bind fun x3 =>
    chk (decide ((([(⟨[97]⟩ : Str), (⟨[98, 57]⟩ : Str), (⟨[45]⟩ : Str), (⟨[48]⟩ : Str), (⟨[49, 50]⟩ : Str), (⟨[32]⟩ : Str), (⟨[9]⟩ : Str), (⟨[10]⟩ : Str), (⟨[35]⟩ : Str), (⟨[46, 46]⟩ : Str), (⟨[95]⟩ : Str), (⟨[49, 48, 57, 57, 53, 49, 49, 54, 50, 55, 55, 55, 54]⟩ : Str), (⟨[49, 48, 57, 57, 53, 49, 49, 54, 50, 55, 55, 55, 55]⟩ : Str), (⟨[13]⟩ : Str), (⟨[127]⟩ : Str), (⟨[126]⟩ : Str), (⟨[32, 32]⟩ : Str), (⟨[195, 169]⟩ : Str), (⟨[57, 46, 46, 55]⟩ : Str), (⟨[45, 51, 46, 46, 52]⟩ : Str)] : List Str).length : Int) ≠ 0)) <|
    (idx ([(⟨[97]⟩ : Str), (⟨[98, 57]⟩ : Str), (⟨[45]⟩ : Str), (⟨[48]⟩ : Str), (⟨[49, 50]⟩ : Str), (⟨[32]⟩ : Str), (⟨[9]⟩ : Str), (⟨[10]⟩ : Str), (⟨[35]⟩ : Str), (⟨[46, 46]⟩ : Str), (⟨[95]⟩ : Str), (⟨[49, 48, 57, 57, 53, 49, 49, 54, 50, 55, 55, 55, 54]⟩ : Str), (⟨[49, 48, 57, 57, 53, 49, 49, 54, 50, 55, 55, 55, 55]⟩ : Str), (⟨[13]⟩ : Str), (⟨[127]⟩ : Str), (⟨[126]⟩ : Str), (⟨[32, 32]⟩ : Str), (⟨[195, 169]⟩ : Str), (⟨[57, 46, 46, 55]⟩ : Str), (⟨[45, 51, 46, 46, 52]⟩ : Str)] : List Str) ((IntKind.i64.wrap (x3.toNat : Int)).tmod (([(⟨[97]⟩ : Str), (⟨[98, 57]⟩ : Str), (⟨[45]⟩ : Str), (⟨[48]⟩ : Str), (⟨[49, 50]⟩ : Str), (⟨[32]⟩ : Str), (⟨[9]⟩ : Str), (⟨[10]⟩ : Str), (⟨[35]⟩ : Str), (⟨[46, 46]⟩ : Str), (⟨[95]⟩ : Str), (⟨[49, 48, 57, 57, 53, 49, 49, 54, 50, 55, 55, 55, 54]⟩ : Str), (⟨[49, 48, 57, 57, 53, 49, 49, 54, 50, 55, 55, 55, 55]⟩ : Str), (⟨[13]⟩ : Str), (⟨[127]⟩ : Str), (⟨[126]⟩ : Str), (⟨[32, 32]⟩ : Str), (⟨[195, 169]⟩ : Str), (⟨[57, 46, 46, 55]⟩ : Str), (⟨[45, 51, 46, 46, 52]⟩ : Str)] : List Str).length : Int))).bind fun x6 =>
    (strCat s_1 x6).bind fun q8 =>
    chk (i64b ((i_1 : Int) + 1)) <|
    cont1 (q8, i_1 + 1))
  else
    (law3_pieces_k1 s_1 ())
def law3_pieces_m (l0 : List UInt8) : Option Str :=
  iter (law3_pieces_b1 l0) FUEL ((⟨[]⟩ : Str), 0)
theorem law3_pieces_spec (S : Soup) (w : World) (l0 : List UInt8) (r_l0 : GoRep.R (List UInt8)) (y : Str) (hM : law3_pieces_m l0 = some y) (hS : ∀ k, S k → k < w.heap.size) (h_l0 : GoRep.ok S w r_l0 l0) :
    Calls Tryd.prog 17 #[.slice r_l0.a l0.length r_l0.cap] w (Ret w (.string y.ba)) := by
  refine calls_cw (args := [_]) Tryd.func17 rfl ((pre_nil hS).start |>.immP (α := List UInt8) (r := r_l0) (x := l0) h_l0) rfl ?_
  unfold law3_pieces_m at hM
  refine cw_seq fun K1 hK1 => ?_
  refine cw_region ?_
  refine ow_ev ev_assign ?_
  refine ow_nil (hK1 _ _ ?_); clear hK1
  refine cw_seq fun K2 hK2 => ?_
  refine cw_region ?_
  refine ow_cons (st_bslice (α := Str) 9 (fun _ => ()) ([(⟨[97]⟩ : Str), (⟨[98, 57]⟩ : Str), (⟨[45]⟩ : Str), (⟨[48]⟩ : Str), (⟨[49, 50]⟩ : Str), (⟨[32]⟩ : Str), (⟨[9]⟩ : Str), (⟨[10]⟩ : Str), (⟨[35]⟩ : Str), (⟨[46, 46]⟩ : Str), (⟨[95]⟩ : Str), (⟨[49, 48, 57, 57, 53, 49, 49, 54, 50, 55, 55, 55, 54]⟩ : Str), (⟨[49, 48, 57, 57, 53, 49, 49, 54, 50, 55, 55, 55, 55]⟩ : Str), (⟨[13]⟩ : Str), (⟨[127]⟩ : Str), (⟨[126]⟩ : Str), (⟨[32, 32]⟩ : Str), (⟨[195, 169]⟩ : Str), (⟨[57, 46, 46, 55]⟩ : Str), (⟨[45, 51, 46, 46, 52]⟩ : Str)] : List Str) (OkL.flat (fun _ _ _ _ => trivial)) (fun r1 => ?_))
  refine ow_ev ev_assign ?_
  refine ow_nil (hK2 _ _ ?_); clear hK2
  refine cw_seq fun K3 hK3 => ?_
  refine cw_region ?_
  refine ow_ev ev_assign ?_
  refine ow_nil (hK3 _ _ ?_); clear hK3
  refine cw_seq fun K4 hK4 => ?_
  refine cw_seq fun K5 hK5 => ?_
  refine cw_region ?_
  refine ow_ev ev_assign ?_
  refine ow_nil (hK5 _ _ ?_); clear hK5
  refine cw_block ?_
  refine cw_loop (γ := Nat × (Str × Nat) × Unit) (env := fun (_, (s_1, i_1), _) => [(0, .v (.slice r_l0.a l0.length r_l0.cap)), (3, .v (.slice r1.a (([(⟨[97]⟩ : Str), (⟨[98, 57]⟩ : Str), (⟨[45]⟩ : Str), (⟨[48]⟩ : Str), (⟨[49, 50]⟩ : Str), (⟨[32]⟩ : Str), (⟨[9]⟩ : Str), (⟨[10]⟩ : Str), (⟨[35]⟩ : Str), (⟨[46, 46]⟩ : Str), (⟨[95]⟩ : Str), (⟨[49, 48, 57, 57, 53, 49, 49, 54, 50, 55, 55, 55, 54]⟩ : Str), (⟨[49, 48, 57, 57, 53, 49, 49, 54, 50, 55, 55, 55, 55]⟩ : Str), (⟨[13]⟩ : Str), (⟨[127]⟩ : Str), (⟨[126]⟩ : Str), (⟨[32, 32]⟩ : Str), (⟨[195, 169]⟩ : Str), (⟨[57, 46, 46, 55]⟩ : Str), (⟨[45, 51, 46, 46, 52]⟩ : Str)] : List Str).length) r1.cap)), (4, .v (.string s_1.ba)), (5, .v (.int .i64 (i_1 : Int)))]) (mem := fun (_, (s_1, i_1), _) => [imm (α := (List UInt8)) r_l0 l0, trow 9 r1 ([(⟨[97]⟩ : Str), (⟨[98, 57]⟩ : Str), (⟨[45]⟩ : Str), (⟨[48]⟩ : Str), (⟨[49, 50]⟩ : Str), (⟨[32]⟩ : Str), (⟨[9]⟩ : Str), (⟨[10]⟩ : Str), (⟨[35]⟩ : Str), (⟨[46, 46]⟩ : Str), (⟨[95]⟩ : Str), (⟨[49, 48, 57, 57, 53, 49, 49, 54, 50, 55, 55, 55, 54]⟩ : Str), (⟨[49, 48, 57, 57, 53, 49, 49, 54, 50, 55, 55, 55, 55]⟩ : Str), (⟨[13]⟩ : Str), (⟨[127]⟩ : Str), (⟨[126]⟩ : Str), (⟨[32, 32]⟩ : Str), (⟨[195, 169]⟩ : Str), (⟨[57, 46, 46, 55]⟩ : Str), (⟨[45, 51, 46, 46, 52]⟩ : Str)] : List Str)]) (R := fun g => iter (law3_pieces_b1 l0) g.1 g.2.1 = some y) (μ := fun g => g.1) (FUEL, ((⟨[]⟩ : Str), 0), ()) hM ⟨rfl, rfl, rfl, rfl, trivial⟩ (fun w hm => hm.reord) ?_
  clear hM
  intro g hM KL1 hL1
  obtain ⟨nn1, ⟨s_1, i_1⟩, ⟨⟩⟩ := g
  dsimp only at hM ⊢
  obtain ⟨nn1, cont1, rfl, hcont1, hM⟩ := iter_open' hM
  dsimp only [law3_pieces_b1] at hM
  refine cw_seq fun K6 hK6 => ?_
  refine cw_seq fun K7 hK7 => ?_
  refine cw_region ?_
  refine ow_ev ev_move ?_
  refine ow_ev ev_move ?_
  refine ow_ev ev_len ?_
  refine ow_ev ev_lss ?_
  refine ow_ev ev_move ?_
  refine ow_evg rfl ev_move ?_
  refine ow_evg rfl ev_lss ?_
  refine ow_ev ev_and ?_
  refine ow_nil (hK7 _ _ ?_); clear hK7
  refine cw_cond rfl (fun hc2 => ?_) (fun hc2 => ?_)
  ·
    replace hM := (ite_t hc2).symm.trans hM
    refine cw_skip (hK6 _ _ ?_); clear hK6
    refine cw_seq fun K8 hK8 => ?_
    refine cw_block ?_
    refine cw_region ?_
    refine ow_ev ev_move ?_
    refine ow_ev ev_move ?_
    refine ow_ev ev_move ?_
    refine ow_ev ev_move ?_
    obtain ⟨x3, hx4, hM⟩ := bind_some hM
    refine ow_ev (ev_idx (xs := l0) 1 (Kn.imm (α := List UInt8) (r := r_l0) (x := l0) (by repeat (first | exact Has.head | apply Has.tail))) (fun hg => let h := idx_some hx4; ⟨h.1, h.2.1⟩)) ?_
    refine ow_ev (ev_ld (i := (i_1 : Int)) (xs := l0) (y := x3) 0 (Kn.imm (α := List UInt8) (r := r_l0) (x := l0) (by repeat (first | exact Has.head | apply Has.tail))) (fun _ => hx4)) ?_
    refine ow_ev (ev_convert_int .i64) ?_
    refine ow_ev ev_move ?_
    refine ow_ev ev_len ?_
    obtain ⟨hI5, hM⟩ := chk_some hM
    refine ow_ev (ev_rem (hq := fun hg => of_decide_eq_true hI5)) ?_
    obtain ⟨x6, hx7, hM⟩ := bind_some hM
    refine ow_ev (ev_idx (xs := ([(⟨[97]⟩ : Str), (⟨[98, 57]⟩ : Str), (⟨[45]⟩ : Str), (⟨[48]⟩ : Str), (⟨[49, 50]⟩ : Str), (⟨[32]⟩ : Str), (⟨[9]⟩ : Str), (⟨[10]⟩ : Str), (⟨[35]⟩ : Str), (⟨[46, 46]⟩ : Str), (⟨[95]⟩ : Str), (⟨[49, 48, 57, 57, 53, 49, 49, 54, 50, 55, 55, 55, 54]⟩ : Str), (⟨[49, 48, 57, 57, 53, 49, 49, 54, 50, 55, 55, 55, 55]⟩ : Str), (⟨[13]⟩ : Str), (⟨[127]⟩ : Str), (⟨[126]⟩ : Str), (⟨[32, 32]⟩ : Str), (⟨[195, 169]⟩ : Str), (⟨[57, 46, 46, 55]⟩ : Str), (⟨[45, 51, 46, 46, 52]⟩ : Str)] : List Str)) 1 (Kn.trow (e := 9) (r := r1) (by repeat (first | exact Has.head | apply Has.tail))) (fun hg => let h := idx_some hx7; ⟨h.1, h.2.1⟩)) ?_
    refine ow_ev (ev_ld (i := ((IntKind.i64.wrap (x3.toNat : Int)).tmod (([(⟨[97]⟩ : Str), (⟨[98, 57]⟩ : Str), (⟨[45]⟩ : Str), (⟨[48]⟩ : Str), (⟨[49, 50]⟩ : Str), (⟨[32]⟩ : Str), (⟨[9]⟩ : Str), (⟨[10]⟩ : Str), (⟨[35]⟩ : Str), (⟨[46, 46]⟩ : Str), (⟨[95]⟩ : Str), (⟨[49, 48, 57, 57, 53, 49, 49, 54, 50, 55, 55, 55, 54]⟩ : Str), (⟨[49, 48, 57, 57, 53, 49, 49, 54, 50, 55, 55, 55, 55]⟩ : Str), (⟨[13]⟩ : Str), (⟨[127]⟩ : Str), (⟨[126]⟩ : Str), (⟨[32, 32]⟩ : Str), (⟨[195, 169]⟩ : Str), (⟨[57, 46, 46, 55]⟩ : Str), (⟨[45, 51, 46, 46, 52]⟩ : Str)] : List Str).length : Int))) (xs := ([(⟨[97]⟩ : Str), (⟨[98, 57]⟩ : Str), (⟨[45]⟩ : Str), (⟨[48]⟩ : Str), (⟨[49, 50]⟩ : Str), (⟨[32]⟩ : Str), (⟨[9]⟩ : Str), (⟨[10]⟩ : Str), (⟨[35]⟩ : Str), (⟨[46, 46]⟩ : Str), (⟨[95]⟩ : Str), (⟨[49, 48, 57, 57, 53, 49, 49, 54, 50, 55, 55, 55, 54]⟩ : Str), (⟨[49, 48, 57, 57, 53, 49, 49, 54, 50, 55, 55, 55, 55]⟩ : Str), (⟨[13]⟩ : Str), (⟨[127]⟩ : Str), (⟨[126]⟩ : Str), (⟨[32, 32]⟩ : Str), (⟨[195, 169]⟩ : Str), (⟨[57, 46, 46, 55]⟩ : Str), (⟨[45, 51, 46, 46, 52]⟩ : Str)] : List Str)) (y := x6) 0 (Kn.trow (e := 9) (r := r1) (by repeat (first | exact Has.head | apply Has.tail))) (fun _ => hx7)) ?_
    obtain ⟨q8, hq9, hM⟩ := bind_some hM
    refine ow_ev (ev_scat (fun _ => hq9)) ?_
    refine ow_ev ev_assign ?_
    refine ow_nil (hK8 _ _ ?_); clear hK8
    refine cw_region ?_
    refine ow_ev ev_move ?_
    obtain ⟨hI10, hM⟩ := chk_some hM
    refine ow_ev (ev_add (hr := fun hg => i64b_I64 hI10)) ?_
    refine ow_ev ev_assign ?_
    refine ow_nil (hL1 (nn1, (q8, i_1 + 1), ()) _ _ (eqc hcont1 hM) (Nat.lt_succ_self _) ⟨rfl, rfl, rfl, rfl, trivial⟩ (fun w hm => hm.reord))
  ·
    replace hM := (ite_f hc2).symm.trans hM
    refine cw_exit (hK4 _ _ ?_); clear hK4
    dsimp only [law3_pieces_k1] at hM
    refine cw_seq fun K9 hK9 => ?_
    refine cw_region ?_
    refine ow_ev ev_move ?_
    refine ow_ev ev_assign ?_
    refine ow_nil (hK9 _ _ ?_); clear hK9
    obtain rfl := some_inj hM
    refine cw_ret (kw_retc1 (fun w hm => ret_of hm rfl))

end Go.Proofs.YtfbpbmnlbcnanaaDoor
