/- Models of functions, and that the code computes them. -/
import Derived.Test.YtohhihdjdelckaaDoorTypes
set_option linter.all false
namespace Go.Proofs.YtohhihdjdelckaaDoor
open Go.Dc Go.RowKit
set_option maxRecDepth 10000
def keep_Same_api_Hop_k1 : Unit → Option Bool := fun _ =>
  some true
def keep_Same_api_Hop_b1 (a0 : List Hop) (b0 : List Hop) (cont1 : Nat → Option Bool) : Nat → Option Bool := fun t13_1 =>
  if decide ((t13_1 : Int) < (a0.length : Int)) then
    ((idx a0 (t13_1 : Int)).bind fun x4 =>
    (idx b0 (t13_1 : Int)).bind fun x6 =>
    if (!decide (x4 = x6)) then
      (some false)
    else
      (cont1 (t13_1 + 1)))
  else
    (keep_Same_api_Hop_k1 ())
def keep_Same_api_Hop_m (a0 : List Hop) (b0 : List Hop) : Option Bool :=
  if decide ((a0.length : Int) ≠ (b0.length : Int)) then
    (some false)
  else
    (iter (keep_Same_api_Hop_b1 a0 b0) FUEL 0)
theorem keep_Same_api_Hop_spec (S : Soup) (w : World) (a0 : List Hop) (r_a0 : GoRep.R (List Hop)) (b0 : List Hop) (r_b0 : GoRep.R (List Hop)) (y : Bool) (hM : keep_Same_api_Hop_m a0 b0 = some y) (hS : ∀ k, S k → k < w.heap.size) (h_a0 : GoRep.ok S w r_a0 a0) (h_b0 : GoRep.ok S w r_b0 b0) :
    Calls Tryd.prog 22 #[.slice r_a0.a a0.length r_a0.cap, .slice r_b0.a b0.length r_b0.cap] w (Ret w (.bool y)) := by
  refine calls_cw (args := [_, _]) Tryd.func22 rfl ((pre_nil hS).start |>.immP (α := List Hop) (r := r_a0) (x := a0) h_a0|>.immP (α := List Hop) (r := r_b0) (x := b0) h_b0) rfl ?_
  unfold keep_Same_api_Hop_m at hM
  refine cw_seq fun K1 hK1 => ?_
  refine cw_region ?_
  refine ow_ev ev_assign ?_
  refine ow_nil (hK1 _ _ ?_); clear hK1
  refine cw_seq fun K2 hK2 => ?_
  refine cw_seq fun K3 hK3 => ?_
  refine cw_region ?_
  refine ow_ev ev_move ?_
  refine ow_ev ev_len ?_
  refine ow_ev ev_move ?_
  refine ow_ev ev_len ?_
  refine ow_ev ev_neq ?_
  refine ow_nil (hK3 _ _ ?_); clear hK3
  refine cw_cond rfl (fun hc1 => ?_) (fun hc1 => ?_)
  ·
    replace hM := (ite_t hc1).symm.trans hM
    refine cw_seq fun K4 hK4 => ?_
    refine cw_region ?_
    refine ow_ev ev_assign ?_
    refine ow_nil (hK4 _ _ ?_); clear hK4
    obtain rfl := some_inj hM
    refine cw_ret (kw_retc1 (fun w hm => ret_of hm rfl))
  ·
    replace hM := (ite_f hc1).symm.trans hM
    refine cw_skip (hK2 _ _ ?_); clear hK2
    refine cw_seq fun K5 hK5 => ?_
    refine cw_seq fun K6 hK6 => ?_
    refine cw_region ?_
    refine ow_ev ev_move ?_
    refine ow_have (fun w hm => Kn.len (Kn.imm (α := List Hop) (r := r_a0) (x := a0) (by repeat (first | exact Has.head | apply Has.tail))) hm) fun hl2 => ?_
    refine ow_ev ev_len ?_
    refine ow_ev ev_move ?_
    refine ow_nil (hK6 _ _ ?_); clear hK6
    refine cw_block ?_
    refine cw_loop (γ := Nat × Nat × Unit) (env := fun (_, t13_1, _) => [(0, .v (.slice r_a0.a a0.length r_a0.cap)), (1, .v (.slice r_b0.a b0.length r_b0.cap)), (12, .v (.int .i64 (a0.length : Int))), (13, .v (.int .i64 (t13_1 : Int)))]) (mem := fun (_, t13_1, _) => [imm (α := (List Hop)) r_a0 a0, imm (α := (List Hop)) r_b0 b0]) (R := fun g => iter (keep_Same_api_Hop_b1 a0 b0) g.1 g.2.1 = some y) (μ := fun g => g.1) (FUEL, 0, ()) hM ⟨rfl, rfl, rfl, rfl, trivial⟩ (fun w hm => hm.reord) ?_
    clear hM
    intro g hM KL1 hL1
    obtain ⟨nn1, t13_1, ⟨⟩⟩ := g
    dsimp only at hM ⊢
    obtain ⟨nn1, cont1, rfl, hcont1, hM⟩ := iter_open' hM
    dsimp only [keep_Same_api_Hop_b1] at hM
    refine cw_seq fun K7 hK7 => ?_
    refine cw_region ?_
    refine ow_ev ev_lss ?_
    refine ow_nil (hK7 _ _ ?_); clear hK7
    refine cw_seq fun K8 hK8 => ?_
    refine cw_cond rfl (fun hc3 => ?_) (fun hc3 => ?_)
    ·
      replace hM := (ite_t hc3).symm.trans hM
      have hc3d := of_decide_eq_true hc3
      refine cw_skip (hK8 _ _ ?_); clear hK8
      refine cw_seq fun K9 hK9 => ?_
      refine cw_block ?_
      refine cw_seq fun K10 hK10 => ?_
      refine cw_region ?_
      refine ow_ev ev_move ?_
      refine ow_ev ev_assign ?_
      refine ow_nil (hK10 _ _ ?_); clear hK10
      refine cw_seq fun K11 hK11 => ?_
      refine cw_region_any _ (List.Sublist.refl _) ?_
      refine aw_ev 0 rfl ev_move ?_
      refine aw_ev 1 rfl ev_move ?_
      obtain ⟨x4, hx5, hM⟩ := bind_some hM
      refine aw_ev 2 rfl (ev_idx (xs := a0) 4 (Kn.imm (α := List Hop) (r := r_a0) (x := a0) (by repeat (first | exact Has.head | apply Has.tail))) (fun hg => let h := idx_some hx5; ⟨h.1, h.2.1⟩)) ?_
      refine aw_ev 3 rfl (ev_lds (m := 4) (i := (t13_1 : Int)) (xs := a0) (y := x4) (l := [.int .i64 x4.To.Section, .int .i64 x4.To.Dir, .int .i64 x4.Point, .int .i64 x4.Pos]) 0 (Kn.imm (α := List Hop) (r := r_a0) (x := a0) (by repeat (first | exact Has.head | apply Has.tail))) (fun _ => hx5)) ?_
      refine aw_ev 4 rfl ev_move ?_
      refine aw_ev 5 rfl ev_move ?_
      obtain ⟨x6, hx7, hM⟩ := bind_some hM
      refine aw_ev 6 rfl (ev_idx (xs := b0) 4 (Kn.imm (α := List Hop) (r := r_b0) (x := b0) (by repeat (first | exact Has.head | apply Has.tail))) (fun hg => let h := idx_some hx7; ⟨h.1, h.2.1⟩)) ?_
      refine aw_ev 7 rfl (ev_lds (m := 4) (i := (t13_1 : Int)) (xs := b0) (y := x6) (l := [.int .i64 x6.To.Section, .int .i64 x6.To.Dir, .int .i64 x6.Point, .int .i64 x6.Pos]) 0 (Kn.imm (α := List Hop) (r := r_b0) (x := b0) (by repeat (first | exact Has.head | apply Has.tail))) (fun _ => hx7)) ?_
      refine aw_ev 8 rfl (ev_neqF [.int .i64, .int .i64, .int .i64, .int .i64] (decide (x4 = x6)) (Hop_eqv _ _)) ?_
      refine aw_done (hK11 _ _ ?_); clear hK11
      refine cw_cond rfl (fun hc8 => ?_) (fun hc8 => ?_)
      ·
        replace hM := (ite_t hc8).symm.trans hM
        refine cw_seq fun K12 hK12 => ?_
        refine cw_region ?_
        refine ow_ev ev_assign ?_
        refine ow_nil (hK12 _ _ ?_); clear hK12
        obtain rfl := some_inj hM
        refine cw_ret (kw_retc1 (fun w hm => ret_of hm rfl))
      ·
        replace hM := (ite_f hc8).symm.trans hM
        refine cw_skip (hK9 _ _ ?_); clear hK9
        refine cw_region ?_
        refine ow_ev (ev_add (hr := fun _ => by unfold I64; omega)) ?_
        refine ow_ev ev_move ?_
        refine ow_nil (hL1 (nn1, (t13_1 + 1), ()) _ _ (eqc hcont1 hM) (Nat.lt_succ_self _) ⟨rfl, rfl, rfl, rfl, trivial⟩ (fun w hm => hm.reord))
    ·
      replace hM := (ite_f hc3).symm.trans hM
      refine cw_exit (hK5 _ _ ?_); clear hK5
      dsimp only [keep_Same_api_Hop_k1] at hM
      refine cw_seq fun K13 hK13 => ?_
      refine cw_region ?_
      refine ow_ev ev_assign ?_
      refine ow_nil (hK13 _ _ ?_); clear hK13
      obtain rfl := some_inj hM
      refine cw_ret (kw_retc1 (fun w hm => ret_of hm rfl))

end Go.Proofs.YtohhihdjdelckaaDoor
