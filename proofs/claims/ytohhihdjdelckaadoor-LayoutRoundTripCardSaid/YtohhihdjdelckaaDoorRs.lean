/- Models of functions, and that the code computes them. -/
import Derived.Test.YtohhihdjdelckaaDoorTypes
set_option linter.all false
namespace Go.Proofs.YtohhihdjdelckaaDoor
open Go.Dc Go.RowKit
set_option maxRecDepth 10000
def keep_Same_string_k1 : Unit → Option Bool := fun _ =>
  some true
def keep_Same_string_b1 (a0 : List Str) (b0 : List Str) (cont1 : Nat → Option Bool) : Nat → Option Bool := fun t13_1 =>
  if decide ((t13_1 : Int) < (a0.length : Int)) then
    ((idx a0 (t13_1 : Int)).bind fun x4 =>
    (idx b0 (t13_1 : Int)).bind fun x6 =>
    if (!decide (x4 = x6)) then
      (some false)
    else
      (cont1 (t13_1 + 1)))
  else
    (keep_Same_string_k1 ())
def keep_Same_string_m (a0 : List Str) (b0 : List Str) : Option Bool :=
  if decide ((a0.length : Int) ≠ (b0.length : Int)) then
    (some false)
  else
    (iter (keep_Same_string_b1 a0 b0) FUEL 0)
theorem keep_Same_string_spec (S : Soup) (w : World) (a0 : List Str) (r_a0 : GoRep.R (List Str)) (b0 : List Str) (r_b0 : GoRep.R (List Str)) (y : Bool) (hM : keep_Same_string_m a0 b0 = some y) (hS : ∀ k, S k → k < w.heap.size) (h_a0 : GoRep.ok S w r_a0 a0) (h_b0 : GoRep.ok S w r_b0 b0) :
    Calls Tryd.prog 46 #[.slice r_a0.a a0.length r_a0.cap, .slice r_b0.a b0.length r_b0.cap] w (Ret w (.bool y)) := by
  refine calls_cw (args := [_, _]) Tryd.func46 rfl ((pre_nil hS).start |>.immP (α := List Str) (r := r_a0) (x := a0) h_a0|>.immP (α := List Str) (r := r_b0) (x := b0) h_b0) rfl ?_
  unfold keep_Same_string_m at hM
  refine cw_seq fun K1 hK1 => ?_
  refine cw_region ?_
  refine ow_ev ev_assign ?_
  refine ow_nil (hK1 _ _ ?_); clear hK1
  refine cw_seq fun K2 hK2 => ?_
  refine cw_seq fun K3 hK3 => ?_
  refine cw_region ?_
  refine ow_ev ev_move ?_
  refine ow_ev ev_len ?_
  refine ow_ev ev_move ?_
  refine ow_ev ev_len ?_
  refine ow_ev ev_neq ?_
  refine ow_nil (hK3 _ _ ?_); clear hK3
  refine cw_cond rfl (fun hc1 => ?_) (fun hc1 => ?_)
  ·
    replace hM := (ite_t hc1).symm.trans hM
    refine cw_seq fun K4 hK4 => ?_
    refine cw_region ?_
    refine ow_ev ev_assign ?_
    refine ow_nil (hK4 _ _ ?_); clear hK4
    obtain rfl := some_inj hM
    refine cw_ret (kw_retc1 (fun w hm => ret_of hm rfl))
  ·
    replace hM := (ite_f hc1).symm.trans hM
    refine cw_skip (hK2 _ _ ?_); clear hK2
    refine cw_seq fun K5 hK5 => ?_
    refine cw_seq fun K6 hK6 => ?_
    refine cw_region ?_
    refine ow_ev ev_move ?_
    refine ow_have (fun w hm => Kn.len (Kn.imm (α := List Str) (r := r_a0) (x := a0) (by repeat (first | exact Has.head | apply Has.tail))) hm) fun hl2 => ?_
    refine ow_ev ev_len ?_
    refine ow_ev ev_move ?_
    refine ow_nil (hK6 _ _ ?_); clear hK6
    refine cw_block ?_
    refine cw_loop (γ := Nat × Nat × Unit) (env := fun (_, t13_1, _) => [(0, .v (.slice r_a0.a a0.length r_a0.cap)), (1, .v (.slice r_b0.a b0.length r_b0.cap)), (12, .v (.int .i64 (a0.length : Int))), (13, .v (.int .i64 (t13_1 : Int)))]) (mem := fun (_, t13_1, _) => [imm (α := (List Str)) r_a0 a0, imm (α := (List Str)) r_b0 b0]) (R := fun g => iter (keep_Same_string_b1 a0 b0) g.1 g.2.1 = some y) (μ := fun g => g.1) (FUEL, 0, ()) hM ⟨rfl, rfl, rfl, rfl, trivial⟩ (fun w hm => hm.reord) ?_
    clear hM
    intro g hM KL1 hL1
    obtain ⟨nn1, t13_1, ⟨⟩⟩ := g
    dsimp only at hM ⊢
    obtain ⟨nn1, cont1, rfl, hcont1, hM⟩ := iter_open' hM
    dsimp only [keep_Same_string_b1] at hM
    refine cw_seq fun K7 hK7 => ?_
    refine cw_region ?_
    refine ow_ev ev_lss ?_
    refine ow_nil (hK7 _ _ ?_); clear hK7
    refine cw_seq fun K8 hK8 => ?_
    refine cw_cond rfl (fun hc3 => ?_) (fun hc3 => ?_)
    ·
      replace hM := (ite_t hc3).symm.trans hM
      have hc3d := of_decide_eq_true hc3
      refine cw_skip (hK8 _ _ ?_); clear hK8
      refine cw_seq fun K9 hK9 => ?_
      refine cw_block ?_
      refine cw_seq fun K10 hK10 => ?_
      refine cw_region ?_
      refine ow_ev ev_move ?_
      refine ow_ev ev_assign ?_
      refine ow_nil (hK10 _ _ ?_); clear hK10
      refine cw_seq fun K11 hK11 => ?_
      refine cw_region_any _ (List.Sublist.refl _) ?_
      refine aw_ev 0 rfl ev_move ?_
      refine aw_ev 1 rfl ev_move ?_
      obtain ⟨x4, hx5, hM⟩ := bind_some hM
      refine aw_ev 2 rfl (ev_idx (xs := a0) 1 (Kn.imm (α := List Str) (r := r_a0) (x := a0) (by repeat (first | exact Has.head | apply Has.tail))) (fun hg => let h := idx_some hx5; ⟨h.1, h.2.1⟩)) ?_
      refine aw_ev 3 rfl (ev_ld (i := (t13_1 : Int)) (xs := a0) (y := x4) 0 (Kn.imm (α := List Str) (r := r_a0) (x := a0) (by repeat (first | exact Has.head | apply Has.tail))) (fun _ => hx5)) ?_
      refine aw_ev 4 rfl ev_move ?_
      refine aw_ev 5 rfl ev_move ?_
      obtain ⟨x6, hx7, hM⟩ := bind_some hM
      refine aw_ev 6 rfl (ev_idx (xs := b0) 1 (Kn.imm (α := List Str) (r := r_b0) (x := b0) (by repeat (first | exact Has.head | apply Has.tail))) (fun hg => let h := idx_some hx7; ⟨h.1, h.2.1⟩)) ?_
      refine aw_ev 7 rfl (ev_ld (i := (t13_1 : Int)) (xs := b0) (y := x6) 0 (Kn.imm (α := List Str) (r := r_b0) (x := b0) (by repeat (first | exact Has.head | apply Has.tail))) (fun _ => hx7)) ?_
      refine aw_ev 8 rfl ev_str_neq ?_
      refine aw_done (hK11 _ _ ?_); clear hK11
      refine cw_cond rfl (fun hc8 => ?_) (fun hc8 => ?_)
      ·
        replace hM := (ite_t hc8).symm.trans hM
        refine cw_seq fun K12 hK12 => ?_
        refine cw_region ?_
        refine ow_ev ev_assign ?_
        refine ow_nil (hK12 _ _ ?_); clear hK12
        obtain rfl := some_inj hM
        refine cw_ret (kw_retc1 (fun w hm => ret_of hm rfl))
      ·
        replace hM := (ite_f hc8).symm.trans hM
        refine cw_skip (hK9 _ _ ?_); clear hK9
        refine cw_region ?_
        refine ow_ev (ev_add (hr := fun _ => by unfold I64; omega)) ?_
        refine ow_ev ev_move ?_
        refine ow_nil (hL1 (nn1, (t13_1 + 1), ()) _ _ (eqc hcont1 hM) (Nat.lt_succ_self _) ⟨rfl, rfl, rfl, rfl, trivial⟩ (fun w hm => hm.reord))
    ·
      replace hM := (ite_f hc3).symm.trans hM
      refine cw_exit (hK5 _ _ ?_); clear hK5
      dsimp only [keep_Same_string_k1] at hM
      refine cw_seq fun K13 hK13 => ?_
      refine cw_region ?_
      refine ow_ev ev_assign ?_
      refine ow_nil (hK13 _ _ ?_); clear hK13
      obtain rfl := some_inj hM
      refine cw_ret (kw_retc1 (fun w hm => ret_of hm rfl))

def keep_Same_api_Section_k1 : Unit → Option Bool := fun _ =>
  some true
def keep_Same_api_Section_b1 (a0 : List Section) (b0 : List Section) (cont1 : Nat → Option Bool) : Nat → Option Bool := fun t13_1 =>
  if decide ((t13_1 : Int) < (a0.length : Int)) then
    ((idx a0 (t13_1 : Int)).bind fun x4 =>
    (idx b0 (t13_1 : Int)).bind fun x6 =>
    if (!decide (x4 = x6)) then
      (some false)
    else
      (cont1 (t13_1 + 1)))
  else
    (keep_Same_api_Section_k1 ())
def keep_Same_api_Section_m (a0 : List Section) (b0 : List Section) : Option Bool :=
  if decide ((a0.length : Int) ≠ (b0.length : Int)) then
    (some false)
  else
    (iter (keep_Same_api_Section_b1 a0 b0) FUEL 0)
theorem keep_Same_api_Section_spec (S : Soup) (w : World) (a0 : List Section) (r_a0 : GoRep.R (List Section)) (b0 : List Section) (r_b0 : GoRep.R (List Section)) (y : Bool) (hM : keep_Same_api_Section_m a0 b0 = some y) (hS : ∀ k, S k → k < w.heap.size) (h_a0 : GoRep.ok S w r_a0 a0) (h_b0 : GoRep.ok S w r_b0 b0) :
    Calls Tryd.prog 47 #[.slice r_a0.a a0.length r_a0.cap, .slice r_b0.a b0.length r_b0.cap] w (Ret w (.bool y)) := by
  refine calls_cw (args := [_, _]) Tryd.func47 rfl ((pre_nil hS).start |>.immP (α := List Section) (r := r_a0) (x := a0) h_a0|>.immP (α := List Section) (r := r_b0) (x := b0) h_b0) rfl ?_
  unfold keep_Same_api_Section_m at hM
  refine cw_seq fun K1 hK1 => ?_
  refine cw_region ?_
  refine ow_ev ev_assign ?_
  refine ow_nil (hK1 _ _ ?_); clear hK1
  refine cw_seq fun K2 hK2 => ?_
  refine cw_seq fun K3 hK3 => ?_
  refine cw_region ?_
  refine ow_ev ev_move ?_
  refine ow_ev ev_len ?_
  refine ow_ev ev_move ?_
  refine ow_ev ev_len ?_
  refine ow_ev ev_neq ?_
  refine ow_nil (hK3 _ _ ?_); clear hK3
  refine cw_cond rfl (fun hc1 => ?_) (fun hc1 => ?_)
  ·
    replace hM := (ite_t hc1).symm.trans hM
    refine cw_seq fun K4 hK4 => ?_
    refine cw_region ?_
    refine ow_ev ev_assign ?_
    refine ow_nil (hK4 _ _ ?_); clear hK4
    obtain rfl := some_inj hM
    refine cw_ret (kw_retc1 (fun w hm => ret_of hm rfl))
  ·
    replace hM := (ite_f hc1).symm.trans hM
    refine cw_skip (hK2 _ _ ?_); clear hK2
    refine cw_seq fun K5 hK5 => ?_
    refine cw_seq fun K6 hK6 => ?_
    refine cw_region ?_
    refine ow_ev ev_move ?_
    refine ow_have (fun w hm => Kn.len (Kn.imm (α := List Section) (r := r_a0) (x := a0) (by repeat (first | exact Has.head | apply Has.tail))) hm) fun hl2 => ?_
    refine ow_ev ev_len ?_
    refine ow_ev ev_move ?_
    refine ow_nil (hK6 _ _ ?_); clear hK6
    refine cw_block ?_
    refine cw_loop (γ := Nat × Nat × Unit) (env := fun (_, t13_1, _) => [(0, .v (.slice r_a0.a a0.length r_a0.cap)), (1, .v (.slice r_b0.a b0.length r_b0.cap)), (12, .v (.int .i64 (a0.length : Int))), (13, .v (.int .i64 (t13_1 : Int)))]) (mem := fun (_, t13_1, _) => [imm (α := (List Section)) r_a0 a0, imm (α := (List Section)) r_b0 b0]) (R := fun g => iter (keep_Same_api_Section_b1 a0 b0) g.1 g.2.1 = some y) (μ := fun g => g.1) (FUEL, 0, ()) hM ⟨rfl, rfl, rfl, rfl, trivial⟩ (fun w hm => hm.reord) ?_
    clear hM
    intro g hM KL1 hL1
    obtain ⟨nn1, t13_1, ⟨⟩⟩ := g
    dsimp only at hM ⊢
    obtain ⟨nn1, cont1, rfl, hcont1, hM⟩ := iter_open' hM
    dsimp only [keep_Same_api_Section_b1] at hM
    refine cw_seq fun K7 hK7 => ?_
    refine cw_region ?_
    refine ow_ev ev_lss ?_
    refine ow_nil (hK7 _ _ ?_); clear hK7
    refine cw_seq fun K8 hK8 => ?_
    refine cw_cond rfl (fun hc3 => ?_) (fun hc3 => ?_)
    ·
      replace hM := (ite_t hc3).symm.trans hM
      have hc3d := of_decide_eq_true hc3
      refine cw_skip (hK8 _ _ ?_); clear hK8
      refine cw_seq fun K9 hK9 => ?_
      refine cw_block ?_
      refine cw_seq fun K10 hK10 => ?_
      refine cw_region ?_
      refine ow_ev ev_move ?_
      refine ow_ev ev_assign ?_
      refine ow_nil (hK10 _ _ ?_); clear hK10
      refine cw_seq fun K11 hK11 => ?_
      refine cw_region_any _ (List.Sublist.refl _) ?_
      refine aw_ev 0 rfl ev_move ?_
      refine aw_ev 1 rfl ev_move ?_
      obtain ⟨x4, hx5, hM⟩ := bind_some hM
      refine aw_ev 2 rfl (ev_idx (xs := a0) 5 (Kn.imm (α := List Section) (r := r_a0) (x := a0) (by repeat (first | exact Has.head | apply Has.tail))) (fun hg => let h := idx_some hx5; ⟨h.1, h.2.1⟩)) ?_
      refine aw_ev 3 rfl (ev_lds (m := 5) (i := (t13_1 : Int)) (xs := a0) (y := x4) (l := [.string x4.Name.ba, .int .i64 x4.Length, .int .i64 x4.Limit, .int .i64 x4.Grade, .int .i64 x4.Station]) 0 (Kn.imm (α := List Section) (r := r_a0) (x := a0) (by repeat (first | exact Has.head | apply Has.tail))) (fun _ => hx5)) ?_
      refine aw_ev 4 rfl ev_move ?_
      refine aw_ev 5 rfl ev_move ?_
      obtain ⟨x6, hx7, hM⟩ := bind_some hM
      refine aw_ev 6 rfl (ev_idx (xs := b0) 5 (Kn.imm (α := List Section) (r := r_b0) (x := b0) (by repeat (first | exact Has.head | apply Has.tail))) (fun hg => let h := idx_some hx7; ⟨h.1, h.2.1⟩)) ?_
      refine aw_ev 7 rfl (ev_lds (m := 5) (i := (t13_1 : Int)) (xs := b0) (y := x6) (l := [.string x6.Name.ba, .int .i64 x6.Length, .int .i64 x6.Limit, .int .i64 x6.Grade, .int .i64 x6.Station]) 0 (Kn.imm (α := List Section) (r := r_b0) (x := b0) (by repeat (first | exact Has.head | apply Has.tail))) (fun _ => hx7)) ?_
      refine aw_ev 8 rfl (ev_neqF [.string, .int .i64, .int .i64, .int .i64, .int .i64] (decide (x4 = x6)) (Section_eqv _ _)) ?_
      refine aw_done (hK11 _ _ ?_); clear hK11
      refine cw_cond rfl (fun hc8 => ?_) (fun hc8 => ?_)
      ·
        replace hM := (ite_t hc8).symm.trans hM
        refine cw_seq fun K12 hK12 => ?_
        refine cw_region ?_
        refine ow_ev ev_assign ?_
        refine ow_nil (hK12 _ _ ?_); clear hK12
        obtain rfl := some_inj hM
        refine cw_ret (kw_retc1 (fun w hm => ret_of hm rfl))
      ·
        replace hM := (ite_f hc8).symm.trans hM
        refine cw_skip (hK9 _ _ ?_); clear hK9
        refine cw_region ?_
        refine ow_ev (ev_add (hr := fun _ => by unfold I64; omega)) ?_
        refine ow_ev ev_move ?_
        refine ow_nil (hL1 (nn1, (t13_1 + 1), ()) _ _ (eqc hcont1 hM) (Nat.lt_succ_self _) ⟨rfl, rfl, rfl, rfl, trivial⟩ (fun w hm => hm.reord))
    ·
      replace hM := (ite_f hc3).symm.trans hM
      refine cw_exit (hK5 _ _ ?_); clear hK5
      dsimp only [keep_Same_api_Section_k1] at hM
      refine cw_seq fun K13 hK13 => ?_
      refine cw_region ?_
      refine ow_ev ev_assign ?_
      refine ow_nil (hK13 _ _ ?_); clear hK13
      obtain rfl := some_inj hM
      refine cw_ret (kw_retc1 (fun w hm => ret_of hm rfl))

def keep_Same_api_Link_k1 : Unit → Option Bool := fun _ =>
  some true
def keep_Same_api_Link_b1 (a0 : List Link) (b0 : List Link) (cont1 : Nat → Option Bool) : Nat → Option Bool := fun t13_1 =>
  if decide ((t13_1 : Int) < (a0.length : Int)) then
    ((idx a0 (t13_1 : Int)).bind fun x4 =>
    (idx b0 (t13_1 : Int)).bind fun x6 =>
    if (!decide (x4 = x6)) then
      (some false)
    else
      (cont1 (t13_1 + 1)))
  else
    (keep_Same_api_Link_k1 ())
def keep_Same_api_Link_m (a0 : List Link) (b0 : List Link) : Option Bool :=
  if decide ((a0.length : Int) ≠ (b0.length : Int)) then
    (some false)
  else
    (iter (keep_Same_api_Link_b1 a0 b0) FUEL 0)
theorem keep_Same_api_Link_spec (S : Soup) (w : World) (a0 : List Link) (r_a0 : GoRep.R (List Link)) (b0 : List Link) (r_b0 : GoRep.R (List Link)) (y : Bool) (hM : keep_Same_api_Link_m a0 b0 = some y) (hS : ∀ k, S k → k < w.heap.size) (h_a0 : GoRep.ok S w r_a0 a0) (h_b0 : GoRep.ok S w r_b0 b0) :
    Calls Tryd.prog 48 #[.slice r_a0.a a0.length r_a0.cap, .slice r_b0.a b0.length r_b0.cap] w (Ret w (.bool y)) := by
  refine calls_cw (args := [_, _]) Tryd.func48 rfl ((pre_nil hS).start |>.immP (α := List Link) (r := r_a0) (x := a0) h_a0|>.immP (α := List Link) (r := r_b0) (x := b0) h_b0) rfl ?_
  unfold keep_Same_api_Link_m at hM
  refine cw_seq fun K1 hK1 => ?_
  refine cw_region ?_
  refine ow_ev ev_assign ?_
  refine ow_nil (hK1 _ _ ?_); clear hK1
  refine cw_seq fun K2 hK2 => ?_
  refine cw_seq fun K3 hK3 => ?_
  refine cw_region ?_
  refine ow_ev ev_move ?_
  refine ow_ev ev_len ?_
  refine ow_ev ev_move ?_
  refine ow_ev ev_len ?_
  refine ow_ev ev_neq ?_
  refine ow_nil (hK3 _ _ ?_); clear hK3
  refine cw_cond rfl (fun hc1 => ?_) (fun hc1 => ?_)
  ·
    replace hM := (ite_t hc1).symm.trans hM
    refine cw_seq fun K4 hK4 => ?_
    refine cw_region ?_
    refine ow_ev ev_assign ?_
    refine ow_nil (hK4 _ _ ?_); clear hK4
    obtain rfl := some_inj hM
    refine cw_ret (kw_retc1 (fun w hm => ret_of hm rfl))
  ·
    replace hM := (ite_f hc1).symm.trans hM
    refine cw_skip (hK2 _ _ ?_); clear hK2
    refine cw_seq fun K5 hK5 => ?_
    refine cw_seq fun K6 hK6 => ?_
    refine cw_region ?_
    refine ow_ev ev_move ?_
    refine ow_have (fun w hm => Kn.len (Kn.imm (α := List Link) (r := r_a0) (x := a0) (by repeat (first | exact Has.head | apply Has.tail))) hm) fun hl2 => ?_
    refine ow_ev ev_len ?_
    refine ow_ev ev_move ?_
    refine ow_nil (hK6 _ _ ?_); clear hK6
    refine cw_block ?_
    refine cw_loop (γ := Nat × Nat × Unit) (env := fun (_, t13_1, _) => [(0, .v (.slice r_a0.a a0.length r_a0.cap)), (1, .v (.slice r_b0.a b0.length r_b0.cap)), (12, .v (.int .i64 (a0.length : Int))), (13, .v (.int .i64 (t13_1 : Int)))]) (mem := fun (_, t13_1, _) => [imm (α := (List Link)) r_a0 a0, imm (α := (List Link)) r_b0 b0]) (R := fun g => iter (keep_Same_api_Link_b1 a0 b0) g.1 g.2.1 = some y) (μ := fun g => g.1) (FUEL, 0, ()) hM ⟨rfl, rfl, rfl, rfl, trivial⟩ (fun w hm => hm.reord) ?_
    clear hM
    intro g hM KL1 hL1
    obtain ⟨nn1, t13_1, ⟨⟩⟩ := g
    dsimp only at hM ⊢
    obtain ⟨nn1, cont1, rfl, hcont1, hM⟩ := iter_open' hM
    dsimp only [keep_Same_api_Link_b1] at hM
    refine cw_seq fun K7 hK7 => ?_
    refine cw_region ?_
    refine ow_ev ev_lss ?_
    refine ow_nil (hK7 _ _ ?_); clear hK7
    refine cw_seq fun K8 hK8 => ?_
    refine cw_cond rfl (fun hc3 => ?_) (fun hc3 => ?_)
    ·
      replace hM := (ite_t hc3).symm.trans hM
      have hc3d := of_decide_eq_true hc3
      refine cw_skip (hK8 _ _ ?_); clear hK8
      refine cw_seq fun K9 hK9 => ?_
      refine cw_block ?_
      refine cw_seq fun K10 hK10 => ?_
      refine cw_region ?_
      refine ow_ev ev_move ?_
      refine ow_ev ev_assign ?_
      refine ow_nil (hK10 _ _ ?_); clear hK10
      refine cw_seq fun K11 hK11 => ?_
      refine cw_region_any _ (List.Sublist.refl _) ?_
      refine aw_ev 0 rfl ev_move ?_
      refine aw_ev 1 rfl ev_move ?_
      obtain ⟨x4, hx5, hM⟩ := bind_some hM
      refine aw_ev 2 rfl (ev_idx (xs := a0) 6 (Kn.imm (α := List Link) (r := r_a0) (x := a0) (by repeat (first | exact Has.head | apply Has.tail))) (fun hg => let h := idx_some hx5; ⟨h.1, h.2.1⟩)) ?_
      refine aw_ev 3 rfl (ev_lds (m := 6) (i := (t13_1 : Int)) (xs := a0) (y := x4) (l := [.int .i64 x4.A, .int .i64 x4.AEnd, .int .i64 x4.B, .int .i64 x4.BEnd, .int .i64 x4.Point, .int .i64 x4.Pos]) 0 (Kn.imm (α := List Link) (r := r_a0) (x := a0) (by repeat (first | exact Has.head | apply Has.tail))) (fun _ => hx5)) ?_
      refine aw_ev 4 rfl ev_move ?_
      refine aw_ev 5 rfl ev_move ?_
      obtain ⟨x6, hx7, hM⟩ := bind_some hM
      refine aw_ev 6 rfl (ev_idx (xs := b0) 6 (Kn.imm (α := List Link) (r := r_b0) (x := b0) (by repeat (first | exact Has.head | apply Has.tail))) (fun hg => let h := idx_some hx7; ⟨h.1, h.2.1⟩)) ?_
      refine aw_ev 7 rfl (ev_lds (m := 6) (i := (t13_1 : Int)) (xs := b0) (y := x6) (l := [.int .i64 x6.A, .int .i64 x6.AEnd, .int .i64 x6.B, .int .i64 x6.BEnd, .int .i64 x6.Point, .int .i64 x6.Pos]) 0 (Kn.imm (α := List Link) (r := r_b0) (x := b0) (by repeat (first | exact Has.head | apply Has.tail))) (fun _ => hx7)) ?_
      refine aw_ev 8 rfl (ev_neqF [.int .i64, .int .i64, .int .i64, .int .i64, .int .i64, .int .i64] (decide (x4 = x6)) (Link_eqv _ _)) ?_
      refine aw_done (hK11 _ _ ?_); clear hK11
      refine cw_cond rfl (fun hc8 => ?_) (fun hc8 => ?_)
      ·
        replace hM := (ite_t hc8).symm.trans hM
        refine cw_seq fun K12 hK12 => ?_
        refine cw_region ?_
        refine ow_ev ev_assign ?_
        refine ow_nil (hK12 _ _ ?_); clear hK12
        obtain rfl := some_inj hM
        refine cw_ret (kw_retc1 (fun w hm => ret_of hm rfl))
      ·
        replace hM := (ite_f hc8).symm.trans hM
        refine cw_skip (hK9 _ _ ?_); clear hK9
        refine cw_region ?_
        refine ow_ev (ev_add (hr := fun _ => by unfold I64; omega)) ?_
        refine ow_ev ev_move ?_
        refine ow_nil (hL1 (nn1, (t13_1 + 1), ()) _ _ (eqc hcont1 hM) (Nat.lt_succ_self _) ⟨rfl, rfl, rfl, rfl, trivial⟩ (fun w hm => hm.reord))
    ·
      replace hM := (ite_f hc3).symm.trans hM
      refine cw_exit (hK5 _ _ ?_); clear hK5
      dsimp only [keep_Same_api_Link_k1] at hM
      refine cw_seq fun K13 hK13 => ?_
      refine cw_region ?_
      refine ow_ev ev_assign ?_
      refine ow_nil (hK13 _ _ ?_); clear hK13
      obtain rfl := some_inj hM
      refine cw_ret (kw_retc1 (fun w hm => ret_of hm rfl))

def keep_SameLayout_m (a0 : Layout) (b0 : Layout) : Option Bool :=
  (keep_Same_string_m a0.Stations b0.Stations).bind fun y3 =>
  (whn y3 default (keep_Same_string_m a0.Points b0.Points)).bind fun y5 =>
  (whn (y3 && y5) default (keep_Same_api_Section_m a0.Sections b0.Sections)).bind fun y7 =>
  (whn ((y3 && y5) && y7) default (keep_Same_api_Link_m a0.Links b0.Links)).bind fun y9 =>
  some (((y3 && y5) && y7) && y9)
theorem keep_SameLayout_spec (S : Soup) (w : World) (a0 : Layout) (r_a0 : GoRep.R Layout) (b0 : Layout) (r_b0 : GoRep.R Layout) (y : Bool) (hM : keep_SameLayout_m a0 b0 = some y) (hS : ∀ k, S k → k < w.heap.size) (h_a0 : GoRep.ok S w r_a0 a0) (h_b0 : GoRep.ok S w r_b0 b0) :
    Calls Tryd.prog 25 #[.agg #[.slice r_a0.1.a a0.Stations.length r_a0.1.cap, .slice r_a0.2.1.a a0.Points.length r_a0.2.1.cap, .slice r_a0.2.2.1.a a0.Sections.length r_a0.2.2.1.cap, .slice r_a0.2.2.2.a a0.Links.length r_a0.2.2.2.cap], .agg #[.slice r_b0.1.a b0.Stations.length r_b0.1.cap, .slice r_b0.2.1.a b0.Points.length r_b0.2.1.cap, .slice r_b0.2.2.1.a b0.Sections.length r_b0.2.2.1.cap, .slice r_b0.2.2.2.a b0.Links.length r_b0.2.2.2.cap]] w (Ret w (.bool y)) := by
  refine calls_cw (args := [_, _]) Tryd.func25 rfl ((pre_nil hS).start |>.immP (α := List Str) (r := r_a0.1) (x := a0.Stations) h_a0.1|>.immP (α := List Str) (r := r_a0.2.1) (x := a0.Points) h_a0.2.1|>.immP (α := List Section) (r := r_a0.2.2.1) (x := a0.Sections) h_a0.2.2.1|>.immP (α := List Link) (r := r_a0.2.2.2) (x := a0.Links) h_a0.2.2.2|>.immP (α := List Str) (r := r_b0.1) (x := b0.Stations) h_b0.1|>.immP (α := List Str) (r := r_b0.2.1) (x := b0.Points) h_b0.2.1|>.immP (α := List Section) (r := r_b0.2.2.1) (x := b0.Sections) h_b0.2.2.1|>.immP (α := List Link) (r := r_b0.2.2.2) (x := b0.Links) h_b0.2.2.2) rfl ?_
  unfold keep_SameLayout_m at hM
  refine cw_seq fun K1 hK1 => ?_
  refine cw_region ?_
  refine ow_cons (st_box (l := [.slice r_a0.1.a a0.Stations.length r_a0.1.cap, .slice r_a0.2.1.a a0.Points.length r_a0.2.1.cap, .slice r_a0.2.2.1.a a0.Sections.length r_a0.2.2.1.cap, .slice r_a0.2.2.2.a a0.Links.length r_a0.2.2.2.cap]) (k := fun b1 => ?_))
  refine ow_cons (st_box (l := [.slice r_b0.1.a b0.Stations.length r_b0.1.cap, .slice r_b0.2.1.a b0.Points.length r_b0.2.1.cap, .slice r_b0.2.2.1.a b0.Sections.length r_b0.2.2.1.cap, .slice r_b0.2.2.2.a b0.Links.length r_b0.2.2.2.cap]) (k := fun b2 => ?_))
  refine ow_ev ev_assign ?_
  refine ow_nil (hK1 _ _ ?_); clear hK1
  refine cw_seq fun K2 hK2 => ?_
  refine cw_region ?_
  refine ow_ev (ev_field_addr 0) ?_
  refine ow_ev (ev_load_own (b := b1)) ?_
  refine ow_ev (ev_field_addr 0) ?_
  refine ow_ev (ev_load_own (b := b2)) ?_
  obtain ⟨y3, hy4, hM⟩ := bind_some hM
  refine ow_cons (st_callv (fun w hm => let ⟨S, hs⟩ := hm; keep_Same_string_spec _ w a0.Stations r_a0.1 b0.Stations r_b0.1 y3 hy4 (lend_lt hs) (Kn.lend (Kn.imm (α := List Str) (r := r_a0.1) (x := a0.Stations) (by repeat (first | exact Has.head | apply Has.tail))) hs) (Kn.lend (Kn.imm (α := List Str) (r := r_b0.1) (x := b0.Stations) (by repeat (first | exact Has.head | apply Has.tail))) hs)) ?_)
  refine ow_ev ev_move ?_
  refine ow_evg rfl (ev_field_addr 1) ?_
  refine ow_evg rfl (ev_load_own (b := b1)) ?_
  refine ow_evg rfl (ev_field_addr 1) ?_
  refine ow_evg rfl (ev_load_own (b := b2)) ?_
  obtain ⟨y5, hy6, hM⟩ := bind_some hM
  refine ow_callg rfl (fun hg w hm => let ⟨S, hs⟩ := hm; keep_Same_string_spec _ w a0.Points r_a0.2.1 b0.Points r_b0.2.1 y5 (whn_some hy6 hg) (lend_lt hs) (Kn.lend (Kn.imm (α := List Str) (r := r_a0.2.1) (x := a0.Points) (by repeat (first | exact Has.head | apply Has.tail))) hs) (Kn.lend (Kn.imm (α := List Str) (r := r_b0.2.1) (x := b0.Points) (by repeat (first | exact Has.head | apply Has.tail))) hs)) ?_
  refine ow_ev ev_and ?_
  refine ow_ev ev_move ?_
  refine ow_evg rfl (ev_field_addr 2) ?_
  refine ow_evg rfl (ev_load_own (b := b1)) ?_
  refine ow_evg rfl (ev_field_addr 2) ?_
  refine ow_evg rfl (ev_load_own (b := b2)) ?_
  obtain ⟨y7, hy8, hM⟩ := bind_some hM
  refine ow_callg rfl (fun hg w hm => let ⟨S, hs⟩ := hm; keep_Same_api_Section_spec _ w a0.Sections r_a0.2.2.1 b0.Sections r_b0.2.2.1 y7 (whn_some hy8 hg) (lend_lt hs) (Kn.lend (Kn.imm (α := List Section) (r := r_a0.2.2.1) (x := a0.Sections) (by repeat (first | exact Has.head | apply Has.tail))) hs) (Kn.lend (Kn.imm (α := List Section) (r := r_b0.2.2.1) (x := b0.Sections) (by repeat (first | exact Has.head | apply Has.tail))) hs)) ?_
  refine ow_ev ev_and ?_
  refine ow_ev ev_move ?_
  refine ow_evg rfl (ev_field_addr 3) ?_
  refine ow_evg rfl (ev_load_own (b := b1)) ?_
  refine ow_evg rfl (ev_field_addr 3) ?_
  refine ow_evg rfl (ev_load_own (b := b2)) ?_
  obtain ⟨y9, hy10, hM⟩ := bind_some hM
  refine ow_callg rfl (fun hg w hm => let ⟨S, hs⟩ := hm; keep_Same_api_Link_spec _ w a0.Links r_a0.2.2.2 b0.Links r_b0.2.2.2 y9 (whn_some hy10 hg) (lend_lt hs) (Kn.lend (Kn.imm (α := List Link) (r := r_a0.2.2.2) (x := a0.Links) (by repeat (first | exact Has.head | apply Has.tail))) hs) (Kn.lend (Kn.imm (α := List Link) (r := r_b0.2.2.2) (x := b0.Links) (by repeat (first | exact Has.head | apply Has.tail))) hs)) ?_
  refine ow_ev ev_and ?_
  refine ow_ev ev_assign ?_
  refine ow_nil (hK2 _ _ ?_); clear hK2
  obtain rfl := some_inj hM
  refine cw_ret (kw_retc1 (fun w hm => ret_of hm rfl))

end Go.Proofs.YtohhihdjdelckaaDoor
