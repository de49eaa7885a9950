/- Models of functions, and that the code computes them. -/
import Derived.Test.YtohhihdjdelckaaDoorTypes
set_option linter.all false
namespace Go.Proofs.YtohhihdjdelckaaDoor
open Go.Dc Go.RowKit
set_option maxRecDepth 10000
def slices_Index_string_string_k1 : Unit → Option Int := fun _ =>
  some (-1)
def slices_Index_string_string_b1 (s0 : List Str) (v0 : Str) (cont1 : Nat → Option Int) : Nat → Option Int := fun t8_1 =>
  if decide ((t8_1 : Int) < (s0.length : Int)) then
    ((idx s0 (t8_1 : Int)).bind fun x3 =>
    if decide (v0 = x3) then
      (some (t8_1 : Int))
    else
      (cont1 (t8_1 + 1)))
  else
    (slices_Index_string_string_k1 ())
def slices_Index_string_string_m (s0 : List Str) (v0 : Str) : Option Int :=
  iter (slices_Index_string_string_b1 s0 v0) FUEL 0
theorem slices_Index_string_string_spec (S : Soup) (w : World) (s0 : List Str) (r_s0 : GoRep.R (List Str)) (v0 : Str) (y : Int) (hM : slices_Index_string_string_m s0 v0 = some y) (hS : ∀ k, S k → k < w.heap.size) (h_s0 : GoRep.ok S w r_s0 s0) :
    Calls Tryd.prog 91 #[.slice r_s0.a s0.length r_s0.cap, .string v0.ba] w (Ret w (.int .i64 y)) := by
  refine calls_cw (args := [_, _]) Tryd.func91 rfl ((pre_nil hS).start |>.immP (α := List Str) (r := r_s0) (x := s0) h_s0) rfl ?_
  unfold slices_Index_string_string_m at hM
  refine cw_seq fun K1 hK1 => ?_
  refine cw_region ?_
  refine ow_ev ev_assign ?_
  refine ow_nil (hK1 _ _ ?_); clear hK1
  refine cw_seq fun K2 hK2 => ?_
  refine cw_seq fun K3 hK3 => ?_
  refine cw_region ?_
  refine ow_ev ev_move ?_
  refine ow_have (fun w hm => Kn.len (Kn.imm (α := List Str) (r := r_s0) (x := s0) (by repeat (first | exact Has.head | apply Has.tail))) hm) fun hl1 => ?_
  refine ow_ev ev_len ?_
  refine ow_ev ev_move ?_
  refine ow_nil (hK3 _ _ ?_); clear hK3
  refine cw_block ?_
  refine cw_loop (γ := Nat × Nat × Unit) (env := fun (_, t8_1, _) => [(0, .v (.slice r_s0.a s0.length r_s0.cap)), (1, .v (.string v0.ba)), (7, .v (.int .i64 (s0.length : Int))), (8, .v (.int .i64 (t8_1 : Int)))]) (mem := fun (_, t8_1, _) => [imm (α := (List Str)) r_s0 s0]) (R := fun g => iter (slices_Index_string_string_b1 s0 v0) g.1 g.2.1 = some y) (μ := fun g => g.1) (FUEL, 0, ()) hM ⟨rfl, rfl, rfl, rfl, trivial⟩ (fun w hm => hm.reord) ?_
  clear hM
  intro g hM KL1 hL1
  obtain ⟨nn1, t8_1, ⟨⟩⟩ := g
  dsimp only at hM ⊢
  obtain ⟨nn1, cont1, rfl, hcont1, hM⟩ := iter_open' hM
  dsimp only [slices_Index_string_string_b1] at hM
  refine cw_seq fun K4 hK4 => ?_
  refine cw_region ?_
  refine ow_ev ev_lss ?_
  refine ow_nil (hK4 _ _ ?_); clear hK4
  refine cw_seq fun K5 hK5 => ?_
  refine cw_cond rfl (fun hc2 => ?_) (fun hc2 => ?_)
  ·
    replace hM := (ite_t hc2).symm.trans hM
    have hc2d := of_decide_eq_true hc2
    refine cw_skip (hK5 _ _ ?_); clear hK5
    refine cw_seq fun K6 hK6 => ?_
    refine cw_block ?_
    refine cw_seq fun K7 hK7 => ?_
    refine cw_region ?_
    refine ow_ev ev_move ?_
    refine ow_ev ev_assign ?_
    refine ow_nil (hK7 _ _ ?_); clear hK7
    refine cw_seq fun K8 hK8 => ?_
    refine cw_region ?_
    refine ow_ev ev_move ?_
    refine ow_ev ev_move ?_
    refine ow_ev ev_move ?_
    obtain ⟨x3, hx4, hM⟩ := bind_some hM
    refine ow_ev (ev_idx (xs := s0) 1 (Kn.imm (α := List Str) (r := r_s0) (x := s0) (by repeat (first | exact Has.head | apply Has.tail))) (fun hg => let h := idx_some hx4; ⟨h.1, h.2.1⟩)) ?_
    refine ow_ev (ev_ld (i := (t8_1 : Int)) (xs := s0) (y := x3) 0 (Kn.imm (α := List Str) (r := r_s0) (x := s0) (by repeat (first | exact Has.head | apply Has.tail))) (fun _ => hx4)) ?_
    refine ow_ev ev_str_eql ?_
    refine ow_nil (hK8 _ _ ?_); clear hK8
    refine cw_cond rfl (fun hc5 => ?_) (fun hc5 => ?_)
    ·
      replace hM := (ite_t hc5).symm.trans hM
      refine cw_seq fun K9 hK9 => ?_
      refine cw_region ?_
      refine ow_ev ev_move ?_
      refine ow_ev ev_assign ?_
      refine ow_nil (hK9 _ _ ?_); clear hK9
      obtain rfl := some_inj hM
      refine cw_ret (kw_retc1 (fun w hm => ret_of hm rfl))
    ·
      replace hM := (ite_f hc5).symm.trans hM
      refine cw_skip (hK6 _ _ ?_); clear hK6
      refine cw_region ?_
      refine ow_ev (ev_add (hr := fun _ => by unfold I64; omega)) ?_
      refine ow_ev ev_move ?_
      refine ow_nil (hL1 (nn1, (t8_1 + 1), ()) _ _ (eqc hcont1 hM) (Nat.lt_succ_self _) ⟨rfl, rfl, rfl, rfl, trivial⟩ (fun w hm => hm.reord))
  ·
    replace hM := (ite_f hc2).symm.trans hM
    refine cw_exit (hK2 _ _ ?_); clear hK2
    dsimp only [slices_Index_string_string_k1] at hM
    refine cw_seq fun K10 hK10 => ?_
    refine cw_region ?_
    refine ow_ev ev_assign ?_
    refine ow_nil (hK10 _ _ ?_); clear hK10
    obtain rfl := some_inj hM
    refine cw_ret (kw_retc1 (fun w hm => ret_of hm rfl))

def layout_sectionNamed_c1_m (s0 : Section) (p0 : Str) : Option Bool :=
  some (decide (s0.Name = p0))
theorem layout_sectionNamed_c1_spec (S : Soup) (w : World) (s0 : Section) (b_p0 : Nat) (p0 : Str) (y : Bool) (hM : layout_sectionNamed_c1_m s0 p0 = some y) (hS : ∀ k, S k → k < w.heap.size) (hb_p0 : S b_p0 ∧ w.heap[b_p0]? = some (.cells [.string p0.ba].toArray 9 (0, 0))) :
    Calls Tryd.prog 108 #[.agg #[.string s0.Name.ba, .int .i64 s0.Length, .int .i64 s0.Limit, .int .i64 s0.Grade, .int .i64 s0.Station], .pointer (some ⟨b_p0, 0, none⟩)] w (Ret w (.bool y)) := by
  refine calls_cw (args := [_, _]) Tryd.func108 rfl ((pre_nil hS).start |>.rboxP hb_p0) rfl ?_
  unfold layout_sectionNamed_c1_m at hM
  refine cw_seq fun K1 hK1 => ?_
  refine cw_region ?_
  refine ow_cons (st_box (l := [.string s0.Name.ba, .int .i64 s0.Length, .int .i64 s0.Limit, .int .i64 s0.Grade, .int .i64 s0.Station]) (k := fun b1 => ?_))
  refine ow_ev ev_assign ?_
  refine ow_nil (hK1 _ _ ?_); clear hK1
  refine cw_seq fun K2 hK2 => ?_
  refine cw_region ?_
  refine ow_ev (ev_field_addr 0) ?_
  refine ow_ev (ev_load_own (b := b1)) ?_
  refine ow_ev (ev_rload_own (b := b_p0)) ?_
  refine ow_ev ev_str_eql ?_
  refine ow_ev ev_assign ?_
  refine ow_nil (hK2 _ _ ?_); clear hK2
  obtain rfl := some_inj hM
  refine cw_ret (kw_retc1 (fun w hm => ret_of hm rfl))

def slices_IndexFunc_api_Section_api_Section_k1 : Unit → Option Int := fun _ =>
  some (-1)
def slices_IndexFunc_api_Section_api_Section_b1 (s0 : List Section) (f0c0 : Str) (cont1 : Nat → Option Int) : Nat → Option Int := fun t8_1 =>
  if decide ((t8_1 : Int) < (s0.length : Int)) then
    ((idx s0 (t8_1 : Int)).bind fun x3 =>
    (layout_sectionNamed_c1_m x3 f0c0).bind fun y5 =>
    if y5 then
      (some (t8_1 : Int))
    else
      (cont1 (t8_1 + 1)))
  else
    (slices_IndexFunc_api_Section_api_Section_k1 ())
def slices_IndexFunc_api_Section_api_Section_m (s0 : List Section) (f0c0 : Str) : Option Int :=
  iter (slices_IndexFunc_api_Section_api_Section_b1 s0 f0c0) FUEL 0
theorem slices_IndexFunc_api_Section_api_Section_spec (S : Soup) (w : World) (s0 : List Section) (r_s0 : GoRep.R (List Section)) (b_f0c0 : Nat) (f0c0 : Str) (y : Int) (hM : slices_IndexFunc_api_Section_api_Section_m s0 f0c0 = some y) (hS : ∀ k, S k → k < w.heap.size) (h_s0 : GoRep.ok S w r_s0 s0) (hb_f0c0 : S b_f0c0 ∧ w.heap[b_f0c0]? = some (.cells [.string f0c0.ba].toArray 9 (0, 0))) :
    Calls Tryd.prog 107 #[.slice r_s0.a s0.length r_s0.cap, .func (.func 108) #[] #[.pointer (some ⟨b_f0c0, 0, none⟩)]] w (Ret w (.int .i64 y)) := by
  refine calls_cw (args := [_, _]) Tryd.func107 rfl ((pre_nil hS).start |>.immP (α := List Section) (r := r_s0) (x := s0) h_s0|>.rboxP hb_f0c0) rfl ?_
  unfold slices_IndexFunc_api_Section_api_Section_m at hM
  refine cw_seq fun K1 hK1 => ?_
  refine cw_region ?_
  refine ow_ev ev_assign ?_
  refine ow_nil (hK1 _ _ ?_); clear hK1
  refine cw_seq fun K2 hK2 => ?_
  refine cw_seq fun K3 hK3 => ?_
  refine cw_region ?_
  refine ow_ev ev_move ?_
  refine ow_have (fun w hm => Kn.len (Kn.imm (α := List Section) (r := r_s0) (x := s0) (by repeat (first | exact Has.head | apply Has.tail))) hm) fun hl1 => ?_
  refine ow_ev ev_len ?_
  refine ow_ev ev_move ?_
  refine ow_nil (hK3 _ _ ?_); clear hK3
  refine cw_block ?_
  refine cw_loop (γ := Nat × Nat × Unit) (env := fun (_, t8_1, _) => [(0, .v (.slice r_s0.a s0.length r_s0.cap)), (1, .v (.func (.func 108) #[] #[.pointer (some ⟨b_f0c0, 0, none⟩)])), (7, .v (.int .i64 (s0.length : Int))), (8, .v (.int .i64 (t8_1 : Int)))]) (mem := fun (_, t8_1, _) => [imm (α := (List Section)) r_s0 s0, rbox b_f0c0 9 [.string f0c0.ba]]) (R := fun g => iter (slices_IndexFunc_api_Section_api_Section_b1 s0 f0c0) g.1 g.2.1 = some y) (μ := fun g => g.1) (FUEL, 0, ()) hM ⟨rfl, rfl, rfl, rfl, trivial⟩ (fun w hm => hm.reord) ?_
  clear hM
  intro g hM KL1 hL1
  obtain ⟨nn1, t8_1, ⟨⟩⟩ := g
  dsimp only at hM ⊢
  obtain ⟨nn1, cont1, rfl, hcont1, hM⟩ := iter_open' hM
  dsimp only [slices_IndexFunc_api_Section_api_Section_b1] at hM
  refine cw_seq fun K4 hK4 => ?_
  refine cw_region ?_
  refine ow_ev ev_lss ?_
  refine ow_nil (hK4 _ _ ?_); clear hK4
  refine cw_seq fun K5 hK5 => ?_
  refine cw_cond rfl (fun hc2 => ?_) (fun hc2 => ?_)
  ·
    replace hM := (ite_t hc2).symm.trans hM
    have hc2d := of_decide_eq_true hc2
    refine cw_skip (hK5 _ _ ?_); clear hK5
    refine cw_seq fun K6 hK6 => ?_
    refine cw_block ?_
    refine cw_seq fun K7 hK7 => ?_
    refine cw_region ?_
    refine ow_ev ev_move ?_
    refine ow_ev ev_assign ?_
    refine ow_nil (hK7 _ _ ?_); clear hK7
    refine cw_seq fun K8 hK8 => ?_
    refine cw_region ?_
    refine ow_ev ev_move ?_
    refine ow_ev ev_move ?_
    refine ow_ev ev_move ?_
    obtain ⟨x3, hx4, hM⟩ := bind_some hM
    refine ow_ev (ev_idx (xs := s0) 5 (Kn.imm (α := List Section) (r := r_s0) (x := s0) (by repeat (first | exact Has.head | apply Has.tail))) (fun hg => let h := idx_some hx4; ⟨h.1, h.2.1⟩)) ?_
    refine ow_ev (ev_lds (m := 5) (i := (t8_1 : Int)) (xs := s0) (y := x3) (l := [.string x3.Name.ba, .int .i64 x3.Length, .int .i64 x3.Limit, .int .i64 x3.Grade, .int .i64 x3.Station]) 0 (Kn.imm (α := List Section) (r := r_s0) (x := s0) (by repeat (first | exact Has.head | apply Has.tail))) (fun _ => hx4)) ?_
    obtain ⟨y5, hy6, hM⟩ := bind_some hM
    refine ow_cons (st_dynv (vs := [.agg #[.string x3.Name.ba, .int .i64 x3.Length, .int .i64 x3.Limit, .int .i64 x3.Grade, .int .i64 x3.Station]]) (cap := [.pointer (some ⟨b_f0c0, 0, none⟩)]) (fun w hm => let ⟨S, hs⟩ := hm; layout_sectionNamed_c1_spec _ w x3 b_f0c0 f0c0 y5 hy6 (lend_lt hs) (rbox_lend (by repeat (first | exact Has.head | apply Has.tail)) hs)) ?_)
    refine ow_nil (hK8 _ _ ?_); clear hK8
    refine cw_cond rfl (fun hc7 => ?_) (fun hc7 => ?_)
    ·
      replace hM := (ite_t hc7).symm.trans hM
      refine cw_seq fun K9 hK9 => ?_
      refine cw_region ?_
      refine ow_ev ev_move ?_
      refine ow_ev ev_assign ?_
      refine ow_nil (hK9 _ _ ?_); clear hK9
      obtain rfl := some_inj hM
      refine cw_ret (kw_retc1 (fun w hm => ret_of hm rfl))
    ·
      replace hM := (ite_f hc7).symm.trans hM
      refine cw_skip (hK6 _ _ ?_); clear hK6
      refine cw_region ?_
      refine ow_ev (ev_add (hr := fun _ => by unfold I64; omega)) ?_
      refine ow_ev ev_move ?_
      refine ow_nil (hL1 (nn1, (t8_1 + 1), ()) _ _ (eqc hcont1 hM) (Nat.lt_succ_self _) ⟨rfl, rfl, rfl, rfl, trivial⟩ (fun w hm => hm.reord))
  ·
    replace hM := (ite_f hc2).symm.trans hM
    refine cw_exit (hK2 _ _ ?_); clear hK2
    dsimp only [slices_IndexFunc_api_Section_api_Section_k1] at hM
    refine cw_seq fun K10 hK10 => ?_
    refine cw_region ?_
    refine ow_ev ev_assign ?_
    refine ow_nil (hK10 _ _ ?_); clear hK10
    obtain rfl := some_inj hM
    refine cw_ret (kw_retc1 (fun w hm => ret_of hm rfl))

def layout_sectionNamed_m (l0 : Layout) (name0 : Str) : Option Int :=
  (slices_IndexFunc_api_Section_api_Section_m l0.Sections name0).bind fun y2 =>
  some y2
theorem layout_sectionNamed_spec (S : Soup) (w : World) (b_l0 : Nat) (l0 : Layout) (r_l0 : GoRep.R Layout) (name0 : Str) (y : Int) (hM : layout_sectionNamed_m l0 name0 = some y) (hS : ∀ k, S k → k < w.heap.size) (hb_l0 : S b_l0 ∧ w.heap[b_l0]? = some (.cells [.slice r_l0.1.a l0.Stations.length r_l0.1.cap, .slice r_l0.2.1.a l0.Points.length r_l0.2.1.cap, .slice r_l0.2.2.1.a l0.Sections.length r_l0.2.2.1.cap, .slice r_l0.2.2.2.a l0.Links.length r_l0.2.2.2.cap].toArray 26 (0, 0))) (h_l0 : GoRep.ok S w r_l0 l0) :
    Calls Tryd.prog 93 #[.pointer (some ⟨b_l0, 0, none⟩), .string name0.ba] w (Ret w (.int .i64 y)) := by
  refine calls_cw (args := [_, _]) Tryd.func93 rfl ((pre_nil hS).start |>.rboxP hb_l0|>.immP (α := List Str) (r := r_l0.1) (x := l0.Stations) h_l0.1|>.immP (α := List Str) (r := r_l0.2.1) (x := l0.Points) h_l0.2.1|>.immP (α := List Section) (r := r_l0.2.2.1) (x := l0.Sections) h_l0.2.2.1|>.immP (α := List Link) (r := r_l0.2.2.2) (x := l0.Links) h_l0.2.2.2) rfl ?_
  unfold layout_sectionNamed_m at hM
  refine cw_seq fun K1 hK1 => ?_
  refine cw_region ?_
  refine ow_cons (st_box1 (h1 := rfl) (k := fun b1 => ?_))
  refine ow_ev ev_assign ?_
  refine ow_nil (hK1 _ _ ?_); clear hK1
  refine cw_seq fun K2 hK2 => ?_
  refine cw_region ?_
  refine ow_ev ev_move ?_
  refine ow_ev ev_nilcheck ?_
  refine ow_ev (ev_field_addr 2) ?_
  refine ow_ev (ev_rload_own (b := b_l0)) ?_
  refine ow_ev ev_makeFunc ?_
  obtain ⟨y2, hy3, hM⟩ := bind_some hM
  refine ow_cons (st_callv (fun w hm => let ⟨S, hs⟩ := hm; slices_IndexFunc_api_Section_api_Section_spec _ w l0.Sections r_l0.2.2.1 b1 name0 y2 hy3 (lend_lt hs) (Kn.lend (Kn.imm (α := List Section) (r := r_l0.2.2.1) (x := l0.Sections) (by repeat (first | exact Has.head | apply Has.tail))) hs) (own_lend (by repeat (first | exact Has.head | apply Has.tail)) hs)) ?_)
  refine ow_ev ev_assign ?_
  refine ow_nil (hK2 _ _ ?_); clear hK2
  obtain rfl := some_inj hM
  refine cw_ret (kw_retc1 (fun w hm => ret_of hm rfl))

end Go.Proofs.YtohhihdjdelckaaDoor
