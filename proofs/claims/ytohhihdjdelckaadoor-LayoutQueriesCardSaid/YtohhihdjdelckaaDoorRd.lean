/- Models of functions, and that the code computes them. -/
import Derived.Test.YtohhihdjdelckaaDoorRb
set_option linter.all false
namespace Go.Proofs.YtohhihdjdelckaaDoor
open Go.Dc Go.RowKit
set_option maxRecDepth 10000
def ref1_step_m (l0 : Layout) (s0 : Step) : Option Bool :=
  chk (i64b ((l0.Sections.length : Int) - 1)) <|
  (ref1_in_m s0.Section 0 ((l0.Sections.length : Int) - 1)).bind fun y4 =>
  (whn y4 default (ref1_in_m s0.Dir 0 1)).bind fun y6 =>
  some (y4 && y6)
theorem ref1_step_spec (S : Soup) (w : World) (l0 : Layout) (r_l0 : GoRep.R Layout) (s0 : Step) (y : Bool) (hM : ref1_step_m l0 s0 = some y) (hS : ∀ k, S k → k < w.heap.size) (h_l0 : GoRep.ok S w r_l0 l0) :
    Calls Tryd.prog 53 #[.agg #[.slice r_l0.1.a l0.Stations.length r_l0.1.cap, .slice r_l0.2.1.a l0.Points.length r_l0.2.1.cap, .slice r_l0.2.2.1.a l0.Sections.length r_l0.2.2.1.cap, .slice r_l0.2.2.2.a l0.Links.length r_l0.2.2.2.cap], .agg #[.int .i64 s0.Section, .int .i64 s0.Dir]] w (Ret w (.bool y)) := by
  refine calls_cw (args := [_, _]) Tryd.func53 rfl ((pre_nil hS).start |>.immP (α := List Str) (r := r_l0.1) (x := l0.Stations) h_l0.1|>.immP (α := List Str) (r := r_l0.2.1) (x := l0.Points) h_l0.2.1|>.immP (α := List Section) (r := r_l0.2.2.1) (x := l0.Sections) h_l0.2.2.1|>.immP (α := List Link) (r := r_l0.2.2.2) (x := l0.Links) h_l0.2.2.2) rfl ?_
  unfold ref1_step_m at hM
  refine cw_seq fun K1 hK1 => ?_
  refine cw_region ?_
  refine ow_cons (st_box (l := [.slice r_l0.1.a l0.Stations.length r_l0.1.cap, .slice r_l0.2.1.a l0.Points.length r_l0.2.1.cap, .slice r_l0.2.2.1.a l0.Sections.length r_l0.2.2.1.cap, .slice r_l0.2.2.2.a l0.Links.length r_l0.2.2.2.cap]) (k := fun b1 => ?_))
  refine ow_cons (st_box (l := [.int .i64 s0.Section, .int .i64 s0.Dir]) (k := fun b2 => ?_))
  refine ow_ev ev_assign ?_
  refine ow_nil (hK1 _ _ ?_); clear hK1
  refine cw_seq fun K2 hK2 => ?_
  refine cw_region ?_
  refine ow_ev (ev_field_addr 0) ?_
  refine ow_ev (ev_load_own (b := b2)) ?_
  refine ow_ev (ev_field_addr 2) ?_
  refine ow_ev (ev_load_own (b := b1)) ?_
  refine ow_ev ev_len ?_
  obtain ⟨hI3, hM⟩ := chk_some hM
  refine ow_ev (ev_sub (hr := fun hg => i64b_I64 hI3)) ?_
  obtain ⟨y4, hy5, hM⟩ := bind_some hM
  refine ow_cons (st_callv (fun w hm => let ⟨S, hs⟩ := hm; ref1_in_spec _ w s0.Section 0 ((l0.Sections.length : Int) - 1) y4 hy5 (lend_lt hs) ) ?_)
  refine ow_ev ev_move ?_
  refine ow_evg rfl (ev_field_addr 1) ?_
  refine ow_evg rfl (ev_load_own (b := b2)) ?_
  obtain ⟨y6, hy7, hM⟩ := bind_some hM
  refine ow_callg rfl (fun hg w hm => let ⟨S, hs⟩ := hm; ref1_in_spec _ w s0.Dir 0 1 y6 (whn_some hy7 hg) (lend_lt hs) ) ?_
  refine ow_ev ev_and ?_
  refine ow_ev ev_assign ?_
  refine ow_nil (hK2 _ _ ?_); clear hK2
  obtain rfl := some_inj hM
  refine cw_ret (kw_retc1 (fun w hm => ret_of hm rfl))

def ref1_HasStep_m (l0 : Layout) (s0 : Step) : Option Bool :=
  (ref1_Check_m l0).bind fun y3 =>
  (whn (decide (y3 = 0)) default (ref1_step_m l0 s0)).bind fun y5 =>
  some (decide (y3 = 0) && y5)
theorem ref1_HasStep_spec (S : Soup) (w : World) (l0 : Layout) (r_l0 : GoRep.R Layout) (s0 : Step) (y : Bool) (hM : ref1_HasStep_m l0 s0 = some y) (hS : ∀ k, S k → k < w.heap.size) (h_l0 : GoRep.ok S w r_l0 l0) :
    Calls Tryd.prog 28 #[.agg #[.slice r_l0.1.a l0.Stations.length r_l0.1.cap, .slice r_l0.2.1.a l0.Points.length r_l0.2.1.cap, .slice r_l0.2.2.1.a l0.Sections.length r_l0.2.2.1.cap, .slice r_l0.2.2.2.a l0.Links.length r_l0.2.2.2.cap], .agg #[.int .i64 s0.Section, .int .i64 s0.Dir]] w (Ret w (.bool y)) := by
  refine calls_cw (args := [_, _]) Tryd.func28 rfl ((pre_nil hS).start |>.immP (α := List Str) (r := r_l0.1) (x := l0.Stations) h_l0.1|>.immP (α := List Str) (r := r_l0.2.1) (x := l0.Points) h_l0.2.1|>.immP (α := List Section) (r := r_l0.2.2.1) (x := l0.Sections) h_l0.2.2.1|>.immP (α := List Link) (r := r_l0.2.2.2) (x := l0.Links) h_l0.2.2.2) rfl ?_
  unfold ref1_HasStep_m at hM
  refine cw_seq fun K1 hK1 => ?_
  refine cw_region ?_
  refine ow_cons (st_box (l := [.slice r_l0.1.a l0.Stations.length r_l0.1.cap, .slice r_l0.2.1.a l0.Points.length r_l0.2.1.cap, .slice r_l0.2.2.1.a l0.Sections.length r_l0.2.2.1.cap, .slice r_l0.2.2.2.a l0.Links.length r_l0.2.2.2.cap]) (k := fun b1 => ?_))
  refine ow_cons (st_box (l := [.int .i64 s0.Section, .int .i64 s0.Dir]) (k := fun b2 => ?_))
  refine ow_ev ev_assign ?_
  refine ow_nil (hK1 _ _ ?_); clear hK1
  refine cw_seq fun K2 hK2 => ?_
  refine cw_region ?_
  refine ow_ev (ev_load_all (b := b1)) ?_
  obtain ⟨y3, hy4, hM⟩ := bind_some hM
  refine ow_cons (st_callv (fun w hm => let ⟨S, hs⟩ := hm; ref1_Check_spec _ w l0 r_l0 y3 hy4 (lend_lt hs) ⟨(Kn.lend (Kn.imm (α := List Str) (r := r_l0.1) (x := l0.Stations) (by repeat (first | exact Has.head | apply Has.tail))) hs), (Kn.lend (Kn.imm (α := List Str) (r := r_l0.2.1) (x := l0.Points) (by repeat (first | exact Has.head | apply Has.tail))) hs), (Kn.lend (Kn.imm (α := List Section) (r := r_l0.2.2.1) (x := l0.Sections) (by repeat (first | exact Has.head | apply Has.tail))) hs), (Kn.lend (Kn.imm (α := List Link) (r := r_l0.2.2.2) (x := l0.Links) (by repeat (first | exact Has.head | apply Has.tail))) hs)⟩) ?_)
  refine ow_ev ev_eql ?_
  refine ow_ev ev_move ?_
  refine ow_evg rfl (ev_load_all (b := b1)) ?_
  refine ow_evg rfl (ev_load_all (b := b2)) ?_
  obtain ⟨y5, hy6, hM⟩ := bind_some hM
  refine ow_callg rfl (fun hg w hm => let ⟨S, hs⟩ := hm; ref1_step_spec _ w l0 r_l0 s0 y5 (whn_some hy6 hg) (lend_lt hs) ⟨(Kn.lend (Kn.imm (α := List Str) (r := r_l0.1) (x := l0.Stations) (by repeat (first | exact Has.head | apply Has.tail))) hs), (Kn.lend (Kn.imm (α := List Str) (r := r_l0.2.1) (x := l0.Points) (by repeat (first | exact Has.head | apply Has.tail))) hs), (Kn.lend (Kn.imm (α := List Section) (r := r_l0.2.2.1) (x := l0.Sections) (by repeat (first | exact Has.head | apply Has.tail))) hs), (Kn.lend (Kn.imm (α := List Link) (r := r_l0.2.2.2) (x := l0.Links) (by repeat (first | exact Has.head | apply Has.tail))) hs)⟩) ?_
  refine ow_ev ev_and ?_
  refine ow_ev ev_assign ?_
  refine ow_nil (hK2 _ _ ?_); clear hK2
  obtain rfl := some_inj hM
  refine cw_ret (kw_retc1 (fun w hm => ret_of hm rfl))

def ref1_Reverse_m (s0 : Step) : Option Step :=
  if decide (s0.Dir = 0) then
    (some (Step.mk s0.Section 1))
  else
    (some (Step.mk s0.Section 0))
theorem ref1_Reverse_spec (S : Soup) (w : World) (s0 : Step) (y : Step) (hM : ref1_Reverse_m s0 = some y) (hS : ∀ k, S k → k < w.heap.size)  :
    Calls Tryd.prog 30 #[.agg #[.int .i64 s0.Section, .int .i64 s0.Dir]] w (Ret w (.agg #[.int .i64 y.Section, .int .i64 y.Dir])) := by
  refine calls_cw (args := [_]) Tryd.func30 rfl ((pre_nil hS).start) rfl ?_
  unfold ref1_Reverse_m at hM
  refine cw_seq fun K1 hK1 => ?_
  refine cw_region ?_
  refine ow_cons (st_box (l := [.int .i64 s0.Section, .int .i64 s0.Dir]) (k := fun b1 => ?_))
  refine ow_cons (st_alloc rfl (k := fun b2 => ?_))
  refine ow_nil (hK1 _ _ ?_); clear hK1
  refine cw_seq fun K2 hK2 => ?_
  refine cw_seq fun K3 hK3 => ?_
  refine cw_region ?_
  refine ow_ev (ev_field_addr 1) ?_
  refine ow_ev (ev_load_own (b := b1)) ?_
  refine ow_ev ev_eql ?_
  refine ow_nil (hK3 _ _ ?_); clear hK3
  refine cw_cond rfl (fun hc3 => ?_) (fun hc3 => ?_)
  ·
    replace hM := (ite_t hc3).symm.trans hM
    refine cw_seq fun K4 hK4 => ?_
    refine cw_region ?_
    refine ow_ev (ev_field_addr 0) ?_
    refine ow_ev (ev_load_own (b := b1)) ?_
    refine ow_ev (ev_build [.int .i64 s0.Section, .int .i64 1]) ?_
    refine ow_cons (st_store_all (b := b2) (vs := [.int .i64 s0.Section, .int .i64 1]) (k := ?_))
    refine ow_nil (hK4 _ _ ?_); clear hK4
    obtain rfl := some_inj hM
    refine cw_ret (kw_retc1 (fun w hm => ret_of hm rfl))
  ·
    replace hM := (ite_f hc3).symm.trans hM
    refine cw_skip (hK2 _ _ ?_); clear hK2
    refine cw_seq fun K5 hK5 => ?_
    refine cw_region ?_
    refine ow_ev (ev_field_addr 0) ?_
    refine ow_ev (ev_load_own (b := b1)) ?_
    refine ow_ev (ev_build [.int .i64 s0.Section, .int .i64 0]) ?_
    refine ow_cons (st_store_all (b := b2) (vs := [.int .i64 s0.Section, .int .i64 0]) (k := ?_))
    refine ow_nil (hK5 _ _ ?_); clear hK5
    obtain rfl := some_inj hM
    refine cw_ret (kw_retc1 (fun w hm => ret_of hm rfl))

def ref1_HopsOf_k3 (i_1 : Nat) (cont1 : ((List Hop) × Nat) → Option (List Hop)) : (List Hop) → Option (List Hop) := fun lh_j3 =>
  chk (i64b ((i_1 : Int) + 1)) <|
  cont1 (lh_j3, i_1 + 1)
def ref1_HopsOf_k5 (lh_1 : List Hop) (to_j4_0 : Int) (x7 : Link) (i_1 : Nat) (cont1 : ((List Hop) × Nat) → Option (List Hop)) : Int → Option (List Hop) := fun dir_j5 =>
  chk (decide ((lh_1.length + ([(Hop.mk (Step.mk to_j4_0 dir_j5) x7.Point x7.Pos)] : List Hop).length) * 32 ≤ 140737488355328)) <|
  ref1_HopsOf_k3 i_1 cont1 (lh_1 ++ ([(Hop.mk (Step.mk to_j4_0 dir_j5) x7.Point x7.Pos)] : List Hop))
def ref1_HopsOf_k4 (lh_1 : List Hop) (x7 : Link) (i_1 : Nat) (cont1 : ((List Hop) × Nat) → Option (List Hop)) : (Int × Int) → Option (List Hop) := fun (to_j4_0, to_j4_1) =>
  if decide (0 ≤ to_j4_0) then
    (if decide (to_j4_1 = 1) then
      (ref1_HopsOf_k5 lh_1 to_j4_0 x7 i_1 cont1 1)
    else
      (ref1_HopsOf_k5 lh_1 to_j4_0 x7 i_1 cont1 0))
  else
    (ref1_HopsOf_k3 i_1 cont1 lh_1)
def ref1_HopsOf_k2 (lh_1 : List Hop) : Unit → Option (List Hop) := fun _ =>
  some lh_1
def ref1_HopsOf_b1 (l0 : Layout) (s0 : Step) (out_j1_1 : Int) (cont1 : ((List Hop) × Nat) → Option (List Hop)) : ((List Hop) × Nat) → Option (List Hop) := fun (lh_1, i_1) =>
  if decide ((i_1 : Int) < (l0.Links.length : Int)) then
    ((idx l0.Links (i_1 : Int)).bind fun x7 =>
    if (decide (x7.A = s0.Section) && decide (x7.AEnd = out_j1_1)) then
      (ref1_HopsOf_k4 lh_1 x7 i_1 cont1 (x7.B, x7.BEnd))
    else
      (if (decide (x7.B = s0.Section) && decide (x7.BEnd = out_j1_1)) then
        (ref1_HopsOf_k4 lh_1 x7 i_1 cont1 (x7.A, x7.AEnd))
      else
        (ref1_HopsOf_k4 lh_1 x7 i_1 cont1 ((-1), 0))))
  else
    (ref1_HopsOf_k2 lh_1 ())
def ref1_HopsOf_k1 (l0 : Layout) (s0 : Step) : Int → Option (List Hop) := fun out_j1_1 =>
  iter (ref1_HopsOf_b1 l0 s0 out_j1_1) FUEL (([] : List Hop), 0)
def ref1_HopsOf_m (l0 : Layout) (s0 : Step) : Option (List Hop) :=
  if decide (s0.Dir = 1) then
    (ref1_HopsOf_k1 l0 s0 0)
  else
    (ref1_HopsOf_k1 l0 s0 1)
theorem ref1_HopsOf_spec (S : Soup) (w : World) (l0 : Layout) (r_l0 : GoRep.R Layout) (s0 : Step) (y : (List Hop)) (hM : ref1_HopsOf_m l0 s0 = some y) (hS : ∀ k, S k → k < w.heap.size) (h_l0 : GoRep.ok S w r_l0 l0) :
    Calls Tryd.prog 54 #[.agg #[.slice r_l0.1.a l0.Stations.length r_l0.1.cap, .slice r_l0.2.1.a l0.Points.length r_l0.2.1.cap, .slice r_l0.2.2.1.a l0.Sections.length r_l0.2.2.1.cap, .slice r_l0.2.2.2.a l0.Links.length r_l0.2.2.2.cap], .agg #[.int .i64 s0.Section, .int .i64 s0.Dir]] w (Post (β := (GoRep.R (List Hop))) S [] (fun g => .slice g.a y.length g.cap) (fun g => [trow 52 g y]) w) := by
  refine calls_cw (args := [_, _]) Tryd.func54 rfl ((pre_nil hS).start |>.immP (α := List Str) (r := r_l0.1) (x := l0.Stations) h_l0.1|>.immP (α := List Str) (r := r_l0.2.1) (x := l0.Points) h_l0.2.1|>.immP (α := List Section) (r := r_l0.2.2.1) (x := l0.Sections) h_l0.2.2.1|>.immP (α := List Link) (r := r_l0.2.2.2) (x := l0.Links) h_l0.2.2.2) rfl ?_
  unfold ref1_HopsOf_m at hM
  refine cw_seq fun K1 hK1 => ?_
  refine cw_region ?_
  refine ow_cons (st_box (l := [.slice r_l0.1.a l0.Stations.length r_l0.1.cap, .slice r_l0.2.1.a l0.Points.length r_l0.2.1.cap, .slice r_l0.2.2.1.a l0.Sections.length r_l0.2.2.1.cap, .slice r_l0.2.2.2.a l0.Links.length r_l0.2.2.2.cap]) (k := fun b1 => ?_))
  refine ow_cons (st_box (l := [.int .i64 s0.Section, .int .i64 s0.Dir]) (k := fun b2 => ?_))
  refine ow_ev ev_assign ?_
  refine ow_nil (hK1 _ _ ?_); clear hK1
  refine cw_seq fun K2 hK2 => ?_
  refine cw_region ?_
  refine ow_ev (ev_field_addr 0) ?_
  refine ow_ev (ev_load_own (b := b2)) ?_
  refine ow_ev (ev_build [.int .i64 s0.Section, .int .i64 1]) ?_
  refine ow_cons (st_alloc rfl (k := fun b3 => ?_))
  refine ow_cons (st_store_all (b := b3) (vs := [.int .i64 s0.Section, .int .i64 1]) (k := ?_))
  refine ow_nil (hK2 _ _ ?_); clear hK2
  refine cw_cut (γ := Int × Unit) (env := fun (out_j1_1, _) => [(2, .v (.pointer (some ⟨b1, 0, none⟩))), (5, .v (.pointer (some ⟨b3, 0, none⟩)))]) (mem := fun (out_j1_1, _) => [imm (α := (List Str)) r_l0.1 l0.Stations, imm (α := (List Str)) r_l0.2.1 l0.Points, imm (α := (List Section)) r_l0.2.2.1 l0.Sections, imm (α := (List Link)) r_l0.2.2.2 l0.Links, own b1 26 [.slice r_l0.1.a l0.Stations.length r_l0.1.cap, .slice r_l0.2.1.a l0.Points.length r_l0.2.1.cap, .slice r_l0.2.2.1.a l0.Sections.length r_l0.2.2.1.cap, .slice r_l0.2.2.2.a l0.Links.length r_l0.2.2.2.cap], own b3 128 [.int .i64 s0.Section, .int .i64 out_j1_1]]) (R := fun g => ref1_HopsOf_k1 l0 s0 g.1 = some y) ?_ ?_
  · intro KJ1 hJ1
    refine cw_seq fun K16 hK16 => ?_
    refine cw_region ?_
    refine ow_ev (ev_field_addr 1) ?_
    refine ow_ev (ev_load_own (b := b2)) ?_
    refine ow_ev ev_eql ?_
    refine ow_nil (hK16 _ _ ?_); clear hK16
    refine cw_cond rfl (fun hc18 => ?_) (fun hc18 => ?_)
    ·
      replace hM := (ite_t hc18).symm.trans hM
      refine cw_region ?_
      refine ow_ev (ev_field_addr 1) ?_
      refine ow_cons (st_store_own (b := b3) (l' := [.int .i64 s0.Section, .int .i64 0]) (k := ?_))
      refine ow_nil (hJ1 (0, ()) _ _ hM ⟨rfl, rfl, trivial⟩ (fun w hm => hm.reord))
    ·
      replace hM := (ite_f hc18).symm.trans hM
      refine cw_skip (hJ1 (1, ()) _ _ hM ⟨rfl, rfl, trivial⟩ (fun w hm => hm.reord))
  ·
    clear hM
    intro g hM
    obtain ⟨out_j1_1, ⟨⟩⟩ := g
    dsimp only at hM ⊢
    dsimp only [ref1_HopsOf_k1] at hM
    refine cw_seq fun K3 hK3 => ?_
    refine cw_region ?_
    refine ow_ev ev_assign ?_
    refine ow_nil (hK3 _ _ ?_); clear hK3
    refine cw_seq fun K4 hK4 => ?_
    refine cw_seq fun K5 hK5 => ?_
    refine cw_region ?_
    refine ow_ev ev_assign ?_
    refine ow_nil (hK5 _ _ ?_); clear hK5
    refine cw_block ?_
    refine cw_imp (fun w hm => hm.row_nil (α := Hop) 52 (fun _ => ())) ?_
    refine cw_loop (γ := Nat × ((List Hop) × Nat) × (SR (GoRep.R Hop))) (env := fun (_, (lh_1, i_1), rh_1) => [(2, .v (.pointer (some ⟨b1, 0, none⟩))), (5, .v (.pointer (some ⟨b3, 0, none⟩))), (6, .v (.slice rh_1.a lh_1.length rh_1.cap)), (7, .v (.int .i64 (i_1 : Int)))]) (mem := fun (_, (lh_1, i_1), rh_1) => [imm (α := (List Str)) r_l0.1 l0.Stations, imm (α := (List Str)) r_l0.2.1 l0.Points, imm (α := (List Section)) r_l0.2.2.1 l0.Sections, imm (α := (List Link)) r_l0.2.2.2 l0.Links, own b1 26 [.slice r_l0.1.a l0.Stations.length r_l0.1.cap, .slice r_l0.2.1.a l0.Points.length r_l0.2.1.cap, .slice r_l0.2.2.1.a l0.Sections.length r_l0.2.2.1.cap, .slice r_l0.2.2.2.a l0.Links.length r_l0.2.2.2.cap], own b3 128 [.int .i64 s0.Section, .int .i64 out_j1_1], trow 52 rh_1 lh_1]) (R := fun g => iter (ref1_HopsOf_b1 l0 s0 out_j1_1) g.1 g.2.1 = some y) (μ := fun g => g.1) (FUEL, (([] : List Hop), 0), (⟨none, 0, (fun _ => ())⟩ : SR (GoRep.R Hop) )) hM ⟨rfl, rfl, rfl, rfl, trivial⟩ (fun w hm => hm.reord) ?_
    clear hM
    intro g hM KL1 hL1
    obtain ⟨nn1, ⟨lh_1, i_1⟩, rh_1⟩ := g
    dsimp only at hM ⊢
    obtain ⟨nn1, cont1, rfl, hcont1, hM⟩ := iter_open' hM
    dsimp only [ref1_HopsOf_b1] at hM
    refine cw_seq fun K6 hK6 => ?_
    refine cw_seq fun K7 hK7 => ?_
    refine cw_region ?_
    refine ow_ev ev_move ?_
    refine ow_ev (ev_field_addr 3) ?_
    refine ow_ev (ev_load_own (b := b1)) ?_
    refine ow_ev ev_len ?_
    refine ow_ev ev_lss ?_
    refine ow_nil (hK7 _ _ ?_); clear hK7
    refine cw_cond rfl (fun hc5 => ?_) (fun hc5 => ?_)
    ·
      replace hM := (ite_t hc5).symm.trans hM
      refine cw_skip (hK6 _ _ ?_); clear hK6
      refine cw_cut (γ := (List Hop) × (SR (GoRep.R Hop))) (env := fun (lh_j3, rh_j3) => [(2, .v (.pointer (some ⟨b1, 0, none⟩))), (5, .v (.pointer (some ⟨b3, 0, none⟩))), (6, .v (.slice rh_j3.a lh_j3.length rh_j3.cap)), (7, .v (.int .i64 (i_1 : Int)))]) (mem := fun (lh_j3, rh_j3) => [imm (α := (List Str)) r_l0.1 l0.Stations, imm (α := (List Str)) r_l0.2.1 l0.Points, imm (α := (List Section)) r_l0.2.2.1 l0.Sections, imm (α := (List Link)) r_l0.2.2.2 l0.Links, own b1 26 [.slice r_l0.1.a l0.Stations.length r_l0.1.cap, .slice r_l0.2.1.a l0.Points.length r_l0.2.1.cap, .slice r_l0.2.2.1.a l0.Sections.length r_l0.2.2.1.cap, .slice r_l0.2.2.2.a l0.Links.length r_l0.2.2.2.cap], own b3 128 [.int .i64 s0.Section, .int .i64 out_j1_1], trow 52 rh_j3 lh_j3]) (R := fun g => ref1_HopsOf_k3 i_1 cont1 g.1 = some y) ?_ ?_
      · intro KJ3 hJ3
        refine cw_block ?_
        refine cw_seq fun K8 hK8 => ?_
        refine cw_region ?_
        refine ow_ev (ev_field_addr 3) ?_
        refine ow_ev (ev_load_own (b := b1)) ?_
        refine ow_ev ev_move ?_
        obtain ⟨x7, hx8, hM⟩ := bind_some hM
        refine ow_ev (ev_idx (xs := l0.Links) 6 (Kn.imm (α := List Link) (r := r_l0.2.2.2) (x := l0.Links) (by repeat (first | exact Has.head | apply Has.tail))) (fun hg => let h := idx_some hx8; ⟨h.1, h.2.1⟩)) ?_
        refine ow_ev (ev_lds (m := 6) (i := (i_1 : Int)) (xs := l0.Links) (y := x7) (l := [.int .i64 x7.A, .int .i64 x7.AEnd, .int .i64 x7.B, .int .i64 x7.BEnd, .int .i64 x7.Point, .int .i64 x7.Pos]) 0 (Kn.imm (α := List Link) (r := r_l0.2.2.2) (x := l0.Links) (by repeat (first | exact Has.head | apply Has.tail))) (fun _ => hx8)) ?_
        refine ow_cons (st_alloc rfl (k := fun b9 => ?_))
        refine ow_cons (st_store_all (b := b9) (vs := [.int .i64 x7.A, .int .i64 x7.AEnd, .int .i64 x7.B, .int .i64 x7.BEnd, .int .i64 x7.Point, .int .i64 x7.Pos]) (k := ?_))
        refine ow_nil (hK8 _ _ ?_); clear hK8
        refine cw_seq fun K9 hK9 => ?_
        refine cw_region ?_
        refine ow_ev (ev_build [.int .i64 (-1), .int .i64 0]) ?_
        refine ow_cons (st_alloc rfl (k := fun b10 => ?_))
        refine ow_cons (st_store_all (b := b10) (vs := [.int .i64 (-1), .int .i64 0]) (k := ?_))
        refine ow_nil (hK9 _ _ ?_); clear hK9
        refine cw_cut (γ := (Int × Int) × Unit) (env := fun ((to_j4_0, to_j4_1), _) => [(2, .v (.pointer (some ⟨b1, 0, none⟩))), (5, .v (.pointer (some ⟨b3, 0, none⟩))), (6, .v (.slice rh_1.a lh_1.length rh_1.cap)), (7, .v (.int .i64 (i_1 : Int))), (8, .v (.pointer (some ⟨b9, 0, none⟩))), (9, .v (.pointer (some ⟨b10, 0, none⟩)))]) (mem := fun ((to_j4_0, to_j4_1), _) => [imm (α := (List Str)) r_l0.1 l0.Stations, imm (α := (List Str)) r_l0.2.1 l0.Points, imm (α := (List Section)) r_l0.2.2.1 l0.Sections, imm (α := (List Link)) r_l0.2.2.2 l0.Links, own b1 26 [.slice r_l0.1.a l0.Stations.length r_l0.1.cap, .slice r_l0.2.1.a l0.Points.length r_l0.2.1.cap, .slice r_l0.2.2.1.a l0.Sections.length r_l0.2.2.1.cap, .slice r_l0.2.2.2.a l0.Links.length r_l0.2.2.2.cap], own b3 128 [.int .i64 s0.Section, .int .i64 out_j1_1], trow 52 rh_1 lh_1, own b9 72 [.int .i64 x7.A, .int .i64 x7.AEnd, .int .i64 x7.B, .int .i64 x7.BEnd, .int .i64 x7.Point, .int .i64 x7.Pos], own b10 128 [.int .i64 to_j4_0, .int .i64 to_j4_1]]) (R := fun g => ref1_HopsOf_k4 lh_1 x7 i_1 cont1 g.1 = some y) ?_ ?_
        · intro KJ4 hJ4
          refine cw_block ?_
          refine cw_seq fun K13 hK13 => ?_
          refine cw_region ?_
          refine ow_ev (ev_field_addr 0) ?_
          refine ow_ev (ev_load_own (b := b9)) ?_
          refine ow_ev (ev_field_addr 0) ?_
          refine ow_ev (ev_load_own (b := b3)) ?_
          refine ow_ev ev_eql ?_
          refine ow_ev ev_move ?_
          refine ow_evg rfl (ev_field_addr 1) ?_
          refine ow_evg rfl (ev_load_own (b := b9)) ?_
          refine ow_evg rfl (ev_field_addr 1) ?_
          refine ow_evg rfl (ev_load_own (b := b3)) ?_
          refine ow_evg rfl ev_eql ?_
          refine ow_ev ev_and ?_
          refine ow_ev ev_assign ?_
          refine ow_nil (hK13 _ _ ?_); clear hK13
          refine cw_cond rfl (fun hc16 => ?_) (fun hc16 => ?_)
          ·
            replace hM := (ite_t hc16).symm.trans hM
            refine cw_region ?_
            refine ow_ev (ev_field_addr 2) ?_
            refine ow_ev (ev_load_own (b := b9)) ?_
            refine ow_ev (ev_field_addr 3) ?_
            refine ow_ev (ev_load_own (b := b9)) ?_
            refine ow_ev (ev_build [.int .i64 x7.B, .int .i64 x7.BEnd]) ?_
            refine ow_cons (st_store_all (b := b10) (vs := [.int .i64 x7.B, .int .i64 x7.BEnd]) (k := ?_))
            refine ow_nil (hJ4 ((x7.B, x7.BEnd), ()) _ _ hM ⟨rfl, rfl, rfl, rfl, rfl, rfl, trivial⟩ (fun w hm => hm.reord))
          ·
            replace hM := (ite_f hc16).symm.trans hM
            refine cw_seq fun K14 hK14 => ?_
            refine cw_region ?_
            refine ow_ev (ev_field_addr 2) ?_
            refine ow_ev (ev_load_own (b := b9)) ?_
            refine ow_ev (ev_field_addr 0) ?_
            refine ow_ev (ev_load_own (b := b3)) ?_
            refine ow_ev ev_eql ?_
            refine ow_ev ev_move ?_
            refine ow_evg rfl (ev_field_addr 3) ?_
            refine ow_evg rfl (ev_load_own (b := b9)) ?_
            refine ow_evg rfl (ev_field_addr 1) ?_
            refine ow_evg rfl (ev_load_own (b := b3)) ?_
            refine ow_evg rfl ev_eql ?_
            refine ow_ev ev_and ?_
            refine ow_ev ev_assign ?_
            refine ow_nil (hK14 _ _ ?_); clear hK14
            refine cw_cond rfl (fun hc17 => ?_) (fun hc17 => ?_)
            ·
              replace hM := (ite_t hc17).symm.trans hM
              refine cw_region ?_
              refine ow_ev (ev_field_addr 0) ?_
              refine ow_ev (ev_load_own (b := b9)) ?_
              refine ow_ev (ev_field_addr 1) ?_
              refine ow_ev (ev_load_own (b := b9)) ?_
              refine ow_ev (ev_build [.int .i64 x7.A, .int .i64 x7.AEnd]) ?_
              refine ow_cons (st_store_all (b := b10) (vs := [.int .i64 x7.A, .int .i64 x7.AEnd]) (k := ?_))
              refine ow_nil (hJ4 ((x7.A, x7.AEnd), ()) _ _ hM ⟨rfl, rfl, rfl, rfl, rfl, rfl, trivial⟩ (fun w hm => hm.reord))
            ·
              replace hM := (ite_f hc17).symm.trans hM
              refine cw_skip (hJ4 (((-1), 0), ()) _ _ hM ⟨rfl, rfl, rfl, rfl, rfl, rfl, trivial⟩ (fun w hm => hm.reord))
        ·
          clear hM
          intro g hM
          obtain ⟨⟨to_j4_0, to_j4_1⟩, ⟨⟩⟩ := g
          dsimp only at hM ⊢
          dsimp only [ref1_HopsOf_k4] at hM
          refine cw_seq fun K10 hK10 => ?_
          refine cw_region ?_
          refine ow_ev (ev_field_addr 0) ?_
          refine ow_ev (ev_load_own (b := b10)) ?_
          refine ow_ev ev_geq ?_
          refine ow_nil (hK10 _ _ ?_); clear hK10
          refine cw_cond rfl (fun hc11 => ?_) (fun hc11 => ?_)
          ·
            replace hM := (ite_t hc11).symm.trans hM
            refine cw_seq fun K11 hK11 => ?_
            refine cw_region ?_
            refine ow_ev ev_assign ?_
            refine ow_nil (hK11 _ _ ?_); clear hK11
            refine cw_cut (γ := Int × Unit) (env := fun (dir_j5, _) => [(2, .v (.pointer (some ⟨b1, 0, none⟩))), (5, .v (.pointer (some ⟨b3, 0, none⟩))), (6, .v (.slice rh_1.a lh_1.length rh_1.cap)), (7, .v (.int .i64 (i_1 : Int))), (8, .v (.pointer (some ⟨b9, 0, none⟩))), (9, .v (.pointer (some ⟨b10, 0, none⟩))), (10, .v (.int .i64 dir_j5))]) (mem := fun (dir_j5, _) => [imm (α := (List Str)) r_l0.1 l0.Stations, imm (α := (List Str)) r_l0.2.1 l0.Points, imm (α := (List Section)) r_l0.2.2.1 l0.Sections, imm (α := (List Link)) r_l0.2.2.2 l0.Links, own b1 26 [.slice r_l0.1.a l0.Stations.length r_l0.1.cap, .slice r_l0.2.1.a l0.Points.length r_l0.2.1.cap, .slice r_l0.2.2.1.a l0.Sections.length r_l0.2.2.1.cap, .slice r_l0.2.2.2.a l0.Links.length r_l0.2.2.2.cap], own b3 128 [.int .i64 s0.Section, .int .i64 out_j1_1], trow 52 rh_1 lh_1, own b9 72 [.int .i64 x7.A, .int .i64 x7.AEnd, .int .i64 x7.B, .int .i64 x7.BEnd, .int .i64 x7.Point, .int .i64 x7.Pos], own b10 128 [.int .i64 to_j4_0, .int .i64 to_j4_1]]) (R := fun g => ref1_HopsOf_k5 lh_1 to_j4_0 x7 i_1 cont1 g.1 = some y) ?_ ?_
            · intro KJ5 hJ5
              refine cw_seq fun K12 hK12 => ?_
              refine cw_region ?_
              refine ow_ev (ev_field_addr 1) ?_
              refine ow_ev (ev_load_own (b := b10)) ?_
              refine ow_ev ev_eql ?_
              refine ow_nil (hK12 _ _ ?_); clear hK12
              refine cw_cond rfl (fun hc15 => ?_) (fun hc15 => ?_)
              ·
                replace hM := (ite_t hc15).symm.trans hM
                refine cw_region ?_
                refine ow_ev ev_assign ?_
                refine ow_nil (hJ5 (1, ()) _ _ hM ⟨rfl, rfl, rfl, rfl, rfl, rfl, rfl, trivial⟩ (fun w hm => hm.reord))
              ·
                replace hM := (ite_f hc15).symm.trans hM
                refine cw_skip (hJ5 (0, ()) _ _ hM ⟨rfl, rfl, rfl, rfl, rfl, rfl, rfl, trivial⟩ (fun w hm => hm.reord))
            ·
              clear hM
              intro g hM
              obtain ⟨dir_j5, ⟨⟩⟩ := g
              dsimp only at hM ⊢
              dsimp only [ref1_HopsOf_k5] at hM
              refine cw_region ?_
              refine ow_ev ev_move ?_
              refine ow_ev (ev_field_addr 0) ?_
              refine ow_ev (ev_load_own (b := b10)) ?_
              refine ow_ev ev_move ?_
              refine ow_ev (ev_build [.int .i64 to_j4_0, .int .i64 dir_j5]) ?_
              refine ow_ev (ev_field_addr 4) ?_
              refine ow_ev (ev_load_own (b := b9)) ?_
              refine ow_ev (ev_field_addr 5) ?_
              refine ow_ev (ev_load_own (b := b9)) ?_
              refine ow_ev (ev_build [.int .i64 to_j4_0, .int .i64 dir_j5, .int .i64 x7.Point, .int .i64 x7.Pos]) ?_
              refine ow_cons (st_bslice (α := Hop) 52 (fun _ => ()) ([(Hop.mk (Step.mk to_j4_0 dir_j5) x7.Point x7.Pos)] : List Hop) (OkL.flat (fun _ _ _ _ => trivial)) (fun r12 => ?_))
              obtain ⟨hb14, hM⟩ := chk_some hM
              refine ow_cons (st_append (r := rh_1) (r2 := r12) (by intro r'; repeat (first | exact Upd.head | apply Upd.tail)) (Kn.trow (e := 52) (r := r12) (by repeat (first | exact Has.head | apply Has.tail))) (OkL.flat (fun _ _ _ _ => trivial)) (of_decide_eq_true hb14) (fun r13 => ?_))
              refine ow_ev ev_assign ?_
              refine ow_nil (hJ3 ((lh_1 ++ ([(Hop.mk (Step.mk to_j4_0 dir_j5) x7.Point x7.Pos)] : List Hop)), r13) _ _ hM ⟨rfl, rfl, rfl, rfl, trivial⟩ (fun w hm => hm.reord))
          ·
            replace hM := (ite_f hc11).symm.trans hM
            refine cw_skip (hJ3 (lh_1, rh_1) _ _ hM ⟨rfl, rfl, rfl, rfl, trivial⟩ (fun w hm => hm.reord))
      ·
        clear hM
        intro g hM
        obtain ⟨lh_j3, rh_j3⟩ := g
        dsimp only at hM ⊢
        dsimp only [ref1_HopsOf_k3] at hM
        refine cw_region ?_
        refine ow_ev ev_move ?_
        obtain ⟨hI6, hM⟩ := chk_some hM
        refine ow_ev (ev_add (hr := fun hg => i64b_I64 hI6)) ?_
        refine ow_ev ev_assign ?_
        refine ow_nil (hL1 (nn1, (lh_j3, i_1 + 1), rh_j3) _ _ (eqc hcont1 hM) (Nat.lt_succ_self _) ⟨rfl, rfl, rfl, rfl, trivial⟩ (fun w hm => hm.reord))
    ·
      replace hM := (ite_f hc5).symm.trans hM
      refine cw_exit (hK4 _ _ ?_); clear hK4
      dsimp only [ref1_HopsOf_k2] at hM
      refine cw_seq fun K15 hK15 => ?_
      refine cw_region ?_
      refine ow_ev ev_move ?_
      refine ow_ev ev_assign ?_
      refine ow_nil (hK15 _ _ ?_); clear hK15
      obtain rfl := some_inj hM
      refine cw_ret (kw_retc1 (fun w hm => post_of rh_1 hm rfl))

def ref1_Hops_m (l0 : Layout) (s0 : Step) : Option (List Hop) :=
  (ref1_HasStep_m l0 s0).bind fun y3 =>
  if (!y3) then
    (some ([] : List Hop))
  else
    ((ref1_HopsOf_m l0 s0).bind fun y7 =>
    some y7)
theorem ref1_Hops_spec (S : Soup) (w : World) (l0 : Layout) (r_l0 : GoRep.R Layout) (s0 : Step) (y : (List Hop)) (hM : ref1_Hops_m l0 s0 = some y) (hS : ∀ k, S k → k < w.heap.size) (h_l0 : GoRep.ok S w r_l0 l0) :
    Calls Tryd.prog 31 #[.agg #[.slice r_l0.1.a l0.Stations.length r_l0.1.cap, .slice r_l0.2.1.a l0.Points.length r_l0.2.1.cap, .slice r_l0.2.2.1.a l0.Sections.length r_l0.2.2.1.cap, .slice r_l0.2.2.2.a l0.Links.length r_l0.2.2.2.cap], .agg #[.int .i64 s0.Section, .int .i64 s0.Dir]] w (Post (β := (GoRep.R (List Hop))) S [] (fun g => .slice g.a y.length g.cap) (fun g => [trow 52 g y]) w) := by
  refine calls_cw (args := [_, _]) Tryd.func31 rfl ((pre_nil hS).start |>.immP (α := List Str) (r := r_l0.1) (x := l0.Stations) h_l0.1|>.immP (α := List Str) (r := r_l0.2.1) (x := l0.Points) h_l0.2.1|>.immP (α := List Section) (r := r_l0.2.2.1) (x := l0.Sections) h_l0.2.2.1|>.immP (α := List Link) (r := r_l0.2.2.2) (x := l0.Links) h_l0.2.2.2) rfl ?_
  unfold ref1_Hops_m at hM
  refine cw_seq fun K1 hK1 => ?_
  refine cw_region ?_
  refine ow_cons (st_box (l := [.slice r_l0.1.a l0.Stations.length r_l0.1.cap, .slice r_l0.2.1.a l0.Points.length r_l0.2.1.cap, .slice r_l0.2.2.1.a l0.Sections.length r_l0.2.2.1.cap, .slice r_l0.2.2.2.a l0.Links.length r_l0.2.2.2.cap]) (k := fun b1 => ?_))
  refine ow_cons (st_box (l := [.int .i64 s0.Section, .int .i64 s0.Dir]) (k := fun b2 => ?_))
  refine ow_ev ev_assign ?_
  refine ow_nil (hK1 _ _ ?_); clear hK1
  refine cw_seq fun K2 hK2 => ?_
  refine cw_seq fun K3 hK3 => ?_
  refine cw_region ?_
  refine ow_ev (ev_load_all (b := b1)) ?_
  refine ow_ev (ev_load_all (b := b2)) ?_
  obtain ⟨y3, hy4, hM⟩ := bind_some hM
  refine ow_cons (st_callv (fun w hm => let ⟨S, hs⟩ := hm; ref1_HasStep_spec _ w l0 r_l0 s0 y3 hy4 (lend_lt hs) ⟨(Kn.lend (Kn.imm (α := List Str) (r := r_l0.1) (x := l0.Stations) (by repeat (first | exact Has.head | apply Has.tail))) hs), (Kn.lend (Kn.imm (α := List Str) (r := r_l0.2.1) (x := l0.Points) (by repeat (first | exact Has.head | apply Has.tail))) hs), (Kn.lend (Kn.imm (α := List Section) (r := r_l0.2.2.1) (x := l0.Sections) (by repeat (first | exact Has.head | apply Has.tail))) hs), (Kn.lend (Kn.imm (α := List Link) (r := r_l0.2.2.2) (x := l0.Links) (by repeat (first | exact Has.head | apply Has.tail))) hs)⟩) ?_)
  refine ow_ev ev_not ?_
  refine ow_nil (hK3 _ _ ?_); clear hK3
  refine cw_cond rfl (fun hc5 => ?_) (fun hc5 => ?_)
  ·
    replace hM := (ite_t hc5).symm.trans hM
    refine cw_seq fun K4 hK4 => ?_
    refine cw_region ?_
    refine ow_ev ev_assign ?_
    refine ow_nil (hK4 _ _ ?_); clear hK4
    refine cw_imp (fun w hm => hm.row_nil (α := Hop) 52 (fun _ => ())) ?_
    obtain rfl := some_inj hM
    refine cw_ret (kw_retc1 (fun w hm => post_of (⟨none, 0, (fun _ => ())⟩ : SR (GoRep.R Hop) ) hm rfl))
  ·
    replace hM := (ite_f hc5).symm.trans hM
    refine cw_skip (hK2 _ _ ?_); clear hK2
    refine cw_seq fun K5 hK5 => ?_
    refine cw_region ?_
    refine ow_ev (ev_load_all (b := b1)) ?_
    refine ow_ev (ev_load_all (b := b2)) ?_
    obtain ⟨y7, hy8, hM⟩ := bind_some hM
    refine ow_cons (st_callF SelL.nil (fun S w hs hP => ref1_HopsOf_spec _ w l0 r_l0 s0 y7 hy8 (lend_lt hs) ⟨(Kn.lend (Kn.imm (α := List Str) (r := r_l0.1) (x := l0.Stations) (by repeat (first | exact Has.head | apply Has.tail))) hs), (Kn.lend (Kn.imm (α := List Str) (r := r_l0.2.1) (x := l0.Points) (by repeat (first | exact Has.head | apply Has.tail))) hs), (Kn.lend (Kn.imm (α := List Section) (r := r_l0.2.2.1) (x := l0.Sections) (by repeat (first | exact Has.head | apply Has.tail))) hs), (Kn.lend (Kn.imm (α := List Link) (r := r_l0.2.2.2) (x := l0.Links) (by repeat (first | exact Has.head | apply Has.tail))) hs)⟩) (by intro r c hc; simp only [List.mem_cons, List.not_mem_nil, or_false] at hc; rcases hc with rfl <;> first | exact flatC_own | exact flatC_trow (fun _ _ _ _ => trivial)) (fun r9 => ?_))
    dsimp only [List.cons_append, List.nil_append]
    refine ow_ev ev_assign ?_
    refine ow_nil (hK5 _ _ ?_); clear hK5
    obtain rfl := some_inj hM
    refine cw_ret (kw_retc1 (fun w hm => post_of r9 hm rfl))

def ref1_Resources_m (l0 : Layout) : Option Int :=
  (ref1_Check_m l0).bind fun y2 =>
  if decide (y2 ≠ 0) then
    (some 0)
  else
    (chk (i64b ((l0.Sections.length : Int) + (l0.Points.length : Int))) <|
    some ((l0.Sections.length : Int) + (l0.Points.length : Int)))
theorem ref1_Resources_spec (S : Soup) (w : World) (l0 : Layout) (r_l0 : GoRep.R Layout) (y : Int) (hM : ref1_Resources_m l0 = some y) (hS : ∀ k, S k → k < w.heap.size) (h_l0 : GoRep.ok S w r_l0 l0) :
    Calls Tryd.prog 32 #[.agg #[.slice r_l0.1.a l0.Stations.length r_l0.1.cap, .slice r_l0.2.1.a l0.Points.length r_l0.2.1.cap, .slice r_l0.2.2.1.a l0.Sections.length r_l0.2.2.1.cap, .slice r_l0.2.2.2.a l0.Links.length r_l0.2.2.2.cap]] w (Ret w (.int .i64 y)) := by
  refine calls_cw (args := [_]) Tryd.func32 rfl ((pre_nil hS).start |>.immP (α := List Str) (r := r_l0.1) (x := l0.Stations) h_l0.1|>.immP (α := List Str) (r := r_l0.2.1) (x := l0.Points) h_l0.2.1|>.immP (α := List Section) (r := r_l0.2.2.1) (x := l0.Sections) h_l0.2.2.1|>.immP (α := List Link) (r := r_l0.2.2.2) (x := l0.Links) h_l0.2.2.2) rfl ?_
  unfold ref1_Resources_m at hM
  refine cw_seq fun K1 hK1 => ?_
  refine cw_region ?_
  refine ow_cons (st_box (l := [.slice r_l0.1.a l0.Stations.length r_l0.1.cap, .slice r_l0.2.1.a l0.Points.length r_l0.2.1.cap, .slice r_l0.2.2.1.a l0.Sections.length r_l0.2.2.1.cap, .slice r_l0.2.2.2.a l0.Links.length r_l0.2.2.2.cap]) (k := fun b1 => ?_))
  refine ow_ev ev_assign ?_
  refine ow_nil (hK1 _ _ ?_); clear hK1
  refine cw_seq fun K2 hK2 => ?_
  refine cw_seq fun K3 hK3 => ?_
  refine cw_region ?_
  refine ow_ev (ev_load_all (b := b1)) ?_
  obtain ⟨y2, hy3, hM⟩ := bind_some hM
  refine ow_cons (st_callv (fun w hm => let ⟨S, hs⟩ := hm; ref1_Check_spec _ w l0 r_l0 y2 hy3 (lend_lt hs) ⟨(Kn.lend (Kn.imm (α := List Str) (r := r_l0.1) (x := l0.Stations) (by repeat (first | exact Has.head | apply Has.tail))) hs), (Kn.lend (Kn.imm (α := List Str) (r := r_l0.2.1) (x := l0.Points) (by repeat (first | exact Has.head | apply Has.tail))) hs), (Kn.lend (Kn.imm (α := List Section) (r := r_l0.2.2.1) (x := l0.Sections) (by repeat (first | exact Has.head | apply Has.tail))) hs), (Kn.lend (Kn.imm (α := List Link) (r := r_l0.2.2.2) (x := l0.Links) (by repeat (first | exact Has.head | apply Has.tail))) hs)⟩) ?_)
  refine ow_ev ev_neq ?_
  refine ow_nil (hK3 _ _ ?_); clear hK3
  refine cw_cond rfl (fun hc4 => ?_) (fun hc4 => ?_)
  ·
    replace hM := (ite_t hc4).symm.trans hM
    refine cw_seq fun K4 hK4 => ?_
    refine cw_region ?_
    refine ow_ev ev_assign ?_
    refine ow_nil (hK4 _ _ ?_); clear hK4
    obtain rfl := some_inj hM
    refine cw_ret (kw_retc1 (fun w hm => ret_of hm rfl))
  ·
    replace hM := (ite_f hc4).symm.trans hM
    refine cw_skip (hK2 _ _ ?_); clear hK2
    refine cw_seq fun K5 hK5 => ?_
    refine cw_region ?_
    refine ow_ev (ev_field_addr 2) ?_
    refine ow_ev (ev_load_own (b := b1)) ?_
    refine ow_ev ev_len ?_
    refine ow_ev (ev_field_addr 1) ?_
    refine ow_ev (ev_load_own (b := b1)) ?_
    refine ow_ev ev_len ?_
    obtain ⟨hI5, hM⟩ := chk_some hM
    refine ow_ev (ev_add (hr := fun hg => i64b_I64 hI5)) ?_
    refine ow_ev ev_assign ?_
    refine ow_nil (hK5 _ _ ?_); clear hK5
    obtain rfl := some_inj hM
    refine cw_ret (kw_retc1 (fun w hm => ret_of hm rfl))

def ref1_Format_k4 (i_3 : Nat) (cont3 : (Str × Nat) → Option Str) : Str → Option Str := fun s_j4 =>
  (strCat s_j4 (⟨[10]⟩ : Str)).bind fun q51 =>
  chk (i64b ((i_3 : Int) + 1)) <|
  cont3 (q51, i_3 + 1)
def ref1_Format_k6 (i_4 : Nat) (cont4 : (Str × Nat) → Option Str) : Str → Option Str := fun s_j6 =>
  (strCat s_j6 (⟨[10]⟩ : Str)).bind fun q91 =>
  chk (i64b ((i_4 : Int) + 1)) <|
  cont4 (q91, i_4 + 1)
def ref1_Format_k5 (s_4 : Str) : Unit → Option Str := fun _ =>
  some s_4
def ref1_Format_b4 (l0 : Layout) (cont4 : (Str × Nat) → Option Str) : (Str × Nat) → Option Str := fun (s_4, i_4) =>
  if decide ((i_4 : Int) < (l0.Links.length : Int)) then
    ((idx l0.Links (i_4 : Int)).bind fun x62 =>
    (idx l0.Sections x62.A).bind fun x65 =>
    (strCat (⟨[108, 105, 110, 107, 32]⟩ : Str) x65.Name).bind fun q67 =>
    (strCat q67 (⟨[32]⟩ : Str)).bind fun q69 =>
    chk (i64b (x62.AEnd + 1)) <|
    (strSub (⟨[65, 66]⟩ : Str) x62.AEnd (x62.AEnd + 1)).bind fun q72 =>
    (strCat q69 q72).bind fun q74 =>
    (strCat q74 (⟨[32]⟩ : Str)).bind fun q76 =>
    (idx l0.Sections x62.B).bind fun x78 =>
    (strCat q76 x78.Name).bind fun q80 =>
    (strCat q80 (⟨[32]⟩ : Str)).bind fun q82 =>
    chk (i64b (x62.BEnd + 1)) <|
    (strSub (⟨[65, 66]⟩ : Str) x62.BEnd (x62.BEnd + 1)).bind fun q85 =>
    (strCat q82 q85).bind fun q87 =>
    (strCat s_4 q87).bind fun q89 =>
    if decide (0 ≤ x62.Point) then
      ((idx l0.Points x62.Point).bind fun x95 =>
      (strCat (⟨[32]⟩ : Str) x95).bind fun q97 =>
      (strCat q97 (⟨[32]⟩ : Str)).bind fun q99 =>
      (ref1_Decimal_m x62.Pos).bind fun y101 =>
      (strCat q99 y101).bind fun q103 =>
      (strCat q89 q103).bind fun q105 =>
      ref1_Format_k6 i_4 cont4 q105)
    else
      (ref1_Format_k6 i_4 cont4 q89))
  else
    (ref1_Format_k5 s_4 ())
def ref1_Format_k3 (l0 : Layout) (s_3 : Str) : Unit → Option Str := fun _ =>
  iter (ref1_Format_b4 l0) FUEL (s_3, 0)
def ref1_Format_b3 (l0 : Layout) (cont3 : (Str × Nat) → Option Str) : (Str × Nat) → Option Str := fun (s_3, i_3) =>
  if decide ((i_3 : Int) < (l0.Sections.length : Int)) then
    ((idx l0.Sections (i_3 : Int)).bind fun x26 =>
    (strCat (⟨[115, 101, 99, 116, 105, 111, 110, 32]⟩ : Str) x26.Name).bind fun q29 =>
    (strCat q29 (⟨[32]⟩ : Str)).bind fun q31 =>
    (ref1_Decimal_m x26.Length).bind fun y33 =>
    (strCat q31 y33).bind fun q35 =>
    (strCat q35 (⟨[32]⟩ : Str)).bind fun q37 =>
    (ref1_Decimal_m x26.Limit).bind fun y39 =>
    (strCat q37 y39).bind fun q41 =>
    (strCat q41 (⟨[32]⟩ : Str)).bind fun q43 =>
    (ref1_Decimal_m x26.Grade).bind fun y45 =>
    (strCat q43 y45).bind fun q47 =>
    (strCat s_3 q47).bind fun q49 =>
    if decide (0 ≤ x26.Station) then
      ((idx l0.Stations x26.Station).bind fun x55 =>
      (strCat (⟨[32, 97, 116, 32]⟩ : Str) x55).bind fun q57 =>
      (strCat q49 q57).bind fun q59 =>
      ref1_Format_k4 i_3 cont3 q59)
    else
      (ref1_Format_k4 i_3 cont3 q49))
  else
    (ref1_Format_k3 l0 s_3 ())
def ref1_Format_k2 (l0 : Layout) (s_2 : Str) : Unit → Option Str := fun _ =>
  iter (ref1_Format_b3 l0) FUEL (s_2, 0)
def ref1_Format_b2 (l0 : Layout) (cont2 : (Str × Nat) → Option Str) : (Str × Nat) → Option Str := fun (s_2, i_2) =>
  if decide ((i_2 : Int) < (l0.Points.length : Int)) then
    ((idx l0.Points (i_2 : Int)).bind fun x16 =>
    (strCat (⟨[112, 111, 105, 110, 116, 32]⟩ : Str) x16).bind fun q18 =>
    (strCat q18 (⟨[10]⟩ : Str)).bind fun q20 =>
    (strCat s_2 q20).bind fun q22 =>
    chk (i64b ((i_2 : Int) + 1)) <|
    cont2 (q22, i_2 + 1))
  else
    (ref1_Format_k2 l0 s_2 ())
def ref1_Format_k1 (l0 : Layout) (s_1 : Str) : Unit → Option Str := fun _ =>
  iter (ref1_Format_b2 l0) FUEL (s_1, 0)
def ref1_Format_b1 (l0 : Layout) (cont1 : (Str × Nat) → Option Str) : (Str × Nat) → Option Str := fun (s_1, i_1) =>
  if decide ((i_1 : Int) < (l0.Stations.length : Int)) then
    ((idx l0.Stations (i_1 : Int)).bind fun x6 =>
    (strCat (⟨[115, 116, 97, 116, 105, 111, 110, 32]⟩ : Str) x6).bind fun q8 =>
    (strCat q8 (⟨[10]⟩ : Str)).bind fun q10 =>
    (strCat s_1 q10).bind fun q12 =>
    chk (i64b ((i_1 : Int) + 1)) <|
    cont1 (q12, i_1 + 1))
  else
    (ref1_Format_k1 l0 s_1 ())
def ref1_Format_m (l0 : Layout) : Option Str :=
  (ref1_Check_m l0).bind fun y2 =>
  if decide (y2 ≠ 0) then
    (some (⟨[]⟩ : Str))
  else
    (iter (ref1_Format_b1 l0) FUEL ((⟨[]⟩ : Str), 0))
theorem ref1_Format_spec (S : Soup) (w : World) (l0 : Layout) (r_l0 : GoRep.R Layout) (y : Str) (hM : ref1_Format_m l0 = some y) (hS : ∀ k, S k → k < w.heap.size) (h_l0 : GoRep.ok S w r_l0 l0) :
    Calls Tryd.prog 17 #[.agg #[.slice r_l0.1.a l0.Stations.length r_l0.1.cap, .slice r_l0.2.1.a l0.Points.length r_l0.2.1.cap, .slice r_l0.2.2.1.a l0.Sections.length r_l0.2.2.1.cap, .slice r_l0.2.2.2.a l0.Links.length r_l0.2.2.2.cap]] w (Ret w (.string y.ba)) := by
  refine calls_cw (args := [_]) Tryd.func17 rfl ((pre_nil hS).start |>.immP (α := List Str) (r := r_l0.1) (x := l0.Stations) h_l0.1|>.immP (α := List Str) (r := r_l0.2.1) (x := l0.Points) h_l0.2.1|>.immP (α := List Section) (r := r_l0.2.2.1) (x := l0.Sections) h_l0.2.2.1|>.immP (α := List Link) (r := r_l0.2.2.2) (x := l0.Links) h_l0.2.2.2) rfl ?_
  unfold ref1_Format_m at hM
  refine cw_seq fun K1 hK1 => ?_
  refine cw_region ?_
  refine ow_cons (st_box (l := [.slice r_l0.1.a l0.Stations.length r_l0.1.cap, .slice r_l0.2.1.a l0.Points.length r_l0.2.1.cap, .slice r_l0.2.2.1.a l0.Sections.length r_l0.2.2.1.cap, .slice r_l0.2.2.2.a l0.Links.length r_l0.2.2.2.cap]) (k := fun b1 => ?_))
  refine ow_ev ev_assign ?_
  refine ow_nil (hK1 _ _ ?_); clear hK1
  refine cw_seq fun K2 hK2 => ?_
  refine cw_seq fun K3 hK3 => ?_
  refine cw_region ?_
  refine ow_ev (ev_load_all (b := b1)) ?_
  obtain ⟨y2, hy3, hM⟩ := bind_some hM
  refine ow_cons (st_callv (fun w hm => let ⟨S, hs⟩ := hm; ref1_Check_spec _ w l0 r_l0 y2 hy3 (lend_lt hs) ⟨(Kn.lend (Kn.imm (α := List Str) (r := r_l0.1) (x := l0.Stations) (by repeat (first | exact Has.head | apply Has.tail))) hs), (Kn.lend (Kn.imm (α := List Str) (r := r_l0.2.1) (x := l0.Points) (by repeat (first | exact Has.head | apply Has.tail))) hs), (Kn.lend (Kn.imm (α := List Section) (r := r_l0.2.2.1) (x := l0.Sections) (by repeat (first | exact Has.head | apply Has.tail))) hs), (Kn.lend (Kn.imm (α := List Link) (r := r_l0.2.2.2) (x := l0.Links) (by repeat (first | exact Has.head | apply Has.tail))) hs)⟩) ?_)
  refine ow_ev ev_neq ?_
  refine ow_nil (hK3 _ _ ?_); clear hK3
  refine cw_cond rfl (fun hc4 => ?_) (fun hc4 => ?_)
  ·
    replace hM := (ite_t hc4).symm.trans hM
    refine cw_seq fun K4 hK4 => ?_
    refine cw_region ?_
    refine ow_ev ev_assign ?_
    refine ow_nil (hK4 _ _ ?_); clear hK4
    obtain rfl := some_inj hM
    refine cw_ret (kw_retc1 (fun w hm => ret_of hm rfl))
  ·
    replace hM := (ite_f hc4).symm.trans hM
    refine cw_skip (hK2 _ _ ?_); clear hK2
    refine cw_seq fun K5 hK5 => ?_
    refine cw_region ?_
    refine ow_ev ev_assign ?_
    refine ow_nil (hK5 _ _ ?_); clear hK5
    refine cw_seq fun K6 hK6 => ?_
    refine cw_seq fun K7 hK7 => ?_
    refine cw_region ?_
    refine ow_ev ev_assign ?_
    refine ow_nil (hK7 _ _ ?_); clear hK7
    refine cw_block ?_
    refine cw_loop (γ := Nat × (Str × Nat) × Unit) (env := fun (_, (s_1, i_1), _) => [(1, .v (.pointer (some ⟨b1, 0, none⟩))), (3, .v (.string s_1.ba)), (4, .v (.int .i64 (i_1 : Int)))]) (mem := fun (_, (s_1, i_1), _) => [imm (α := (List Str)) r_l0.1 l0.Stations, imm (α := (List Str)) r_l0.2.1 l0.Points, imm (α := (List Section)) r_l0.2.2.1 l0.Sections, imm (α := (List Link)) r_l0.2.2.2 l0.Links, own b1 26 [.slice r_l0.1.a l0.Stations.length r_l0.1.cap, .slice r_l0.2.1.a l0.Points.length r_l0.2.1.cap, .slice r_l0.2.2.1.a l0.Sections.length r_l0.2.2.1.cap, .slice r_l0.2.2.2.a l0.Links.length r_l0.2.2.2.cap]]) (R := fun g => iter (ref1_Format_b1 l0) g.1 g.2.1 = some y) (μ := fun g => g.1) (FUEL, ((⟨[]⟩ : Str), 0), ()) hM ⟨rfl, rfl, rfl, trivial⟩ (fun w hm => hm.reord) ?_
    clear hM
    intro g hM KL1 hL1
    obtain ⟨nn1, ⟨s_1, i_1⟩, ⟨⟩⟩ := g
    dsimp only at hM ⊢
    obtain ⟨nn1, cont1, rfl, hcont1, hM⟩ := iter_open' hM
    dsimp only [ref1_Format_b1] at hM
    refine cw_seq fun K8 hK8 => ?_
    refine cw_seq fun K9 hK9 => ?_
    refine cw_region ?_
    refine ow_ev ev_move ?_
    refine ow_ev (ev_field_addr 0) ?_
    refine ow_ev (ev_load_own (b := b1)) ?_
    refine ow_ev ev_len ?_
    refine ow_ev ev_lss ?_
    refine ow_nil (hK9 _ _ ?_); clear hK9
    refine cw_cond rfl (fun hc5 => ?_) (fun hc5 => ?_)
    ·
      replace hM := (ite_t hc5).symm.trans hM
      refine cw_skip (hK8 _ _ ?_); clear hK8
      refine cw_seq fun K10 hK10 => ?_
      refine cw_block ?_
      refine cw_region ?_
      refine ow_ev ev_move ?_
      refine ow_ev (ev_field_addr 0) ?_
      refine ow_ev (ev_load_own (b := b1)) ?_
      refine ow_ev ev_move ?_
      obtain ⟨x6, hx7, hM⟩ := bind_some hM
      refine ow_ev (ev_idx (xs := l0.Stations) 1 (Kn.imm (α := List Str) (r := r_l0.1) (x := l0.Stations) (by repeat (first | exact Has.head | apply Has.tail))) (fun hg => let h := idx_some hx7; ⟨h.1, h.2.1⟩)) ?_
      refine ow_ev (ev_ld (i := (i_1 : Int)) (xs := l0.Stations) (y := x6) 0 (Kn.imm (α := List Str) (r := r_l0.1) (x := l0.Stations) (by repeat (first | exact Has.head | apply Has.tail))) (fun _ => hx7)) ?_
      obtain ⟨q8, hq9, hM⟩ := bind_some hM
      refine ow_ev (ev_scat (fun _ => hq9)) ?_
      obtain ⟨q10, hq11, hM⟩ := bind_some hM
      refine ow_ev (ev_scat (fun _ => hq11)) ?_
      obtain ⟨q12, hq13, hM⟩ := bind_some hM
      refine ow_ev (ev_scat (fun _ => hq13)) ?_
      refine ow_ev ev_assign ?_
      refine ow_nil (hK10 _ _ ?_); clear hK10
      refine cw_region ?_
      refine ow_ev ev_move ?_
      obtain ⟨hI14, hM⟩ := chk_some hM
      refine ow_ev (ev_add (hr := fun hg => i64b_I64 hI14)) ?_
      refine ow_ev ev_assign ?_
      refine ow_nil (hL1 (nn1, (q12, i_1 + 1), ()) _ _ (eqc hcont1 hM) (Nat.lt_succ_self _) ⟨rfl, rfl, rfl, trivial⟩ (fun w hm => hm.reord))
    ·
      replace hM := (ite_f hc5).symm.trans hM
      refine cw_exit (hK6 _ _ ?_); clear hK6
      dsimp only [ref1_Format_k1] at hM
      refine cw_seq fun K11 hK11 => ?_
      refine cw_seq fun K12 hK12 => ?_
      refine cw_region ?_
      refine ow_ev ev_assign ?_
      refine ow_nil (hK12 _ _ ?_); clear hK12
      refine cw_block ?_
      refine cw_loop (γ := Nat × (Str × Nat) × Unit) (env := fun (_, (s_2, i_2), _) => [(1, .v (.pointer (some ⟨b1, 0, none⟩))), (3, .v (.string s_2.ba)), (5, .v (.int .i64 (i_2 : Int)))]) (mem := fun (_, (s_2, i_2), _) => [imm (α := (List Str)) r_l0.1 l0.Stations, imm (α := (List Str)) r_l0.2.1 l0.Points, imm (α := (List Section)) r_l0.2.2.1 l0.Sections, imm (α := (List Link)) r_l0.2.2.2 l0.Links, own b1 26 [.slice r_l0.1.a l0.Stations.length r_l0.1.cap, .slice r_l0.2.1.a l0.Points.length r_l0.2.1.cap, .slice r_l0.2.2.1.a l0.Sections.length r_l0.2.2.1.cap, .slice r_l0.2.2.2.a l0.Links.length r_l0.2.2.2.cap]]) (R := fun g => iter (ref1_Format_b2 l0) g.1 g.2.1 = some y) (μ := fun g => g.1) (FUEL, (s_1, 0), ()) hM ⟨rfl, rfl, rfl, trivial⟩ (fun w hm => hm.reord) ?_
      clear hM
      intro g hM KL2 hL2
      obtain ⟨nn2, ⟨s_2, i_2⟩, ⟨⟩⟩ := g
      dsimp only at hM ⊢
      obtain ⟨nn2, cont2, rfl, hcont2, hM⟩ := iter_open' hM
      dsimp only [ref1_Format_b2] at hM
      refine cw_seq fun K13 hK13 => ?_
      refine cw_seq fun K14 hK14 => ?_
      refine cw_region ?_
      refine ow_ev ev_move ?_
      refine ow_ev (ev_field_addr 1) ?_
      refine ow_ev (ev_load_own (b := b1)) ?_
      refine ow_ev ev_len ?_
      refine ow_ev ev_lss ?_
      refine ow_nil (hK14 _ _ ?_); clear hK14
      refine cw_cond rfl (fun hc15 => ?_) (fun hc15 => ?_)
      ·
        replace hM := (ite_t hc15).symm.trans hM
        refine cw_skip (hK13 _ _ ?_); clear hK13
        refine cw_seq fun K15 hK15 => ?_
        refine cw_block ?_
        refine cw_region ?_
        refine ow_ev ev_move ?_
        refine ow_ev (ev_field_addr 1) ?_
        refine ow_ev (ev_load_own (b := b1)) ?_
        refine ow_ev ev_move ?_
        obtain ⟨x16, hx17, hM⟩ := bind_some hM
        refine ow_ev (ev_idx (xs := l0.Points) 1 (Kn.imm (α := List Str) (r := r_l0.2.1) (x := l0.Points) (by repeat (first | exact Has.head | apply Has.tail))) (fun hg => let h := idx_some hx17; ⟨h.1, h.2.1⟩)) ?_
        refine ow_ev (ev_ld (i := (i_2 : Int)) (xs := l0.Points) (y := x16) 0 (Kn.imm (α := List Str) (r := r_l0.2.1) (x := l0.Points) (by repeat (first | exact Has.head | apply Has.tail))) (fun _ => hx17)) ?_
        obtain ⟨q18, hq19, hM⟩ := bind_some hM
        refine ow_ev (ev_scat (fun _ => hq19)) ?_
        obtain ⟨q20, hq21, hM⟩ := bind_some hM
        refine ow_ev (ev_scat (fun _ => hq21)) ?_
        obtain ⟨q22, hq23, hM⟩ := bind_some hM
        refine ow_ev (ev_scat (fun _ => hq23)) ?_
        refine ow_ev ev_assign ?_
        refine ow_nil (hK15 _ _ ?_); clear hK15
        refine cw_region ?_
        refine ow_ev ev_move ?_
        obtain ⟨hI24, hM⟩ := chk_some hM
        refine ow_ev (ev_add (hr := fun hg => i64b_I64 hI24)) ?_
        refine ow_ev ev_assign ?_
        refine ow_nil (hL2 (nn2, (q22, i_2 + 1), ()) _ _ (eqc hcont2 hM) (Nat.lt_succ_self _) ⟨rfl, rfl, rfl, trivial⟩ (fun w hm => hm.reord))
      ·
        replace hM := (ite_f hc15).symm.trans hM
        refine cw_exit (hK11 _ _ ?_); clear hK11
        dsimp only [ref1_Format_k2] at hM
        refine cw_seq fun K16 hK16 => ?_
        refine cw_seq fun K17 hK17 => ?_
        refine cw_region ?_
        refine ow_ev ev_assign ?_
        refine ow_nil (hK17 _ _ ?_); clear hK17
        refine cw_block ?_
        refine cw_loop (γ := Nat × (Str × Nat) × Unit) (env := fun (_, (s_3, i_3), _) => [(1, .v (.pointer (some ⟨b1, 0, none⟩))), (3, .v (.string s_3.ba)), (6, .v (.int .i64 (i_3 : Int)))]) (mem := fun (_, (s_3, i_3), _) => [imm (α := (List Str)) r_l0.1 l0.Stations, imm (α := (List Str)) r_l0.2.1 l0.Points, imm (α := (List Section)) r_l0.2.2.1 l0.Sections, imm (α := (List Link)) r_l0.2.2.2 l0.Links, own b1 26 [.slice r_l0.1.a l0.Stations.length r_l0.1.cap, .slice r_l0.2.1.a l0.Points.length r_l0.2.1.cap, .slice r_l0.2.2.1.a l0.Sections.length r_l0.2.2.1.cap, .slice r_l0.2.2.2.a l0.Links.length r_l0.2.2.2.cap]]) (R := fun g => iter (ref1_Format_b3 l0) g.1 g.2.1 = some y) (μ := fun g => g.1) (FUEL, (s_2, 0), ()) hM ⟨rfl, rfl, rfl, trivial⟩ (fun w hm => hm.reord) ?_
        clear hM
        intro g hM KL3 hL3
        obtain ⟨nn3, ⟨s_3, i_3⟩, ⟨⟩⟩ := g
        dsimp only at hM ⊢
        obtain ⟨nn3, cont3, rfl, hcont3, hM⟩ := iter_open' hM
        dsimp only [ref1_Format_b3] at hM
        refine cw_seq fun K18 hK18 => ?_
        refine cw_seq fun K19 hK19 => ?_
        refine cw_region ?_
        refine ow_ev ev_move ?_
        refine ow_ev (ev_field_addr 2) ?_
        refine ow_ev (ev_load_own (b := b1)) ?_
        refine ow_ev ev_len ?_
        refine ow_ev ev_lss ?_
        refine ow_nil (hK19 _ _ ?_); clear hK19
        refine cw_cond rfl (fun hc25 => ?_) (fun hc25 => ?_)
        ·
          replace hM := (ite_t hc25).symm.trans hM
          refine cw_skip (hK18 _ _ ?_); clear hK18
          refine cw_seq fun K20 hK20 => ?_
          refine cw_block ?_
          refine cw_seq fun K21 hK21 => ?_
          refine cw_region ?_
          refine ow_ev (ev_field_addr 2) ?_
          refine ow_ev (ev_load_own (b := b1)) ?_
          refine ow_ev ev_move ?_
          obtain ⟨x26, hx27, hM⟩ := bind_some hM
          refine ow_ev (ev_idx (xs := l0.Sections) 5 (Kn.imm (α := List Section) (r := r_l0.2.2.1) (x := l0.Sections) (by repeat (first | exact Has.head | apply Has.tail))) (fun hg => let h := idx_some hx27; ⟨h.1, h.2.1⟩)) ?_
          refine ow_ev (ev_lds (m := 5) (i := (i_3 : Int)) (xs := l0.Sections) (y := x26) (l := [.string x26.Name.ba, .int .i64 x26.Length, .int .i64 x26.Limit, .int .i64 x26.Grade, .int .i64 x26.Station]) 0 (Kn.imm (α := List Section) (r := r_l0.2.2.1) (x := l0.Sections) (by repeat (first | exact Has.head | apply Has.tail))) (fun _ => hx27)) ?_
          refine ow_cons (st_alloc rfl (k := fun b28 => ?_))
          refine ow_cons (st_store_all (b := b28) (vs := [.string x26.Name.ba, .int .i64 x26.Length, .int .i64 x26.Limit, .int .i64 x26.Grade, .int .i64 x26.Station]) (k := ?_))
          refine ow_nil (hK21 _ _ ?_); clear hK21
          refine cw_seq fun K22 hK22 => ?_
          refine cw_region_any _ (List.Sublist.refl _) ?_
          refine aw_ev 0 rfl ev_move ?_
          refine aw_ev 1 rfl (ev_field_addr 0) ?_
          refine aw_ev 2 rfl (ev_load_own (b := b28)) ?_
          obtain ⟨q29, hq30, hM⟩ := bind_some hM
          refine aw_ev 3 rfl (ev_scat (fun _ => hq30)) ?_
          obtain ⟨q31, hq32, hM⟩ := bind_some hM
          refine aw_ev 4 rfl (ev_scat (fun _ => hq32)) ?_
          refine aw_ev 5 rfl (ev_field_addr 1) ?_
          refine aw_ev 6 rfl (ev_load_own (b := b28)) ?_
          refine aw_ev 10 rfl (ev_field_addr 2) ?_
          refine aw_ev 11 rfl (ev_load_own (b := b28)) ?_
          refine aw_ev 15 rfl (ev_field_addr 3) ?_
          refine aw_ev 16 rfl (ev_load_own (b := b28)) ?_
          obtain ⟨y33, hy34, hM⟩ := bind_some hM
          refine aw_one 7 rfl (st_callv (fun w hm => let ⟨S, hs⟩ := hm; ref1_Decimal_spec _ w x26.Length y33 hy34 (lend_lt hs) ) ⟨fun w hm => hm.sub (by repeat (first | exact List.Sublist.refl _ | apply List.Sublist.cons_cons | apply List.Sublist.cons)), ?_⟩)
          obtain ⟨q35, hq36, hM⟩ := bind_some hM
          refine aw_ev 8 rfl (ev_scat (fun _ => hq36)) ?_
          obtain ⟨q37, hq38, hM⟩ := bind_some hM
          refine aw_ev 9 rfl (ev_scat (fun _ => hq38)) ?_
          obtain ⟨y39, hy40, hM⟩ := bind_some hM
          refine aw_one 12 rfl (st_callv (fun w hm => let ⟨S, hs⟩ := hm; ref1_Decimal_spec _ w x26.Limit y39 hy40 (lend_lt hs) ) ⟨fun w hm => hm.sub (by repeat (first | exact List.Sublist.refl _ | apply List.Sublist.cons_cons | apply List.Sublist.cons)), ?_⟩)
          obtain ⟨q41, hq42, hM⟩ := bind_some hM
          refine aw_ev 13 rfl (ev_scat (fun _ => hq42)) ?_
          obtain ⟨q43, hq44, hM⟩ := bind_some hM
          refine aw_ev 14 rfl (ev_scat (fun _ => hq44)) ?_
          obtain ⟨y45, hy46, hM⟩ := bind_some hM
          refine aw_one 17 rfl (st_callv (fun w hm => let ⟨S, hs⟩ := hm; ref1_Decimal_spec _ w x26.Grade y45 hy46 (lend_lt hs) ) ⟨fun w hm => hm.sub (by repeat (first | exact List.Sublist.refl _ | apply List.Sublist.cons_cons | apply List.Sublist.cons)), ?_⟩)
          obtain ⟨q47, hq48, hM⟩ := bind_some hM
          refine aw_ev 18 rfl (ev_scat (fun _ => hq48)) ?_
          obtain ⟨q49, hq50, hM⟩ := bind_some hM
          refine aw_ev 19 rfl (ev_scat (fun _ => hq50)) ?_
          refine aw_ev 20 rfl ev_assign ?_
          refine aw_done (hK22 _ _ ?_); clear hK22
          refine cw_cut (γ := Str × Unit) (env := fun (s_j4, _) => [(1, .v (.pointer (some ⟨b1, 0, none⟩))), (3, .v (.string s_j4.ba)), (6, .v (.int .i64 (i_3 : Int)))]) (mem := fun (s_j4, _) => [imm (α := (List Str)) r_l0.1 l0.Stations, imm (α := (List Str)) r_l0.2.1 l0.Points, imm (α := (List Section)) r_l0.2.2.1 l0.Sections, imm (α := (List Link)) r_l0.2.2.2 l0.Links, own b1 26 [.slice r_l0.1.a l0.Stations.length r_l0.1.cap, .slice r_l0.2.1.a l0.Points.length r_l0.2.1.cap, .slice r_l0.2.2.1.a l0.Sections.length r_l0.2.2.1.cap, .slice r_l0.2.2.2.a l0.Links.length r_l0.2.2.2.cap]]) (R := fun g => ref1_Format_k4 i_3 cont3 g.1 = some y) ?_ ?_
          · intro KJ4 hJ4
            refine cw_seq fun K23 hK23 => ?_
            refine cw_region ?_
            refine ow_ev (ev_field_addr 4) ?_
            refine ow_ev (ev_load_own (b := b28)) ?_
            refine ow_ev ev_geq ?_
            refine ow_nil (hK23 _ _ ?_); clear hK23
            refine cw_cond rfl (fun hc54 => ?_) (fun hc54 => ?_)
            ·
              replace hM := (ite_t hc54).symm.trans hM
              refine cw_region ?_
              refine ow_ev ev_move ?_
              refine ow_ev (ev_field_addr 0) ?_
              refine ow_ev (ev_load_own (b := b1)) ?_
              refine ow_ev (ev_field_addr 4) ?_
              refine ow_ev (ev_load_own (b := b28)) ?_
              obtain ⟨x55, hx56, hM⟩ := bind_some hM
              refine ow_ev (ev_idx (xs := l0.Stations) 1 (Kn.imm (α := List Str) (r := r_l0.1) (x := l0.Stations) (by repeat (first | exact Has.head | apply Has.tail))) (fun hg => let h := idx_some hx56; ⟨h.1, h.2.1⟩)) ?_
              refine ow_ev (ev_ld (i := x26.Station) (xs := l0.Stations) (y := x55) 0 (Kn.imm (α := List Str) (r := r_l0.1) (x := l0.Stations) (by repeat (first | exact Has.head | apply Has.tail))) (fun _ => hx56)) ?_
              obtain ⟨q57, hq58, hM⟩ := bind_some hM
              refine ow_ev (ev_scat (fun _ => hq58)) ?_
              obtain ⟨q59, hq60, hM⟩ := bind_some hM
              refine ow_ev (ev_scat (fun _ => hq60)) ?_
              refine ow_ev ev_assign ?_
              refine ow_nil (hJ4 (q59, ()) _ _ hM ⟨rfl, rfl, rfl, trivial⟩ (fun w hm => hm.reord))
            ·
              replace hM := (ite_f hc54).symm.trans hM
              refine cw_skip (hJ4 (q49, ()) _ _ hM ⟨rfl, rfl, rfl, trivial⟩ (fun w hm => hm.reord))
          ·
            clear hM
            intro g hM
            obtain ⟨s_j4, ⟨⟩⟩ := g
            dsimp only at hM ⊢
            dsimp only [ref1_Format_k4] at hM
            refine cw_region ?_
            refine ow_ev ev_move ?_
            obtain ⟨q51, hq52, hM⟩ := bind_some hM
            refine ow_ev (ev_scat (fun _ => hq52)) ?_
            refine ow_ev ev_assign ?_
            refine ow_nil (hK20 _ _ ?_); clear hK20
            refine cw_region ?_
            refine ow_ev ev_move ?_
            obtain ⟨hI53, hM⟩ := chk_some hM
            refine ow_ev (ev_add (hr := fun hg => i64b_I64 hI53)) ?_
            refine ow_ev ev_assign ?_
            refine ow_nil (hL3 (nn3, (q51, i_3 + 1), ()) _ _ (eqc hcont3 hM) (Nat.lt_succ_self _) ⟨rfl, rfl, rfl, trivial⟩ (fun w hm => hm.reord))
        ·
          replace hM := (ite_f hc25).symm.trans hM
          refine cw_exit (hK16 _ _ ?_); clear hK16
          dsimp only [ref1_Format_k3] at hM
          refine cw_seq fun K24 hK24 => ?_
          refine cw_seq fun K25 hK25 => ?_
          refine cw_region ?_
          refine ow_ev ev_assign ?_
          refine ow_nil (hK25 _ _ ?_); clear hK25
          refine cw_block ?_
          refine cw_loop (γ := Nat × (Str × Nat) × Unit) (env := fun (_, (s_4, i_4), _) => [(1, .v (.pointer (some ⟨b1, 0, none⟩))), (3, .v (.string s_4.ba)), (8, .v (.int .i64 (i_4 : Int)))]) (mem := fun (_, (s_4, i_4), _) => [imm (α := (List Str)) r_l0.1 l0.Stations, imm (α := (List Str)) r_l0.2.1 l0.Points, imm (α := (List Section)) r_l0.2.2.1 l0.Sections, imm (α := (List Link)) r_l0.2.2.2 l0.Links, own b1 26 [.slice r_l0.1.a l0.Stations.length r_l0.1.cap, .slice r_l0.2.1.a l0.Points.length r_l0.2.1.cap, .slice r_l0.2.2.1.a l0.Sections.length r_l0.2.2.1.cap, .slice r_l0.2.2.2.a l0.Links.length r_l0.2.2.2.cap]]) (R := fun g => iter (ref1_Format_b4 l0) g.1 g.2.1 = some y) (μ := fun g => g.1) (FUEL, (s_3, 0), ()) hM ⟨rfl, rfl, rfl, trivial⟩ (fun w hm => hm.reord) ?_
          clear hM
          intro g hM KL4 hL4
          obtain ⟨nn4, ⟨s_4, i_4⟩, ⟨⟩⟩ := g
          dsimp only at hM ⊢
          obtain ⟨nn4, cont4, rfl, hcont4, hM⟩ := iter_open' hM
          dsimp only [ref1_Format_b4] at hM
          refine cw_seq fun K26 hK26 => ?_
          refine cw_seq fun K27 hK27 => ?_
          refine cw_region ?_
          refine ow_ev ev_move ?_
          refine ow_ev (ev_field_addr 3) ?_
          refine ow_ev (ev_load_own (b := b1)) ?_
          refine ow_ev ev_len ?_
          refine ow_ev ev_lss ?_
          refine ow_nil (hK27 _ _ ?_); clear hK27
          refine cw_cond rfl (fun hc61 => ?_) (fun hc61 => ?_)
          ·
            replace hM := (ite_t hc61).symm.trans hM
            refine cw_skip (hK26 _ _ ?_); clear hK26
            refine cw_seq fun K28 hK28 => ?_
            refine cw_block ?_
            refine cw_seq fun K29 hK29 => ?_
            refine cw_region ?_
            refine ow_ev (ev_field_addr 3) ?_
            refine ow_ev (ev_load_own (b := b1)) ?_
            refine ow_ev ev_move ?_
            obtain ⟨x62, hx63, hM⟩ := bind_some hM
            refine ow_ev (ev_idx (xs := l0.Links) 6 (Kn.imm (α := List Link) (r := r_l0.2.2.2) (x := l0.Links) (by repeat (first | exact Has.head | apply Has.tail))) (fun hg => let h := idx_some hx63; ⟨h.1, h.2.1⟩)) ?_
            refine ow_ev (ev_lds (m := 6) (i := (i_4 : Int)) (xs := l0.Links) (y := x62) (l := [.int .i64 x62.A, .int .i64 x62.AEnd, .int .i64 x62.B, .int .i64 x62.BEnd, .int .i64 x62.Point, .int .i64 x62.Pos]) 0 (Kn.imm (α := List Link) (r := r_l0.2.2.2) (x := l0.Links) (by repeat (first | exact Has.head | apply Has.tail))) (fun _ => hx63)) ?_
            refine ow_cons (st_alloc rfl (k := fun b64 => ?_))
            refine ow_cons (st_store_all (b := b64) (vs := [.int .i64 x62.A, .int .i64 x62.AEnd, .int .i64 x62.B, .int .i64 x62.BEnd, .int .i64 x62.Point, .int .i64 x62.Pos]) (k := ?_))
            refine ow_nil (hK29 _ _ ?_); clear hK29
            refine cw_seq fun K30 hK30 => ?_
            refine cw_region_any _ (List.Sublist.refl _) ?_
            refine aw_ev 0 rfl ev_move ?_
            refine aw_ev 1 rfl (ev_field_addr 2) ?_
            refine aw_ev 2 rfl (ev_load_own (b := b1)) ?_
            refine aw_ev 3 rfl (ev_field_addr 0) ?_
            refine aw_ev 4 rfl (ev_load_own (b := b64)) ?_
            obtain ⟨x65, hx66, hM⟩ := bind_some hM
            refine aw_ev 5 rfl (ev_idx (xs := l0.Sections) 5 (Kn.imm (α := List Section) (r := r_l0.2.2.1) (x := l0.Sections) (by repeat (first | exact Has.head | apply Has.tail))) (fun hg => let h := idx_some hx66; ⟨h.1, h.2.1⟩)) ?_
            refine aw_ev 6 rfl (ev_field_addr 0) ?_
            refine aw_ev 7 rfl (ev_ld (i := x62.A) (xs := l0.Sections) (y := x65) 0 (Kn.imm (α := List Section) (r := r_l0.2.2.1) (x := l0.Sections) (by repeat (first | exact Has.head | apply Has.tail))) (fun _ => hx66)) ?_
            obtain ⟨q67, hq68, hM⟩ := bind_some hM
            refine aw_ev 8 rfl (ev_scat (fun _ => hq68)) ?_
            obtain ⟨q69, hq70, hM⟩ := bind_some hM
            refine aw_ev 9 rfl (ev_scat (fun _ => hq70)) ?_
            refine aw_ev 10 rfl (ev_field_addr 1) ?_
            refine aw_ev 11 rfl (ev_load_own (b := b64)) ?_
            refine aw_ev 12 rfl (ev_field_addr 1) ?_
            refine aw_ev 13 rfl (ev_load_own (b := b64)) ?_
            obtain ⟨hI71, hM⟩ := chk_some hM
            refine aw_ev 14 rfl (ev_add (hr := fun hg => i64b_I64 hI71)) ?_
            obtain ⟨q72, hq73, hM⟩ := bind_some hM
            refine aw_ev 15 rfl (ev_ssub (ol := some (.i64, x62.AEnd)) (oh := some (.i64, (x62.AEnd + 1))) (fun _ => hq73)) ?_
            obtain ⟨q74, hq75, hM⟩ := bind_some hM
            refine aw_ev 16 rfl (ev_scat (fun _ => hq75)) ?_
            obtain ⟨q76, hq77, hM⟩ := bind_some hM
            refine aw_ev 17 rfl (ev_scat (fun _ => hq77)) ?_
            refine aw_ev 18 rfl (ev_field_addr 2) ?_
            refine aw_ev 19 rfl (ev_load_own (b := b1)) ?_
            refine aw_ev 20 rfl (ev_field_addr 2) ?_
            refine aw_ev 21 rfl (ev_load_own (b := b64)) ?_
            obtain ⟨x78, hx79, hM⟩ := bind_some hM
            refine aw_ev 22 rfl (ev_idx (xs := l0.Sections) 5 (Kn.imm (α := List Section) (r := r_l0.2.2.1) (x := l0.Sections) (by repeat (first | exact Has.head | apply Has.tail))) (fun hg => let h := idx_some hx79; ⟨h.1, h.2.1⟩)) ?_
            refine aw_ev 23 rfl (ev_field_addr 0) ?_
            refine aw_ev 24 rfl (ev_ld (i := x62.B) (xs := l0.Sections) (y := x78) 0 (Kn.imm (α := List Section) (r := r_l0.2.2.1) (x := l0.Sections) (by repeat (first | exact Has.head | apply Has.tail))) (fun _ => hx79)) ?_
            obtain ⟨q80, hq81, hM⟩ := bind_some hM
            refine aw_ev 25 rfl (ev_scat (fun _ => hq81)) ?_
            obtain ⟨q82, hq83, hM⟩ := bind_some hM
            refine aw_ev 26 rfl (ev_scat (fun _ => hq83)) ?_
            refine aw_ev 27 rfl (ev_field_addr 3) ?_
            refine aw_ev 28 rfl (ev_load_own (b := b64)) ?_
            refine aw_ev 29 rfl (ev_field_addr 3) ?_
            refine aw_ev 30 rfl (ev_load_own (b := b64)) ?_
            obtain ⟨hI84, hM⟩ := chk_some hM
            refine aw_ev 31 rfl (ev_add (hr := fun hg => i64b_I64 hI84)) ?_
            obtain ⟨q85, hq86, hM⟩ := bind_some hM
            refine aw_ev 32 rfl (ev_ssub (ol := some (.i64, x62.BEnd)) (oh := some (.i64, (x62.BEnd + 1))) (fun _ => hq86)) ?_
            obtain ⟨q87, hq88, hM⟩ := bind_some hM
            refine aw_ev 33 rfl (ev_scat (fun _ => hq88)) ?_
            obtain ⟨q89, hq90, hM⟩ := bind_some hM
            refine aw_ev 34 rfl (ev_scat (fun _ => hq90)) ?_
            refine aw_ev 35 rfl ev_assign ?_
            refine aw_done (hK30 _ _ ?_); clear hK30
            refine cw_cut (γ := Str × Unit) (env := fun (s_j6, _) => [(1, .v (.pointer (some ⟨b1, 0, none⟩))), (3, .v (.string s_j6.ba)), (8, .v (.int .i64 (i_4 : Int)))]) (mem := fun (s_j6, _) => [imm (α := (List Str)) r_l0.1 l0.Stations, imm (α := (List Str)) r_l0.2.1 l0.Points, imm (α := (List Section)) r_l0.2.2.1 l0.Sections, imm (α := (List Link)) r_l0.2.2.2 l0.Links, own b1 26 [.slice r_l0.1.a l0.Stations.length r_l0.1.cap, .slice r_l0.2.1.a l0.Points.length r_l0.2.1.cap, .slice r_l0.2.2.1.a l0.Sections.length r_l0.2.2.1.cap, .slice r_l0.2.2.2.a l0.Links.length r_l0.2.2.2.cap]]) (R := fun g => ref1_Format_k6 i_4 cont4 g.1 = some y) ?_ ?_
            · intro KJ6 hJ6
              refine cw_seq fun K31 hK31 => ?_
              refine cw_region ?_
              refine ow_ev (ev_field_addr 4) ?_
              refine ow_ev (ev_load_own (b := b64)) ?_
              refine ow_ev ev_geq ?_
              refine ow_nil (hK31 _ _ ?_); clear hK31
              refine cw_cond rfl (fun hc94 => ?_) (fun hc94 => ?_)
              ·
                replace hM := (ite_t hc94).symm.trans hM
                refine cw_region_any _ (List.Sublist.refl _) ?_
                refine aw_ev 0 rfl ev_move ?_
                refine aw_ev 1 rfl (ev_field_addr 1) ?_
                refine aw_ev 2 rfl (ev_load_own (b := b1)) ?_
                refine aw_ev 3 rfl (ev_field_addr 4) ?_
                refine aw_ev 4 rfl (ev_load_own (b := b64)) ?_
                obtain ⟨x95, hx96, hM⟩ := bind_some hM
                refine aw_ev 5 rfl (ev_idx (xs := l0.Points) 1 (Kn.imm (α := List Str) (r := r_l0.2.1) (x := l0.Points) (by repeat (first | exact Has.head | apply Has.tail))) (fun hg => let h := idx_some hx96; ⟨h.1, h.2.1⟩)) ?_
                refine aw_ev 6 rfl (ev_ld (i := x62.Point) (xs := l0.Points) (y := x95) 0 (Kn.imm (α := List Str) (r := r_l0.2.1) (x := l0.Points) (by repeat (first | exact Has.head | apply Has.tail))) (fun _ => hx96)) ?_
                obtain ⟨q97, hq98, hM⟩ := bind_some hM
                refine aw_ev 7 rfl (ev_scat (fun _ => hq98)) ?_
                obtain ⟨q99, hq100, hM⟩ := bind_some hM
                refine aw_ev 8 rfl (ev_scat (fun _ => hq100)) ?_
                refine aw_ev 9 rfl (ev_field_addr 5) ?_
                refine aw_ev 10 rfl (ev_load_own (b := b64)) ?_
                obtain ⟨y101, hy102, hM⟩ := bind_some hM
                refine aw_one 11 rfl (st_callv (fun w hm => let ⟨S, hs⟩ := hm; ref1_Decimal_spec _ w x62.Pos y101 hy102 (lend_lt hs) ) ⟨fun w hm => hm.sub (by repeat (first | exact List.Sublist.refl _ | apply List.Sublist.cons_cons | apply List.Sublist.cons)), ?_⟩)
                obtain ⟨q103, hq104, hM⟩ := bind_some hM
                refine aw_ev 12 rfl (ev_scat (fun _ => hq104)) ?_
                obtain ⟨q105, hq106, hM⟩ := bind_some hM
                refine aw_ev 13 rfl (ev_scat (fun _ => hq106)) ?_
                refine aw_ev 14 rfl ev_assign ?_
                refine aw_done (hJ6 (q105, ()) _ _ hM ⟨rfl, rfl, rfl, trivial⟩ (fun w hm => hm.reord))
              ·
                replace hM := (ite_f hc94).symm.trans hM
                refine cw_skip (hJ6 (q89, ()) _ _ hM ⟨rfl, rfl, rfl, trivial⟩ (fun w hm => hm.reord))
            ·
              clear hM
              intro g hM
              obtain ⟨s_j6, ⟨⟩⟩ := g
              dsimp only at hM ⊢
              dsimp only [ref1_Format_k6] at hM
              refine cw_region ?_
              refine ow_ev ev_move ?_
              obtain ⟨q91, hq92, hM⟩ := bind_some hM
              refine ow_ev (ev_scat (fun _ => hq92)) ?_
              refine ow_ev ev_assign ?_
              refine ow_nil (hK28 _ _ ?_); clear hK28
              refine cw_region ?_
              refine ow_ev ev_move ?_
              obtain ⟨hI93, hM⟩ := chk_some hM
              refine ow_ev (ev_add (hr := fun hg => i64b_I64 hI93)) ?_
              refine ow_ev ev_assign ?_
              refine ow_nil (hL4 (nn4, (q91, i_4 + 1), ()) _ _ (eqc hcont4 hM) (Nat.lt_succ_self _) ⟨rfl, rfl, rfl, trivial⟩ (fun w hm => hm.reord))
          ·
            replace hM := (ite_f hc61).symm.trans hM
            refine cw_exit (hK24 _ _ ?_); clear hK24
            dsimp only [ref1_Format_k5] at hM
            refine cw_seq fun K32 hK32 => ?_
            refine cw_region ?_
            refine ow_ev ev_move ?_
            refine ow_ev ev_assign ?_
            refine ow_nil (hK32 _ _ ?_); clear hK32
            obtain rfl := some_inj hM
            refine cw_ret (kw_retc1 (fun w hm => ret_of hm rfl))

end Go.Proofs.YtohhihdjdelckaaDoor
