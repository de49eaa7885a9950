/- Models of functions, and that the code computes them. -/
import Derived.Test.YtnihhidbiepnhaaLayB
namespace Go.Proofs.Ytnihhidbiepnhaa
open Go.Dc Go.RowKit
set_option maxRecDepth 10000
set_option linter.unusedVariables false
def layout_Reverse_m (s0 : Step) : Option Step :=
  if decide (s0.Dir = 0) then
    (some (Step.mk s0.Section 1))
  else
    (some (Step.mk s0.Section 0))
theorem layout_Reverse_spec (S : Soup) (w : World) (s0 : Step) (y : Step) (hM : layout_Reverse_m s0 = some y) (hS : ∀ k, S k → k < w.heap.size)  :
    Calls Try.prog 24 #[.agg #[.int .i64 s0.Section, .int .i64 s0.Dir]] w (Ret w (.agg #[.int .i64 y.Section, .int .i64 y.Dir])) := by
  refine calls_cw (args := [_]) Try.func24 rfl ((pre_nil hS).start) rfl ?_
  unfold layout_Reverse_m at hM
  refine cw_seq fun K1 hK1 => ?_
  refine cw_region ?_
  refine ow_cons (st_box (l := [.int .i64 s0.Section, .int .i64 s0.Dir]) (k := fun b1 => ?_))
  refine ow_cons (st_alloc rfl (k := fun b2 => ?_))
  refine ow_nil (hK1 _ _ ?_); clear hK1
  refine cw_seq fun K2 hK2 => ?_
  refine cw_seq fun K3 hK3 => ?_
  refine cw_region ?_
  refine ow_ev (ev_field_addr 1) ?_
  refine ow_ev (ev_load_own (b := b1)) ?_
  refine ow_ev ev_eql ?_
  refine ow_nil (hK3 _ _ ?_); clear hK3
  refine cw_cond rfl (fun hc3 => ?_) (fun hc3 => ?_)
  ·
    replace hM := (ite_t hc3).symm.trans hM
    refine cw_seq fun K4 hK4 => ?_
    refine cw_region ?_
    refine ow_ev (ev_field_addr 0) ?_
    refine ow_ev (ev_load_own (b := b1)) ?_
    refine ow_ev (ev_build [.int .i64 s0.Section, .int .i64 1]) ?_
    refine ow_cons (st_store_all (b := b2) (vs := [.int .i64 s0.Section, .int .i64 1]) (k := ?_))
    refine ow_nil (hK4 _ _ ?_); clear hK4
    obtain rfl := some_inj hM
    refine cw_ret (kw_retc1 (fun w hm => ret_of hm rfl))
  ·
    replace hM := (ite_f hc3).symm.trans hM
    refine cw_skip (hK2 _ _ ?_); clear hK2
    refine cw_seq fun K5 hK5 => ?_
    refine cw_region ?_
    refine ow_ev (ev_field_addr 0) ?_
    refine ow_ev (ev_load_own (b := b1)) ?_
    refine ow_ev (ev_build [.int .i64 s0.Section, .int .i64 0]) ?_
    refine ow_cons (st_store_all (b := b2) (vs := [.int .i64 s0.Section, .int .i64 0]) (k := ?_))
    refine ow_nil (hK5 _ _ ?_); clear hK5
    obtain rfl := some_inj hM
    refine cw_ret (kw_retc1 (fun w hm => ret_of hm rfl))

def route_isStep_m (l0 : Layout) (s0 : Step) : Option Bool :=
  some ((decide (0 ≤ s0.Section) && decide (s0.Section < (l0.Sections.length : Int))) && (decide (s0.Dir = 0) || decide (s0.Dir = 1)))
theorem route_isStep_spec (S : Soup) (w : World) (l0 : Layout) (r_l0 : GoRep.R Layout) (s0 : Step) (y : Bool) (hM : route_isStep_m l0 s0 = some y) (hS : ∀ k, S k → k < w.heap.size) (h_l0 : GoRep.ok S w r_l0 l0) :
    Calls Try.prog 53 #[.agg #[.slice r_l0.1.a l0.Stations.length r_l0.1.cap, .slice r_l0.2.1.a l0.Points.length r_l0.2.1.cap, .slice r_l0.2.2.1.a l0.Sections.length r_l0.2.2.1.cap, .slice r_l0.2.2.2.a l0.Links.length r_l0.2.2.2.cap], .agg #[.int .i64 s0.Section, .int .i64 s0.Dir]] w (Ret w (.bool y)) := by
  refine calls_cw (args := [_, _]) Try.func53 rfl ((pre_nil hS).start |>.immP (α := List Str) (r := r_l0.1) (x := l0.Stations) h_l0.1|>.immP (α := List Str) (r := r_l0.2.1) (x := l0.Points) h_l0.2.1|>.immP (α := List Section) (r := r_l0.2.2.1) (x := l0.Sections) h_l0.2.2.1|>.immP (α := List Link) (r := r_l0.2.2.2) (x := l0.Links) h_l0.2.2.2) rfl ?_
  unfold route_isStep_m at hM
  refine cw_seq fun K1 hK1 => ?_
  refine cw_region ?_
  refine ow_cons (st_box (l := [.slice r_l0.1.a l0.Stations.length r_l0.1.cap, .slice r_l0.2.1.a l0.Points.length r_l0.2.1.cap, .slice r_l0.2.2.1.a l0.Sections.length r_l0.2.2.1.cap, .slice r_l0.2.2.2.a l0.Links.length r_l0.2.2.2.cap]) (k := fun b1 => ?_))
  refine ow_cons (st_box (l := [.int .i64 s0.Section, .int .i64 s0.Dir]) (k := fun b2 => ?_))
  refine ow_ev ev_assign ?_
  refine ow_nil (hK1 _ _ ?_); clear hK1
  refine cw_seq fun K2 hK2 => ?_
  refine cw_region ?_
  refine ow_ev (ev_field_addr 0) ?_
  refine ow_ev (ev_load_own (b := b2)) ?_
  refine ow_ev ev_geq ?_
  refine ow_ev ev_move ?_
  refine ow_evg rfl (ev_field_addr 0) ?_
  refine ow_evg rfl (ev_load_own (b := b2)) ?_
  refine ow_evg rfl (ev_field_addr 2) ?_
  refine ow_evg rfl (ev_load_own (b := b1)) ?_
  refine ow_evg rfl ev_len ?_
  refine ow_evg rfl ev_lss ?_
  refine ow_ev ev_and ?_
  refine ow_ev ev_move ?_
  refine ow_evg rfl (ev_field_addr 1) ?_
  refine ow_evg rfl (ev_load_own (b := b2)) ?_
  refine ow_evg rfl ev_eql ?_
  refine ow_evg rfl ev_move ?_
  refine ow_evg rfl (ev_field_addr 1) ?_
  refine ow_evg rfl (ev_load_own (b := b2)) ?_
  refine ow_evg rfl ev_eql ?_
  refine ow_evg rfl ev_or ?_
  refine ow_ev ev_and ?_
  refine ow_ev ev_assign ?_
  refine ow_nil (hK2 _ _ ?_); clear hK2
  obtain rfl := some_inj hM
  refine cw_ret (kw_retc1 (fun w hm => ret_of hm rfl))

def route_leaving_m (s0 : Step) : Option Route_end :=
  if decide (s0.Dir = 0) then
    (some (Route_end.mk s0.Section 1))
  else
    (some (Route_end.mk s0.Section 0))
theorem route_leaving_spec (S : Soup) (w : World) (s0 : Step) (y : Route_end) (hM : route_leaving_m s0 = some y) (hS : ∀ k, S k → k < w.heap.size)  :
    Calls Try.prog 93 #[.agg #[.int .i64 s0.Section, .int .i64 s0.Dir]] w (Ret w (.agg #[.int .i64 y.section_, .int .i64 y.side])) := by
  refine calls_cw (args := [_]) Try.func93 rfl ((pre_nil hS).start) rfl ?_
  unfold route_leaving_m at hM
  refine cw_seq fun K1 hK1 => ?_
  refine cw_region ?_
  refine ow_cons (st_box (l := [.int .i64 s0.Section, .int .i64 s0.Dir]) (k := fun b1 => ?_))
  refine ow_cons (st_alloc rfl (k := fun b2 => ?_))
  refine ow_nil (hK1 _ _ ?_); clear hK1
  refine cw_seq fun K2 hK2 => ?_
  refine cw_seq fun K3 hK3 => ?_
  refine cw_region ?_
  refine ow_ev (ev_field_addr 1) ?_
  refine ow_ev (ev_load_own (b := b1)) ?_
  refine ow_ev ev_eql ?_
  refine ow_nil (hK3 _ _ ?_); clear hK3
  refine cw_cond rfl (fun hc3 => ?_) (fun hc3 => ?_)
  ·
    replace hM := (ite_t hc3).symm.trans hM
    refine cw_seq fun K4 hK4 => ?_
    refine cw_region ?_
    refine ow_ev (ev_field_addr 0) ?_
    refine ow_ev (ev_load_own (b := b1)) ?_
    refine ow_ev (ev_build [.int .i64 s0.Section, .int .i64 1]) ?_
    refine ow_cons (st_store_all (b := b2) (vs := [.int .i64 s0.Section, .int .i64 1]) (k := ?_))
    refine ow_nil (hK4 _ _ ?_); clear hK4
    obtain rfl := some_inj hM
    refine cw_ret (kw_retc1 (fun w hm => ret_of hm rfl))
  ·
    replace hM := (ite_f hc3).symm.trans hM
    refine cw_skip (hK2 _ _ ?_); clear hK2
    refine cw_seq fun K5 hK5 => ?_
    refine cw_region ?_
    refine ow_ev (ev_field_addr 0) ?_
    refine ow_ev (ev_load_own (b := b1)) ?_
    refine ow_ev (ev_build [.int .i64 s0.Section, .int .i64 0]) ?_
    refine ow_cons (st_store_all (b := b2) (vs := [.int .i64 s0.Section, .int .i64 0]) (k := ?_))
    refine ow_nil (hK5 _ _ ?_); clear hK5
    obtain rfl := some_inj hM
    refine cw_ret (kw_retc1 (fun w hm => ret_of hm rfl))

def route_transition_k3 (x6 : Link) (from_j1_0 : Int) (from_j1_1 : Int) (to_j1_0 : Int) (to_j1_1 : Int) (cont1 : Nat → Option (Int × Bool)) (t22_1 : Nat) : Unit → Option (Int × Bool) := fun _ =>
  if ((decide ((Route_end.mk x6.A x6.AEnd) = (Route_end.mk from_j1_0 from_j1_1)) && decide ((Route_end.mk x6.B x6.BEnd) = (Route_end.mk to_j1_0 to_j1_1))) || (decide ((Route_end.mk x6.A x6.AEnd) = (Route_end.mk to_j1_0 to_j1_1)) && decide ((Route_end.mk x6.B x6.BEnd) = (Route_end.mk from_j1_0 from_j1_1)))) then
    (some (x6.Point, true))
  else
    (cont1 (t22_1 + 1))
def route_transition_k2 : Unit → Option (Int × Bool) := fun _ =>
  some (0, false)
def route_transition_b1 (l0 : Layout) (from_j1_0 : Int) (from_j1_1 : Int) (to_j1_0 : Int) (to_j1_1 : Int) (cont1 : Nat → Option (Int × Bool)) : Nat → Option (Int × Bool) := fun t22_1 =>
  if decide ((t22_1 : Int) < (l0.Links.length : Int)) then
    ((idx l0.Links (t22_1 : Int)).bind fun x6 =>
    route_transition_k3 x6 from_j1_0 from_j1_1 to_j1_0 to_j1_1 cont1 t22_1 ())
  else
    (route_transition_k2 ())
def route_transition_k1 (l0 : Layout) : (Int × Int × Int × Int) → Option (Int × Bool) := fun (from_j1_0, from_j1_1, to_j1_0, to_j1_1) =>
  iter (route_transition_b1 l0 from_j1_0 from_j1_1 to_j1_0 to_j1_1) FUEL 0
def route_transition_m (l0 : Layout) (s0 : Step) (t0 : Step) : Option (Int × Bool) :=
  (route_leaving_m s0).bind fun y14 =>
  (layout_Reverse_m t0).bind fun y18 =>
  (route_leaving_m y18).bind fun y22 =>
  route_transition_k1 l0 (y14.section_, y14.side, y22.section_, y22.side)
theorem route_transition_spec (S : Soup) (w : World) (l0 : Layout) (r_l0 : GoRep.R Layout) (s0 : Step) (t0 : Step) (y : Int × Bool) (hM : route_transition_m l0 s0 t0 = some y) (hS : ∀ k, S k → k < w.heap.size) (h_l0 : GoRep.ok S w r_l0 l0) :
    Calls Try.prog 76 #[.agg #[.slice r_l0.1.a l0.Stations.length r_l0.1.cap, .slice r_l0.2.1.a l0.Points.length r_l0.2.1.cap, .slice r_l0.2.2.1.a l0.Sections.length r_l0.2.2.1.cap, .slice r_l0.2.2.2.a l0.Links.length r_l0.2.2.2.cap], .agg #[.int .i64 s0.Section, .int .i64 s0.Dir], .agg #[.int .i64 t0.Section, .int .i64 t0.Dir]] w (Ret w (.tuple #[.int .i64 y.1, .bool y.2])) := by
  refine calls_cw (args := [_, _, _]) Try.func76 rfl ((pre_nil hS).start |>.immP (α := List Str) (r := r_l0.1) (x := l0.Stations) h_l0.1|>.immP (α := List Str) (r := r_l0.2.1) (x := l0.Points) h_l0.2.1|>.immP (α := List Section) (r := r_l0.2.2.1) (x := l0.Sections) h_l0.2.2.1|>.immP (α := List Link) (r := r_l0.2.2.2) (x := l0.Links) h_l0.2.2.2) rfl ?_
  unfold route_transition_m at hM
  refine cw_seq fun K1 hK1 => ?_
  refine cw_region ?_
  refine ow_cons (st_box (l := [.slice r_l0.1.a l0.Stations.length r_l0.1.cap, .slice r_l0.2.1.a l0.Points.length r_l0.2.1.cap, .slice r_l0.2.2.1.a l0.Sections.length r_l0.2.2.1.cap, .slice r_l0.2.2.2.a l0.Links.length r_l0.2.2.2.cap]) (k := fun b1 => ?_))
  refine ow_cons (st_box (l := [.int .i64 s0.Section, .int .i64 s0.Dir]) (k := fun b2 => ?_))
  refine ow_cons (st_box (l := [.int .i64 t0.Section, .int .i64 t0.Dir]) (k := fun b3 => ?_))
  refine ow_ev ev_assign ?_
  refine ow_ev ev_assign ?_
  refine ow_nil (hK1 _ _ ?_); clear hK1
  refine cw_cut (γ := (Int × Int × Int × Int) × (Nat × Nat)) (env := fun ((from_j1_0, from_j1_1, to_j1_0, to_j1_1), (bfrom_j1, bto_j1)) => [(3, .v (.pointer (some ⟨b1, 0, none⟩))), (8, .v (.pointer (some ⟨bfrom_j1, 0, none⟩))), (9, .v (.pointer (some ⟨bto_j1, 0, none⟩)))]) (mem := fun ((from_j1_0, from_j1_1, to_j1_0, to_j1_1), (bfrom_j1, bto_j1)) => [imm (α := (List Str)) r_l0.1 l0.Stations, imm (α := (List Str)) r_l0.2.1 l0.Points, imm (α := (List Section)) r_l0.2.2.1 l0.Sections, imm (α := (List Link)) r_l0.2.2.2 l0.Links, own b1 28 [.slice r_l0.1.a l0.Stations.length r_l0.1.cap, .slice r_l0.2.1.a l0.Points.length r_l0.2.1.cap, .slice r_l0.2.2.1.a l0.Sections.length r_l0.2.2.1.cap, .slice r_l0.2.2.2.a l0.Links.length r_l0.2.2.2.cap], own bfrom_j1 150 [.int .i64 from_j1_0, .int .i64 from_j1_1], own bto_j1 150 [.int .i64 to_j1_0, .int .i64 to_j1_1]]) (R := fun g => route_transition_k1 l0 g.1 = some y) ?_ ?_
  · intro KJ1 hJ1
    refine cw_region_any _ (List.Sublist.refl _) ?_
    refine aw_ev 0 rfl (ev_load_all (b := b2)) ?_
    refine aw_ev 2 rfl (ev_load_all (b := b3)) ?_
    obtain ⟨y14, hy15, hM⟩ := bind_some hM
    refine aw_three 1 5 6 (⟨_, rfl, rfl, st_callv (fun w hm => let ⟨S, hs⟩ := hm; route_leaving_spec _ w s0 y14 hy15 (lend_lt hs) ) ⟨fun w hm => hm.sub (by repeat (first | exact List.Sublist.refl _ | apply List.Sublist.cons_cons | apply List.Sublist.cons)), ?_⟩⟩) (⟨_, rfl, rfl, st_alloc rfl (k := fun b16 => ⟨fun w hm => hm.sub (by repeat (first | exact List.Sublist.refl _ | apply List.Sublist.cons_cons | apply List.Sublist.cons)), ?_⟩)⟩) (⟨_, rfl, rfl, st_alloc rfl (k := fun b17 => ⟨fun w hm => hm.sub (by repeat (first | exact List.Sublist.refl _ | apply List.Sublist.cons_cons | apply List.Sublist.cons)), ?_⟩)⟩)
    ·
      obtain ⟨y18, hy19, hM⟩ := bind_some hM
      refine aw_three 3 5 6 (⟨_, rfl, rfl, st_callv (fun w hm => let ⟨S, hs⟩ := hm; layout_Reverse_spec _ w t0 y18 hy19 (lend_lt hs) ) ⟨fun w hm => hm.sub (by repeat (first | exact List.Sublist.refl _ | apply List.Sublist.cons_cons | apply List.Sublist.cons)), ?_⟩⟩) (⟨_, rfl, rfl, st_alloc rfl (k := fun b20 => ⟨fun w hm => hm.sub (by repeat (first | exact List.Sublist.refl _ | apply List.Sublist.cons_cons | apply List.Sublist.cons)), ?_⟩)⟩) (⟨_, rfl, rfl, st_alloc rfl (k := fun b21 => ⟨fun w hm => hm.sub (by repeat (first | exact List.Sublist.refl _ | apply List.Sublist.cons_cons | apply List.Sublist.cons)), ?_⟩)⟩)
      ·
        obtain ⟨y22, hy23, hM⟩ := bind_some hM
        refine aw_three 4 5 6 (⟨_, rfl, rfl, st_callv (fun w hm => let ⟨S, hs⟩ := hm; route_leaving_spec _ w y18 y22 hy23 (lend_lt hs) ) ⟨fun w hm => hm.sub (by repeat (first | exact List.Sublist.refl _ | apply List.Sublist.cons_cons | apply List.Sublist.cons)), ?_⟩⟩) (⟨_, rfl, rfl, st_alloc rfl (k := fun b24 => ⟨fun w hm => hm.sub (by repeat (first | exact List.Sublist.refl _ | apply List.Sublist.cons_cons | apply List.Sublist.cons)), ?_⟩)⟩) (⟨_, rfl, rfl, st_alloc rfl (k := fun b25 => ⟨fun w hm => hm.sub (by repeat (first | exact List.Sublist.refl _ | apply List.Sublist.cons_cons | apply List.Sublist.cons)), ?_⟩)⟩)
        ·
          refine aw_two 5 6 (⟨_, rfl, rfl, st_alloc rfl (k := fun b26 => ⟨fun w hm => hm.sub (by repeat (first | exact List.Sublist.refl _ | apply List.Sublist.cons_cons | apply List.Sublist.cons)), ?_⟩)⟩) (⟨_, rfl, rfl, st_alloc rfl (k := fun b27 => ⟨fun w hm => hm.sub (by repeat (first | exact List.Sublist.refl _ | apply List.Sublist.cons_cons | apply List.Sublist.cons)), ?_⟩)⟩)
          ·
            refine aw_one 6 rfl (st_alloc rfl (k := fun b28 => ⟨fun w hm => hm.sub (by repeat (first | exact List.Sublist.refl _ | apply List.Sublist.cons_cons | apply List.Sublist.cons)), ?_⟩))
            refine aw_one 7 rfl (st_store_all (b := b26) (vs := [.int .i64 y14.section_, .int .i64 y14.side]) (k := ⟨fun w hm => hm.sub (by repeat (first | exact List.Sublist.refl _ | apply List.Sublist.cons_cons | apply List.Sublist.cons)), ?_⟩))
            refine aw_one 8 rfl (st_store_all (b := b28) (vs := [.int .i64 y22.section_, .int .i64 y22.side]) (k := ⟨fun w hm => hm.sub (by repeat (first | exact List.Sublist.refl _ | apply List.Sublist.cons_cons | apply List.Sublist.cons)), ?_⟩))
            refine aw_done (hJ1 ((y14.section_, y14.side, y22.section_, y22.side), (b26, b28)) _ _ hM ⟨rfl, rfl, rfl, trivial⟩ (fun w hm => hm.reord))
          ·
            refine aw_one 5 rfl (st_alloc rfl (k := fun b29 => ⟨fun w hm => hm.sub (by repeat (first | exact List.Sublist.refl _ | apply List.Sublist.cons_cons | apply List.Sublist.cons)), ?_⟩))
            refine aw_one 7 rfl (st_store_all (b := b29) (vs := [.int .i64 y14.section_, .int .i64 y14.side]) (k := ⟨fun w hm => hm.sub (by repeat (first | exact List.Sublist.refl _ | apply List.Sublist.cons_cons | apply List.Sublist.cons)), ?_⟩))
            refine aw_one 8 rfl (st_store_all (b := b27) (vs := [.int .i64 y22.section_, .int .i64 y22.side]) (k := ⟨fun w hm => hm.sub (by repeat (first | exact List.Sublist.refl _ | apply List.Sublist.cons_cons | apply List.Sublist.cons)), ?_⟩))
            refine aw_done (hJ1 ((y14.section_, y14.side, y22.section_, y22.side), (b29, b27)) _ _ hM ⟨rfl, rfl, rfl, trivial⟩ (fun w hm => hm.reord))
        ·
          refine aw_two 4 6 (⟨_, rfl, rfl, st_callv (fun w hm => let ⟨S, hs⟩ := hm; route_leaving_spec _ w y18 y22 hy23 (lend_lt hs) ) ⟨fun w hm => hm.sub (by repeat (first | exact List.Sublist.refl _ | apply List.Sublist.cons_cons | apply List.Sublist.cons)), ?_⟩⟩) (⟨_, rfl, rfl, st_alloc rfl (k := fun b30 => ⟨fun w hm => hm.sub (by repeat (first | exact List.Sublist.refl _ | apply List.Sublist.cons_cons | apply List.Sublist.cons)), ?_⟩)⟩)
          ·
            refine aw_one 6 rfl (st_alloc rfl (k := fun b31 => ⟨fun w hm => hm.sub (by repeat (first | exact List.Sublist.refl _ | apply List.Sublist.cons_cons | apply List.Sublist.cons)), ?_⟩))
            refine aw_one 7 rfl (st_store_all (b := b24) (vs := [.int .i64 y14.section_, .int .i64 y14.side]) (k := ⟨fun w hm => hm.sub (by repeat (first | exact List.Sublist.refl _ | apply List.Sublist.cons_cons | apply List.Sublist.cons)), ?_⟩))
            refine aw_one 8 rfl (st_store_all (b := b31) (vs := [.int .i64 y22.section_, .int .i64 y22.side]) (k := ⟨fun w hm => hm.sub (by repeat (first | exact List.Sublist.refl _ | apply List.Sublist.cons_cons | apply List.Sublist.cons)), ?_⟩))
            refine aw_done (hJ1 ((y14.section_, y14.side, y22.section_, y22.side), (b24, b31)) _ _ hM ⟨rfl, rfl, rfl, trivial⟩ (fun w hm => hm.reord))
          ·
            refine aw_one 4 rfl (st_callv (fun w hm => let ⟨S, hs⟩ := hm; route_leaving_spec _ w y18 y22 hy23 (lend_lt hs) ) ⟨fun w hm => hm.sub (by repeat (first | exact List.Sublist.refl _ | apply List.Sublist.cons_cons | apply List.Sublist.cons)), ?_⟩)
            refine aw_one 7 rfl (st_store_all (b := b24) (vs := [.int .i64 y14.section_, .int .i64 y14.side]) (k := ⟨fun w hm => hm.sub (by repeat (first | exact List.Sublist.refl _ | apply List.Sublist.cons_cons | apply List.Sublist.cons)), ?_⟩))
            refine aw_one 8 rfl (st_store_all (b := b30) (vs := [.int .i64 y22.section_, .int .i64 y22.side]) (k := ⟨fun w hm => hm.sub (by repeat (first | exact List.Sublist.refl _ | apply List.Sublist.cons_cons | apply List.Sublist.cons)), ?_⟩))
            refine aw_done (hJ1 ((y14.section_, y14.side, y22.section_, y22.side), (b24, b30)) _ _ hM ⟨rfl, rfl, rfl, trivial⟩ (fun w hm => hm.reord))
        ·
          refine aw_two 4 5 (⟨_, rfl, rfl, st_callv (fun w hm => let ⟨S, hs⟩ := hm; route_leaving_spec _ w y18 y22 hy23 (lend_lt hs) ) ⟨fun w hm => hm.sub (by repeat (first | exact List.Sublist.refl _ | apply List.Sublist.cons_cons | apply List.Sublist.cons)), ?_⟩⟩) (⟨_, rfl, rfl, st_alloc rfl (k := fun b32 => ⟨fun w hm => hm.sub (by repeat (first | exact List.Sublist.refl _ | apply List.Sublist.cons_cons | apply List.Sublist.cons)), ?_⟩)⟩)
          ·
            refine aw_one 5 rfl (st_alloc rfl (k := fun b33 => ⟨fun w hm => hm.sub (by repeat (first | exact List.Sublist.refl _ | apply List.Sublist.cons_cons | apply List.Sublist.cons)), ?_⟩))
            refine aw_one 7 rfl (st_store_all (b := b33) (vs := [.int .i64 y14.section_, .int .i64 y14.side]) (k := ⟨fun w hm => hm.sub (by repeat (first | exact List.Sublist.refl _ | apply List.Sublist.cons_cons | apply List.Sublist.cons)), ?_⟩))
            refine aw_one 8 rfl (st_store_all (b := b25) (vs := [.int .i64 y22.section_, .int .i64 y22.side]) (k := ⟨fun w hm => hm.sub (by repeat (first | exact List.Sublist.refl _ | apply List.Sublist.cons_cons | apply List.Sublist.cons)), ?_⟩))
            refine aw_done (hJ1 ((y14.section_, y14.side, y22.section_, y22.side), (b33, b25)) _ _ hM ⟨rfl, rfl, rfl, trivial⟩ (fun w hm => hm.reord))
          ·
            refine aw_one 4 rfl (st_callv (fun w hm => let ⟨S, hs⟩ := hm; route_leaving_spec _ w y18 y22 hy23 (lend_lt hs) ) ⟨fun w hm => hm.sub (by repeat (first | exact List.Sublist.refl _ | apply List.Sublist.cons_cons | apply List.Sublist.cons)), ?_⟩)
            refine aw_one 7 rfl (st_store_all (b := b32) (vs := [.int .i64 y14.section_, .int .i64 y14.side]) (k := ⟨fun w hm => hm.sub (by repeat (first | exact List.Sublist.refl _ | apply List.Sublist.cons_cons | apply List.Sublist.cons)), ?_⟩))
            refine aw_one 8 rfl (st_store_all (b := b25) (vs := [.int .i64 y22.section_, .int .i64 y22.side]) (k := ⟨fun w hm => hm.sub (by repeat (first | exact List.Sublist.refl _ | apply List.Sublist.cons_cons | apply List.Sublist.cons)), ?_⟩))
            refine aw_done (hJ1 ((y14.section_, y14.side, y22.section_, y22.side), (b32, b25)) _ _ hM ⟨rfl, rfl, rfl, trivial⟩ (fun w hm => hm.reord))
      ·
        refine aw_two 3 6 (⟨_, rfl, rfl, st_callv (fun w hm => let ⟨S, hs⟩ := hm; layout_Reverse_spec _ w t0 y18 hy19 (lend_lt hs) ) ⟨fun w hm => hm.sub (by repeat (first | exact List.Sublist.refl _ | apply List.Sublist.cons_cons | apply List.Sublist.cons)), ?_⟩⟩) (⟨_, rfl, rfl, st_alloc rfl (k := fun b34 => ⟨fun w hm => hm.sub (by repeat (first | exact List.Sublist.refl _ | apply List.Sublist.cons_cons | apply List.Sublist.cons)), ?_⟩)⟩)
        ·
          obtain ⟨y35, hy36, hM⟩ := bind_some hM
          refine aw_two 4 6 (⟨_, rfl, rfl, st_callv (fun w hm => let ⟨S, hs⟩ := hm; route_leaving_spec _ w y18 y35 hy36 (lend_lt hs) ) ⟨fun w hm => hm.sub (by repeat (first | exact List.Sublist.refl _ | apply List.Sublist.cons_cons | apply List.Sublist.cons)), ?_⟩⟩) (⟨_, rfl, rfl, st_alloc rfl (k := fun b37 => ⟨fun w hm => hm.sub (by repeat (first | exact List.Sublist.refl _ | apply List.Sublist.cons_cons | apply List.Sublist.cons)), ?_⟩)⟩)
          ·
            refine aw_one 6 rfl (st_alloc rfl (k := fun b38 => ⟨fun w hm => hm.sub (by repeat (first | exact List.Sublist.refl _ | apply List.Sublist.cons_cons | apply List.Sublist.cons)), ?_⟩))
            refine aw_one 7 rfl (st_store_all (b := b20) (vs := [.int .i64 y14.section_, .int .i64 y14.side]) (k := ⟨fun w hm => hm.sub (by repeat (first | exact List.Sublist.refl _ | apply List.Sublist.cons_cons | apply List.Sublist.cons)), ?_⟩))
            refine aw_one 8 rfl (st_store_all (b := b38) (vs := [.int .i64 y35.section_, .int .i64 y35.side]) (k := ⟨fun w hm => hm.sub (by repeat (first | exact List.Sublist.refl _ | apply List.Sublist.cons_cons | apply List.Sublist.cons)), ?_⟩))
            refine aw_done (hJ1 ((y14.section_, y14.side, y35.section_, y35.side), (b20, b38)) _ _ hM ⟨rfl, rfl, rfl, trivial⟩ (fun w hm => hm.reord))
          ·
            refine aw_one 4 rfl (st_callv (fun w hm => let ⟨S, hs⟩ := hm; route_leaving_spec _ w y18 y35 hy36 (lend_lt hs) ) ⟨fun w hm => hm.sub (by repeat (first | exact List.Sublist.refl _ | apply List.Sublist.cons_cons | apply List.Sublist.cons)), ?_⟩)
            refine aw_one 7 rfl (st_store_all (b := b20) (vs := [.int .i64 y14.section_, .int .i64 y14.side]) (k := ⟨fun w hm => hm.sub (by repeat (first | exact List.Sublist.refl _ | apply List.Sublist.cons_cons | apply List.Sublist.cons)), ?_⟩))
            refine aw_one 8 rfl (st_store_all (b := b37) (vs := [.int .i64 y35.section_, .int .i64 y35.side]) (k := ⟨fun w hm => hm.sub (by repeat (first | exact List.Sublist.refl _ | apply List.Sublist.cons_cons | apply List.Sublist.cons)), ?_⟩))
            refine aw_done (hJ1 ((y14.section_, y14.side, y35.section_, y35.side), (b20, b37)) _ _ hM ⟨rfl, rfl, rfl, trivial⟩ (fun w hm => hm.reord))
        ·
          refine aw_one 3 rfl (st_callv (fun w hm => let ⟨S, hs⟩ := hm; layout_Reverse_spec _ w t0 y18 hy19 (lend_lt hs) ) ⟨fun w hm => hm.sub (by repeat (first | exact List.Sublist.refl _ | apply List.Sublist.cons_cons | apply List.Sublist.cons)), ?_⟩)
          obtain ⟨y39, hy40, hM⟩ := bind_some hM
          refine aw_one 4 rfl (st_callv (fun w hm => let ⟨S, hs⟩ := hm; route_leaving_spec _ w y18 y39 hy40 (lend_lt hs) ) ⟨fun w hm => hm.sub (by repeat (first | exact List.Sublist.refl _ | apply List.Sublist.cons_cons | apply List.Sublist.cons)), ?_⟩)
          refine aw_one 7 rfl (st_store_all (b := b20) (vs := [.int .i64 y14.section_, .int .i64 y14.side]) (k := ⟨fun w hm => hm.sub (by repeat (first | exact List.Sublist.refl _ | apply List.Sublist.cons_cons | apply List.Sublist.cons)), ?_⟩))
          refine aw_one 8 rfl (st_store_all (b := b34) (vs := [.int .i64 y39.section_, .int .i64 y39.side]) (k := ⟨fun w hm => hm.sub (by repeat (first | exact List.Sublist.refl _ | apply List.Sublist.cons_cons | apply List.Sublist.cons)), ?_⟩))
          refine aw_done (hJ1 ((y14.section_, y14.side, y39.section_, y39.side), (b20, b34)) _ _ hM ⟨rfl, rfl, rfl, trivial⟩ (fun w hm => hm.reord))
      ·
        refine aw_two 3 5 (⟨_, rfl, rfl, st_callv (fun w hm => let ⟨S, hs⟩ := hm; layout_Reverse_spec _ w t0 y18 hy19 (lend_lt hs) ) ⟨fun w hm => hm.sub (by repeat (first | exact List.Sublist.refl _ | apply List.Sublist.cons_cons | apply List.Sublist.cons)), ?_⟩⟩) (⟨_, rfl, rfl, st_alloc rfl (k := fun b41 => ⟨fun w hm => hm.sub (by repeat (first | exact List.Sublist.refl _ | apply List.Sublist.cons_cons | apply List.Sublist.cons)), ?_⟩)⟩)
        ·
          obtain ⟨y42, hy43, hM⟩ := bind_some hM
          refine aw_two 4 5 (⟨_, rfl, rfl, st_callv (fun w hm => let ⟨S, hs⟩ := hm; route_leaving_spec _ w y18 y42 hy43 (lend_lt hs) ) ⟨fun w hm => hm.sub (by repeat (first | exact List.Sublist.refl _ | apply List.Sublist.cons_cons | apply List.Sublist.cons)), ?_⟩⟩) (⟨_, rfl, rfl, st_alloc rfl (k := fun b44 => ⟨fun w hm => hm.sub (by repeat (first | exact List.Sublist.refl _ | apply List.Sublist.cons_cons | apply List.Sublist.cons)), ?_⟩)⟩)
          ·
            refine aw_one 5 rfl (st_alloc rfl (k := fun b45 => ⟨fun w hm => hm.sub (by repeat (first | exact List.Sublist.refl _ | apply List.Sublist.cons_cons | apply List.Sublist.cons)), ?_⟩))
            refine aw_one 7 rfl (st_store_all (b := b45) (vs := [.int .i64 y14.section_, .int .i64 y14.side]) (k := ⟨fun w hm => hm.sub (by repeat (first | exact List.Sublist.refl _ | apply List.Sublist.cons_cons | apply List.Sublist.cons)), ?_⟩))
            refine aw_one 8 rfl (st_store_all (b := b21) (vs := [.int .i64 y42.section_, .int .i64 y42.side]) (k := ⟨fun w hm => hm.sub (by repeat (first | exact List.Sublist.refl _ | apply List.Sublist.cons_cons | apply List.Sublist.cons)), ?_⟩))
            refine aw_done (hJ1 ((y14.section_, y14.side, y42.section_, y42.side), (b45, b21)) _ _ hM ⟨rfl, rfl, rfl, trivial⟩ (fun w hm => hm.reord))
          ·
            refine aw_one 4 rfl (st_callv (fun w hm => let ⟨S, hs⟩ := hm; route_leaving_spec _ w y18 y42 hy43 (lend_lt hs) ) ⟨fun w hm => hm.sub (by repeat (first | exact List.Sublist.refl _ | apply List.Sublist.cons_cons | apply List.Sublist.cons)), ?_⟩)
            refine aw_one 7 rfl (st_store_all (b := b44) (vs := [.int .i64 y14.section_, .int .i64 y14.side]) (k := ⟨fun w hm => hm.sub (by repeat (first | exact List.Sublist.refl _ | apply List.Sublist.cons_cons | apply List.Sublist.cons)), ?_⟩))
            refine aw_one 8 rfl (st_store_all (b := b21) (vs := [.int .i64 y42.section_, .int .i64 y42.side]) (k := ⟨fun w hm => hm.sub (by repeat (first | exact List.Sublist.refl _ | apply List.Sublist.cons_cons | apply List.Sublist.cons)), ?_⟩))
            refine aw_done (hJ1 ((y14.section_, y14.side, y42.section_, y42.side), (b44, b21)) _ _ hM ⟨rfl, rfl, rfl, trivial⟩ (fun w hm => hm.reord))
        ·
          refine aw_one 3 rfl (st_callv (fun w hm => let ⟨S, hs⟩ := hm; layout_Reverse_spec _ w t0 y18 hy19 (lend_lt hs) ) ⟨fun w hm => hm.sub (by repeat (first | exact List.Sublist.refl _ | apply List.Sublist.cons_cons | apply List.Sublist.cons)), ?_⟩)
          obtain ⟨y46, hy47, hM⟩ := bind_some hM
          refine aw_one 4 rfl (st_callv (fun w hm => let ⟨S, hs⟩ := hm; route_leaving_spec _ w y18 y46 hy47 (lend_lt hs) ) ⟨fun w hm => hm.sub (by repeat (first | exact List.Sublist.refl _ | apply List.Sublist.cons_cons | apply List.Sublist.cons)), ?_⟩)
          refine aw_one 7 rfl (st_store_all (b := b41) (vs := [.int .i64 y14.section_, .int .i64 y14.side]) (k := ⟨fun w hm => hm.sub (by repeat (first | exact List.Sublist.refl _ | apply List.Sublist.cons_cons | apply List.Sublist.cons)), ?_⟩))
          refine aw_one 8 rfl (st_store_all (b := b21) (vs := [.int .i64 y46.section_, .int .i64 y46.side]) (k := ⟨fun w hm => hm.sub (by repeat (first | exact List.Sublist.refl _ | apply List.Sublist.cons_cons | apply List.Sublist.cons)), ?_⟩))
          refine aw_done (hJ1 ((y14.section_, y14.side, y46.section_, y46.side), (b41, b21)) _ _ hM ⟨rfl, rfl, rfl, trivial⟩ (fun w hm => hm.reord))
    ·
      refine aw_two 1 6 (⟨_, rfl, rfl, st_callv (fun w hm => let ⟨S, hs⟩ := hm; route_leaving_spec _ w s0 y14 hy15 (lend_lt hs) ) ⟨fun w hm => hm.sub (by repeat (first | exact List.Sublist.refl _ | apply List.Sublist.cons_cons | apply List.Sublist.cons)), ?_⟩⟩) (⟨_, rfl, rfl, st_alloc rfl (k := fun b48 => ⟨fun w hm => hm.sub (by repeat (first | exact List.Sublist.refl _ | apply List.Sublist.cons_cons | apply List.Sublist.cons)), ?_⟩)⟩)
      ·
        obtain ⟨y49, hy50, hM⟩ := bind_some hM
        refine aw_two 3 6 (⟨_, rfl, rfl, st_callv (fun w hm => let ⟨S, hs⟩ := hm; layout_Reverse_spec _ w t0 y49 hy50 (lend_lt hs) ) ⟨fun w hm => hm.sub (by repeat (first | exact List.Sublist.refl _ | apply List.Sublist.cons_cons | apply List.Sublist.cons)), ?_⟩⟩) (⟨_, rfl, rfl, st_alloc rfl (k := fun b51 => ⟨fun w hm => hm.sub (by repeat (first | exact List.Sublist.refl _ | apply List.Sublist.cons_cons | apply List.Sublist.cons)), ?_⟩)⟩)
        ·
          obtain ⟨y52, hy53, hM⟩ := bind_some hM
          refine aw_two 4 6 (⟨_, rfl, rfl, st_callv (fun w hm => let ⟨S, hs⟩ := hm; route_leaving_spec _ w y49 y52 hy53 (lend_lt hs) ) ⟨fun w hm => hm.sub (by repeat (first | exact List.Sublist.refl _ | apply List.Sublist.cons_cons | apply List.Sublist.cons)), ?_⟩⟩) (⟨_, rfl, rfl, st_alloc rfl (k := fun b54 => ⟨fun w hm => hm.sub (by repeat (first | exact List.Sublist.refl _ | apply List.Sublist.cons_cons | apply List.Sublist.cons)), ?_⟩)⟩)
          ·
            refine aw_one 6 rfl (st_alloc rfl (k := fun b55 => ⟨fun w hm => hm.sub (by repeat (first | exact List.Sublist.refl _ | apply List.Sublist.cons_cons | apply List.Sublist.cons)), ?_⟩))
            refine aw_one 7 rfl (st_store_all (b := b16) (vs := [.int .i64 y14.section_, .int .i64 y14.side]) (k := ⟨fun w hm => hm.sub (by repeat (first | exact List.Sublist.refl _ | apply List.Sublist.cons_cons | apply List.Sublist.cons)), ?_⟩))
            refine aw_one 8 rfl (st_store_all (b := b55) (vs := [.int .i64 y52.section_, .int .i64 y52.side]) (k := ⟨fun w hm => hm.sub (by repeat (first | exact List.Sublist.refl _ | apply List.Sublist.cons_cons | apply List.Sublist.cons)), ?_⟩))
            refine aw_done (hJ1 ((y14.section_, y14.side, y52.section_, y52.side), (b16, b55)) _ _ hM ⟨rfl, rfl, rfl, trivial⟩ (fun w hm => hm.reord))
          ·
            refine aw_one 4 rfl (st_callv (fun w hm => let ⟨S, hs⟩ := hm; route_leaving_spec _ w y49 y52 hy53 (lend_lt hs) ) ⟨fun w hm => hm.sub (by repeat (first | exact List.Sublist.refl _ | apply List.Sublist.cons_cons | apply List.Sublist.cons)), ?_⟩)
            refine aw_one 7 rfl (st_store_all (b := b16) (vs := [.int .i64 y14.section_, .int .i64 y14.side]) (k := ⟨fun w hm => hm.sub (by repeat (first | exact List.Sublist.refl _ | apply List.Sublist.cons_cons | apply List.Sublist.cons)), ?_⟩))
            refine aw_one 8 rfl (st_store_all (b := b54) (vs := [.int .i64 y52.section_, .int .i64 y52.side]) (k := ⟨fun w hm => hm.sub (by repeat (first | exact List.Sublist.refl _ | apply List.Sublist.cons_cons | apply List.Sublist.cons)), ?_⟩))
            refine aw_done (hJ1 ((y14.section_, y14.side, y52.section_, y52.side), (b16, b54)) _ _ hM ⟨rfl, rfl, rfl, trivial⟩ (fun w hm => hm.reord))
        ·
          refine aw_one 3 rfl (st_callv (fun w hm => let ⟨S, hs⟩ := hm; layout_Reverse_spec _ w t0 y49 hy50 (lend_lt hs) ) ⟨fun w hm => hm.sub (by repeat (first | exact List.Sublist.refl _ | apply List.Sublist.cons_cons | apply List.Sublist.cons)), ?_⟩)
          obtain ⟨y56, hy57, hM⟩ := bind_some hM
          refine aw_one 4 rfl (st_callv (fun w hm => let ⟨S, hs⟩ := hm; route_leaving_spec _ w y49 y56 hy57 (lend_lt hs) ) ⟨fun w hm => hm.sub (by repeat (first | exact List.Sublist.refl _ | apply List.Sublist.cons_cons | apply List.Sublist.cons)), ?_⟩)
          refine aw_one 7 rfl (st_store_all (b := b16) (vs := [.int .i64 y14.section_, .int .i64 y14.side]) (k := ⟨fun w hm => hm.sub (by repeat (first | exact List.Sublist.refl _ | apply List.Sublist.cons_cons | apply List.Sublist.cons)), ?_⟩))
          refine aw_one 8 rfl (st_store_all (b := b51) (vs := [.int .i64 y56.section_, .int .i64 y56.side]) (k := ⟨fun w hm => hm.sub (by repeat (first | exact List.Sublist.refl _ | apply List.Sublist.cons_cons | apply List.Sublist.cons)), ?_⟩))
          refine aw_done (hJ1 ((y14.section_, y14.side, y56.section_, y56.side), (b16, b51)) _ _ hM ⟨rfl, rfl, rfl, trivial⟩ (fun w hm => hm.reord))
      ·
        refine aw_one 1 rfl (st_callv (fun w hm => let ⟨S, hs⟩ := hm; route_leaving_spec _ w s0 y14 hy15 (lend_lt hs) ) ⟨fun w hm => hm.sub (by repeat (first | exact List.Sublist.refl _ | apply List.Sublist.cons_cons | apply List.Sublist.cons)), ?_⟩)
        obtain ⟨y58, hy59, hM⟩ := bind_some hM
        refine aw_one 3 rfl (st_callv (fun w hm => let ⟨S, hs⟩ := hm; layout_Reverse_spec _ w t0 y58 hy59 (lend_lt hs) ) ⟨fun w hm => hm.sub (by repeat (first | exact List.Sublist.refl _ | apply List.Sublist.cons_cons | apply List.Sublist.cons)), ?_⟩)
        obtain ⟨y60, hy61, hM⟩ := bind_some hM
        refine aw_one 4 rfl (st_callv (fun w hm => let ⟨S, hs⟩ := hm; route_leaving_spec _ w y58 y60 hy61 (lend_lt hs) ) ⟨fun w hm => hm.sub (by repeat (first | exact List.Sublist.refl _ | apply List.Sublist.cons_cons | apply List.Sublist.cons)), ?_⟩)
        refine aw_one 7 rfl (st_store_all (b := b16) (vs := [.int .i64 y14.section_, .int .i64 y14.side]) (k := ⟨fun w hm => hm.sub (by repeat (first | exact List.Sublist.refl _ | apply List.Sublist.cons_cons | apply List.Sublist.cons)), ?_⟩))
        refine aw_one 8 rfl (st_store_all (b := b48) (vs := [.int .i64 y60.section_, .int .i64 y60.side]) (k := ⟨fun w hm => hm.sub (by repeat (first | exact List.Sublist.refl _ | apply List.Sublist.cons_cons | apply List.Sublist.cons)), ?_⟩))
        refine aw_done (hJ1 ((y14.section_, y14.side, y60.section_, y60.side), (b16, b48)) _ _ hM ⟨rfl, rfl, rfl, trivial⟩ (fun w hm => hm.reord))
    ·
      refine aw_two 1 5 (⟨_, rfl, rfl, st_callv (fun w hm => let ⟨S, hs⟩ := hm; route_leaving_spec _ w s0 y14 hy15 (lend_lt hs) ) ⟨fun w hm => hm.sub (by repeat (first | exact List.Sublist.refl _ | apply List.Sublist.cons_cons | apply List.Sublist.cons)), ?_⟩⟩) (⟨_, rfl, rfl, st_alloc rfl (k := fun b62 => ⟨fun w hm => hm.sub (by repeat (first | exact List.Sublist.refl _ | apply List.Sublist.cons_cons | apply List.Sublist.cons)), ?_⟩)⟩)
      ·
        obtain ⟨y63, hy64, hM⟩ := bind_some hM
        refine aw_two 3 5 (⟨_, rfl, rfl, st_callv (fun w hm => let ⟨S, hs⟩ := hm; layout_Reverse_spec _ w t0 y63 hy64 (lend_lt hs) ) ⟨fun w hm => hm.sub (by repeat (first | exact List.Sublist.refl _ | apply List.Sublist.cons_cons | apply List.Sublist.cons)), ?_⟩⟩) (⟨_, rfl, rfl, st_alloc rfl (k := fun b65 => ⟨fun w hm => hm.sub (by repeat (first | exact List.Sublist.refl _ | apply List.Sublist.cons_cons | apply List.Sublist.cons)), ?_⟩)⟩)
        ·
          obtain ⟨y66, hy67, hM⟩ := bind_some hM
          refine aw_two 4 5 (⟨_, rfl, rfl, st_callv (fun w hm => let ⟨S, hs⟩ := hm; route_leaving_spec _ w y63 y66 hy67 (lend_lt hs) ) ⟨fun w hm => hm.sub (by repeat (first | exact List.Sublist.refl _ | apply List.Sublist.cons_cons | apply List.Sublist.cons)), ?_⟩⟩) (⟨_, rfl, rfl, st_alloc rfl (k := fun b68 => ⟨fun w hm => hm.sub (by repeat (first | exact List.Sublist.refl _ | apply List.Sublist.cons_cons | apply List.Sublist.cons)), ?_⟩)⟩)
          ·
            refine aw_one 5 rfl (st_alloc rfl (k := fun b69 => ⟨fun w hm => hm.sub (by repeat (first | exact List.Sublist.refl _ | apply List.Sublist.cons_cons | apply List.Sublist.cons)), ?_⟩))
            refine aw_one 7 rfl (st_store_all (b := b69) (vs := [.int .i64 y14.section_, .int .i64 y14.side]) (k := ⟨fun w hm => hm.sub (by repeat (first | exact List.Sublist.refl _ | apply List.Sublist.cons_cons | apply List.Sublist.cons)), ?_⟩))
            refine aw_one 8 rfl (st_store_all (b := b17) (vs := [.int .i64 y66.section_, .int .i64 y66.side]) (k := ⟨fun w hm => hm.sub (by repeat (first | exact List.Sublist.refl _ | apply List.Sublist.cons_cons | apply List.Sublist.cons)), ?_⟩))
            refine aw_done (hJ1 ((y14.section_, y14.side, y66.section_, y66.side), (b69, b17)) _ _ hM ⟨rfl, rfl, rfl, trivial⟩ (fun w hm => hm.reord))
          ·
            refine aw_one 4 rfl (st_callv (fun w hm => let ⟨S, hs⟩ := hm; route_leaving_spec _ w y63 y66 hy67 (lend_lt hs) ) ⟨fun w hm => hm.sub (by repeat (first | exact List.Sublist.refl _ | apply List.Sublist.cons_cons | apply List.Sublist.cons)), ?_⟩)
            refine aw_one 7 rfl (st_store_all (b := b68) (vs := [.int .i64 y14.section_, .int .i64 y14.side]) (k := ⟨fun w hm => hm.sub (by repeat (first | exact List.Sublist.refl _ | apply List.Sublist.cons_cons | apply List.Sublist.cons)), ?_⟩))
            refine aw_one 8 rfl (st_store_all (b := b17) (vs := [.int .i64 y66.section_, .int .i64 y66.side]) (k := ⟨fun w hm => hm.sub (by repeat (first | exact List.Sublist.refl _ | apply List.Sublist.cons_cons | apply List.Sublist.cons)), ?_⟩))
            refine aw_done (hJ1 ((y14.section_, y14.side, y66.section_, y66.side), (b68, b17)) _ _ hM ⟨rfl, rfl, rfl, trivial⟩ (fun w hm => hm.reord))
        ·
          refine aw_one 3 rfl (st_callv (fun w hm => let ⟨S, hs⟩ := hm; layout_Reverse_spec _ w t0 y63 hy64 (lend_lt hs) ) ⟨fun w hm => hm.sub (by repeat (first | exact List.Sublist.refl _ | apply List.Sublist.cons_cons | apply List.Sublist.cons)), ?_⟩)
          obtain ⟨y70, hy71, hM⟩ := bind_some hM
          refine aw_one 4 rfl (st_callv (fun w hm => let ⟨S, hs⟩ := hm; route_leaving_spec _ w y63 y70 hy71 (lend_lt hs) ) ⟨fun w hm => hm.sub (by repeat (first | exact List.Sublist.refl _ | apply List.Sublist.cons_cons | apply List.Sublist.cons)), ?_⟩)
          refine aw_one 7 rfl (st_store_all (b := b65) (vs := [.int .i64 y14.section_, .int .i64 y14.side]) (k := ⟨fun w hm => hm.sub (by repeat (first | exact List.Sublist.refl _ | apply List.Sublist.cons_cons | apply List.Sublist.cons)), ?_⟩))
          refine aw_one 8 rfl (st_store_all (b := b17) (vs := [.int .i64 y70.section_, .int .i64 y70.side]) (k := ⟨fun w hm => hm.sub (by repeat (first | exact List.Sublist.refl _ | apply List.Sublist.cons_cons | apply List.Sublist.cons)), ?_⟩))
          refine aw_done (hJ1 ((y14.section_, y14.side, y70.section_, y70.side), (b65, b17)) _ _ hM ⟨rfl, rfl, rfl, trivial⟩ (fun w hm => hm.reord))
      ·
        refine aw_one 1 rfl (st_callv (fun w hm => let ⟨S, hs⟩ := hm; route_leaving_spec _ w s0 y14 hy15 (lend_lt hs) ) ⟨fun w hm => hm.sub (by repeat (first | exact List.Sublist.refl _ | apply List.Sublist.cons_cons | apply List.Sublist.cons)), ?_⟩)
        obtain ⟨y72, hy73, hM⟩ := bind_some hM
        refine aw_one 3 rfl (st_callv (fun w hm => let ⟨S, hs⟩ := hm; layout_Reverse_spec _ w t0 y72 hy73 (lend_lt hs) ) ⟨fun w hm => hm.sub (by repeat (first | exact List.Sublist.refl _ | apply List.Sublist.cons_cons | apply List.Sublist.cons)), ?_⟩)
        obtain ⟨y74, hy75, hM⟩ := bind_some hM
        refine aw_one 4 rfl (st_callv (fun w hm => let ⟨S, hs⟩ := hm; route_leaving_spec _ w y72 y74 hy75 (lend_lt hs) ) ⟨fun w hm => hm.sub (by repeat (first | exact List.Sublist.refl _ | apply List.Sublist.cons_cons | apply List.Sublist.cons)), ?_⟩)
        refine aw_one 7 rfl (st_store_all (b := b62) (vs := [.int .i64 y14.section_, .int .i64 y14.side]) (k := ⟨fun w hm => hm.sub (by repeat (first | exact List.Sublist.refl _ | apply List.Sublist.cons_cons | apply List.Sublist.cons)), ?_⟩))
        refine aw_one 8 rfl (st_store_all (b := b17) (vs := [.int .i64 y74.section_, .int .i64 y74.side]) (k := ⟨fun w hm => hm.sub (by repeat (first | exact List.Sublist.refl _ | apply List.Sublist.cons_cons | apply List.Sublist.cons)), ?_⟩))
        refine aw_done (hJ1 ((y14.section_, y14.side, y74.section_, y74.side), (b62, b17)) _ _ hM ⟨rfl, rfl, rfl, trivial⟩ (fun w hm => hm.reord))
  ·
    clear hM
    intro g hM
    obtain ⟨⟨from_j1_0, from_j1_1, to_j1_0, to_j1_1⟩, ⟨bfrom_j1, bto_j1⟩⟩ := g
    dsimp only at hM ⊢
    dsimp only [route_transition_k1] at hM
    refine cw_seq fun K2 hK2 => ?_
    refine cw_seq fun K3 hK3 => ?_
    refine cw_region ?_
    refine ow_ev (ev_field_addr 3) ?_
    refine ow_ev (ev_load_own (b := b1)) ?_
    refine ow_have (fun w hm => Kn.len (Kn.imm (α := List Link) (r := r_l0.2.2.2) (x := l0.Links) (by repeat (first | exact Has.head | apply Has.tail))) hm) fun hl4 => ?_
    refine ow_ev ev_len ?_
    refine ow_ev ev_move ?_
    refine ow_nil (hK3 _ _ ?_); clear hK3
    refine cw_block ?_
    refine cw_loop (γ := Nat × Nat × Unit) (env := fun (_, t22_1, _) => [(8, .v (.pointer (some ⟨bfrom_j1, 0, none⟩))), (9, .v (.pointer (some ⟨bto_j1, 0, none⟩))), (20, .v (.slice r_l0.2.2.2.a l0.Links.length r_l0.2.2.2.cap)), (21, .v (.int .i64 (l0.Links.length : Int))), (22, .v (.int .i64 (t22_1 : Int)))]) (mem := fun (_, t22_1, _) => [own bfrom_j1 150 [.int .i64 from_j1_0, .int .i64 from_j1_1], own bto_j1 150 [.int .i64 to_j1_0, .int .i64 to_j1_1], imm (α := (List Link)) r_l0.2.2.2 l0.Links]) (R := fun g => iter (route_transition_b1 l0 from_j1_0 from_j1_1 to_j1_0 to_j1_1) g.1 g.2.1 = some y) (μ := fun g => g.1) (FUEL, 0, ()) hM ⟨rfl, rfl, rfl, rfl, rfl, trivial⟩ (fun w hm => hm.reord) ?_
    clear hM
    intro g hM KL1 hL1
    obtain ⟨nn1, t22_1, ⟨⟩⟩ := g
    dsimp only at hM ⊢
    obtain ⟨nn1, cont1, rfl, hcont1, hM⟩ := iter_open' hM
    dsimp only [route_transition_b1] at hM
    refine cw_seq fun K4 hK4 => ?_
    refine cw_region ?_
    refine ow_ev ev_lss ?_
    refine ow_nil (hK4 _ _ ?_); clear hK4
    refine cw_seq fun K5 hK5 => ?_
    refine cw_cond rfl (fun hc5 => ?_) (fun hc5 => ?_)
    ·
      replace hM := (ite_t hc5).symm.trans hM
      have hc5d := of_decide_eq_true hc5
      refine cw_skip (hK5 _ _ ?_); clear hK5
      refine cw_seq fun K6 hK6 => ?_
      refine cw_block ?_
      refine cw_seq fun K7 hK7 => ?_
      refine cw_region ?_
      obtain ⟨x6, hx7, hM⟩ := bind_some hM
      refine ow_ev (ev_idx (xs := l0.Links) 6 (Kn.imm (α := List Link) (r := r_l0.2.2.2) (x := l0.Links) (by repeat (first | exact Has.head | apply Has.tail))) (fun hg => let h := idx_some hx7; ⟨h.1, h.2.1⟩)) ?_
      refine ow_ev (ev_lds (m := 6) (i := (t22_1 : Int)) (xs := l0.Links) (y := x6) (l := [.int .i64 x6.A, .int .i64 x6.AEnd, .int .i64 x6.B, .int .i64 x6.BEnd, .int .i64 x6.Point, .int .i64 x6.Pos]) 0 (Kn.imm (α := List Link) (r := r_l0.2.2.2) (x := l0.Links) (by repeat (first | exact Has.head | apply Has.tail))) (fun _ => hx7)) ?_
      refine ow_cons (st_alloc rfl (k := fun b8 => ?_))
      refine ow_cons (st_store_all (b := b8) (vs := [.int .i64 x6.A, .int .i64 x6.AEnd, .int .i64 x6.B, .int .i64 x6.BEnd, .int .i64 x6.Point, .int .i64 x6.Pos]) (k := ?_))
      refine ow_nil (hK7 _ _ ?_); clear hK7
      refine cw_cut (γ := Unit × (Nat × Nat)) (env := fun (_, (ba_j3, bb_j3)) => [(8, .v (.pointer (some ⟨bfrom_j1, 0, none⟩))), (9, .v (.pointer (some ⟨bto_j1, 0, none⟩))), (11, .v (.pointer (some ⟨b8, 0, none⟩))), (12, .v (.pointer (some ⟨ba_j3, 0, none⟩))), (13, .v (.pointer (some ⟨bb_j3, 0, none⟩))), (20, .v (.slice r_l0.2.2.2.a l0.Links.length r_l0.2.2.2.cap)), (21, .v (.int .i64 (l0.Links.length : Int))), (22, .v (.int .i64 (t22_1 : Int)))]) (mem := fun (_, (ba_j3, bb_j3)) => [own bfrom_j1 150 [.int .i64 from_j1_0, .int .i64 from_j1_1], own bto_j1 150 [.int .i64 to_j1_0, .int .i64 to_j1_1], own b8 91 [.int .i64 x6.A, .int .i64 x6.AEnd, .int .i64 x6.B, .int .i64 x6.BEnd, .int .i64 x6.Point, .int .i64 x6.Pos], own ba_j3 150 [.int .i64 x6.A, .int .i64 x6.AEnd], own bb_j3 150 [.int .i64 x6.B, .int .i64 x6.BEnd], imm (α := (List Link)) r_l0.2.2.2 l0.Links]) (R := fun g => route_transition_k3 x6 from_j1_0 from_j1_1 to_j1_0 to_j1_1 cont1 t22_1 g.1 = some y) ?_ ?_
      · intro KJ3 hJ3
        refine cw_region_any _ (List.Sublist.refl _) ?_
        refine aw_ev 0 rfl (ev_field_addr 0) ?_
        refine aw_ev 1 rfl (ev_load_own (b := b8)) ?_
        refine aw_ev 2 rfl (ev_field_addr 1) ?_
        refine aw_ev 3 rfl (ev_load_own (b := b8)) ?_
        refine aw_ev 4 rfl (ev_build [.int .i64 x6.A, .int .i64 x6.AEnd]) ?_
        refine aw_ev 5 rfl (ev_field_addr 2) ?_
        refine aw_ev 6 rfl (ev_load_own (b := b8)) ?_
        refine aw_ev 7 rfl (ev_field_addr 3) ?_
        refine aw_ev 8 rfl (ev_load_own (b := b8)) ?_
        refine aw_ev 9 rfl (ev_build [.int .i64 x6.B, .int .i64 x6.BEnd]) ?_
        refine aw_two 10 11 (⟨_, rfl, rfl, st_alloc rfl (k := fun b10 => ⟨fun w hm => hm.sub (by repeat (first | exact List.Sublist.refl _ | apply List.Sublist.cons_cons | apply List.Sublist.cons)), ?_⟩)⟩) (⟨_, rfl, rfl, st_alloc rfl (k := fun b11 => ⟨fun w hm => hm.sub (by repeat (first | exact List.Sublist.refl _ | apply List.Sublist.cons_cons | apply List.Sublist.cons)), ?_⟩)⟩)
        ·
          refine aw_one 11 rfl (st_alloc rfl (k := fun b12 => ⟨fun w hm => hm.sub (by repeat (first | exact List.Sublist.refl _ | apply List.Sublist.cons_cons | apply List.Sublist.cons)), ?_⟩))
          refine aw_one 12 rfl (st_store_all (b := b10) (vs := [.int .i64 x6.A, .int .i64 x6.AEnd]) (k := ⟨fun w hm => hm.sub (by repeat (first | exact List.Sublist.refl _ | apply List.Sublist.cons_cons | apply List.Sublist.cons)), ?_⟩))
          refine aw_one 13 rfl (st_store_all (b := b12) (vs := [.int .i64 x6.B, .int .i64 x6.BEnd]) (k := ⟨fun w hm => hm.sub (by repeat (first | exact List.Sublist.refl _ | apply List.Sublist.cons_cons | apply List.Sublist.cons)), ?_⟩))
          refine aw_done (hJ3 ((), (b10, b12)) _ _ hM ⟨rfl, rfl, rfl, rfl, rfl, rfl, rfl, rfl, trivial⟩ (fun w hm => hm.reord))
        ·
          refine aw_one 10 rfl (st_alloc rfl (k := fun b13 => ⟨fun w hm => hm.sub (by repeat (first | exact List.Sublist.refl _ | apply List.Sublist.cons_cons | apply List.Sublist.cons)), ?_⟩))
          refine aw_one 12 rfl (st_store_all (b := b13) (vs := [.int .i64 x6.A, .int .i64 x6.AEnd]) (k := ⟨fun w hm => hm.sub (by repeat (first | exact List.Sublist.refl _ | apply List.Sublist.cons_cons | apply List.Sublist.cons)), ?_⟩))
          refine aw_one 13 rfl (st_store_all (b := b11) (vs := [.int .i64 x6.B, .int .i64 x6.BEnd]) (k := ⟨fun w hm => hm.sub (by repeat (first | exact List.Sublist.refl _ | apply List.Sublist.cons_cons | apply List.Sublist.cons)), ?_⟩))
          refine aw_done (hJ3 ((), (b13, b11)) _ _ hM ⟨rfl, rfl, rfl, rfl, rfl, rfl, rfl, rfl, trivial⟩ (fun w hm => hm.reord))
      ·
        clear hM
        intro g hM
        obtain ⟨⟨⟩, ⟨ba_j3, bb_j3⟩⟩ := g
        dsimp only at hM ⊢
        dsimp only [route_transition_k3] at hM
        refine cw_seq fun K8 hK8 => ?_
        refine cw_region ?_
        refine ow_ev (ev_load_all (b := ba_j3)) ?_
        refine ow_ev (ev_load_all (b := bfrom_j1)) ?_
        refine ow_ev (ev_eqlF [.int .i64, .int .i64] (decide ((Route_end.mk x6.A x6.AEnd) = (Route_end.mk from_j1_0 from_j1_1))) (Route_end_eqv _ _)) ?_
        refine ow_ev ev_move ?_
        refine ow_evg rfl (ev_load_all (b := bb_j3)) ?_
        refine ow_evg rfl (ev_load_all (b := bto_j1)) ?_
        refine ow_evg rfl (ev_eqlF [.int .i64, .int .i64] (decide ((Route_end.mk x6.B x6.BEnd) = (Route_end.mk to_j1_0 to_j1_1))) (Route_end_eqv _ _)) ?_
        refine ow_ev ev_and ?_
        refine ow_ev ev_move ?_
        refine ow_evg rfl (ev_load_all (b := ba_j3)) ?_
        refine ow_evg rfl (ev_load_all (b := bto_j1)) ?_
        refine ow_evg rfl (ev_eqlF [.int .i64, .int .i64] (decide ((Route_end.mk x6.A x6.AEnd) = (Route_end.mk to_j1_0 to_j1_1))) (Route_end_eqv _ _)) ?_
        refine ow_evg rfl ev_move ?_
        refine ow_evg rfl (ev_load_all (b := bb_j3)) ?_
        refine ow_evg rfl (ev_load_all (b := bfrom_j1)) ?_
        refine ow_evg rfl (ev_eqlF [.int .i64, .int .i64] (decide ((Route_end.mk x6.B x6.BEnd) = (Route_end.mk from_j1_0 from_j1_1))) (Route_end_eqv _ _)) ?_
        refine ow_evg rfl ev_and ?_
        refine ow_ev ev_or ?_
        refine ow_nil (hK8 _ _ ?_); clear hK8
        refine cw_cond rfl (fun hc9 => ?_) (fun hc9 => ?_)
        ·
          replace hM := (ite_t hc9).symm.trans hM
          refine cw_seq fun K9 hK9 => ?_
          refine cw_region ?_
          refine ow_ev (ev_field_addr 4) ?_
          refine ow_ev (ev_load_own (b := b8)) ?_
          refine ow_ev ev_assign ?_
          refine ow_ev ev_assign ?_
          refine ow_nil (hK9 _ _ ?_); clear hK9
          obtain rfl := some_inj hM
          refine cw_ret (kw_retc2 (fun w hm => ret_of hm rfl))
        ·
          replace hM := (ite_f hc9).symm.trans hM
          refine cw_skip (hK6 _ _ ?_); clear hK6
          refine cw_region ?_
          refine ow_ev (ev_add (hr := fun _ => by unfold I64; omega)) ?_
          refine ow_ev ev_move ?_
          refine ow_nil (hL1 (nn1, (t22_1 + 1), ()) _ _ (eqc hcont1 hM) (Nat.lt_succ_self _) ⟨rfl, rfl, rfl, rfl, rfl, trivial⟩ (fun w hm => hm.reord))
    ·
      replace hM := (ite_f hc5).symm.trans hM
      refine cw_exit (hK2 _ _ ?_); clear hK2
      dsimp only [route_transition_k2] at hM
      refine cw_seq fun K10 hK10 => ?_
      refine cw_region ?_
      refine ow_ev ev_assign ?_
      refine ow_ev ev_assign ?_
      refine ow_nil (hK10 _ _ ?_); clear hK10
      obtain rfl := some_inj hM
      refine cw_ret (kw_retc2 (fun w hm => ret_of hm rfl))

def route_points_k5 (llist_3 : List Int) : Unit → Option ((List Int) × Int) := fun _ =>
  some (llist_3, 0)
def route_points_b3 (l34 : List Step) (r0 : Route) (l0 : Layout) (cont3 : ((List Int) × Nat) → Option ((List Int) × Int)) : ((List Int) × Nat) → Option ((List Int) × Int) := fun (llist_3, t76_3) =>
  if decide ((t76_3 : Int) < (l34.length : Int)) then
    ((idx l34 (t76_3 : Int)).bind fun x40 =>
    (idx r0.Steps (t76_3 : Int)).bind fun x43 =>
    (route_transition_m l0 x43 x40).bind fun y45 =>
    if (!y45.2) then
      (some (([] : List Int), 11))
    else
      (chk (decide ((llist_3.length + ([y45.1] : List Int).length) * 8 ≤ 140737488355328)) <|
      cont3 ((llist_3 ++ ([y45.1] : List Int)), t76_3 + 1)))
  else
    (route_points_k5 llist_3 ())
def route_points_k4 (r0 : Route) (l0 : Layout) : Unit → Option ((List Int) × Int) := fun _ =>
  (sub r0.Steps 1 (r0.Steps.length : Int)).bind fun l34 =>
  iter (route_points_b3 l34 r0 l0) FUEL (([] : List Int), 0)
def route_points_b2 (r0 : Route) (l0 : Layout) (cont2 : ((List Bool) × Nat) → Option ((List Int) × Int)) : ((List Bool) × Nat) → Option ((List Int) × Int) := fun (lpassed_2, t58_2) =>
  if decide ((t58_2 : Int) < (r0.Steps.length : Int)) then
    ((idx r0.Steps (t58_2 : Int)).bind fun x25 =>
    (idx lpassed_2 x25.Section).bind fun x28 =>
    if x28 then
      (some (([] : List Int), 5))
    else
      ((idx lpassed_2 x25.Section).bind fun x32 =>
      cont2 ((lpassed_2.set x25.Section.toNat true), t58_2 + 1)))
  else
    (route_points_k4 r0 l0 ())
def route_points_k3 (l0 : Layout) (r0 : Route) : Unit → Option ((List Int) × Int) := fun _ =>
  (mk (α := Bool) false (l0.Sections.length : Int)).bind fun m20 =>
  iter (route_points_b2 r0 l0) FUEL (m20, 0)
def route_points_b1 (r0 : Route) (l0 : Layout) (cont1 : Nat → Option ((List Int) × Int)) : Nat → Option ((List Int) × Int) := fun t42_1 =>
  if decide ((t42_1 : Int) < (r0.Steps.length : Int)) then
    ((idx r0.Steps (t42_1 : Int)).bind fun x13 =>
    (route_isStep_m l0 x13).bind fun y16 =>
    if (!y16) then
      (some (([] : List Int), 4))
    else
      (cont1 (t42_1 + 1)))
  else
    (route_points_k3 l0 r0 ())
def route_points_k2 (r0 : Route) (l0 : Layout) : Bool → Option ((List Int) × Int) := fun t28_j2 =>
  if t28_j2 then
    (some (([] : List Int), 4))
  else
    (iter (route_points_b1 r0 l0) FUEL 0)
def route_points_k1 (r0 : Route) (l0 : Layout) : Bool → Option ((List Int) × Int) := fun t20_j1 =>
  if t20_j1 then
    (some (([] : List Int), 7))
  else
    (if decide (r0.Overlap < 0) then
      (route_points_k2 r0 l0 (decide (r0.Overlap < 0)))
    else
      (chk (i64b ((r0.Steps.length : Int) - r0.Overlap)) <|
      route_points_k2 r0 l0 (decide (((r0.Steps.length : Int) - r0.Overlap) < 2))))
def route_points_m (l0 : Layout) (r0 : Route) : Option ((List Int) × Int) :=
  (layout_Check_m l0).bind fun y3 =>
  if decide (y3 ≠ 0) then
    (some (([] : List Int), 1))
  else
    (if decide (24 < (r0.Steps.length : Int)) then
      (route_points_k1 r0 l0 (decide (24 < (r0.Steps.length : Int))))
    else
      (route_points_k1 r0 l0 (decide (2 < r0.Overlap))))
theorem route_points_spec (S : Soup) (w : World) (l0 : Layout) (r_l0 : GoRep.R Layout) (r0 : Route) (r_r0 : GoRep.R Route) (y : (List Int) × Int) (hM : route_points_m l0 r0 = some y) (hS : ∀ k, S k → k < w.heap.size) (h_l0 : GoRep.ok S w r_l0 l0) (h_r0 : GoRep.ok S w r_r0 r0) :
    Calls Try.prog 48 #[.agg #[.slice r_l0.1.a l0.Stations.length r_l0.1.cap, .slice r_l0.2.1.a l0.Points.length r_l0.2.1.cap, .slice r_l0.2.2.1.a l0.Sections.length r_l0.2.2.1.cap, .slice r_l0.2.2.2.a l0.Links.length r_l0.2.2.2.cap], .agg #[.slice r_r0.a r0.Steps.length r_r0.cap, .int .i64 r0.Overlap]] w (Post (β := (GoRep.R (List Int))) S [] (fun g => .tuple #[.slice g.a y.1.length g.cap, .int .i64 y.2]) (fun g => [trow 3 g y.1]) w) := by
  refine calls_cw (args := [_, _]) Try.func48 rfl ((pre_nil hS).start |>.immP (α := List Str) (r := r_l0.1) (x := l0.Stations) h_l0.1|>.immP (α := List Str) (r := r_l0.2.1) (x := l0.Points) h_l0.2.1|>.immP (α := List Section) (r := r_l0.2.2.1) (x := l0.Sections) h_l0.2.2.1|>.immP (α := List Link) (r := r_l0.2.2.2) (x := l0.Links) h_l0.2.2.2|>.immP (α := List Step) (r := r_r0) (x := r0.Steps) h_r0) rfl ?_
  unfold route_points_m at hM
  refine cw_seq fun K1 hK1 => ?_
  refine cw_region ?_
  refine ow_cons (st_box (l := [.slice r_l0.1.a l0.Stations.length r_l0.1.cap, .slice r_l0.2.1.a l0.Points.length r_l0.2.1.cap, .slice r_l0.2.2.1.a l0.Sections.length r_l0.2.2.1.cap, .slice r_l0.2.2.2.a l0.Links.length r_l0.2.2.2.cap]) (k := fun b1 => ?_))
  refine ow_cons (st_box (l := [.slice r_r0.a r0.Steps.length r_r0.cap, .int .i64 r0.Overlap]) (k := fun b2 => ?_))
  refine ow_ev ev_assign ?_
  refine ow_ev ev_assign ?_
  refine ow_nil (hK1 _ _ ?_); clear hK1
  refine cw_seq fun K2 hK2 => ?_
  refine cw_block ?_
  refine cw_seq fun K3 hK3 => ?_
  refine cw_region ?_
  refine ow_ev (ev_load_all (b := b1)) ?_
  obtain ⟨y3, hy4, hM⟩ := bind_some hM
  refine ow_cons (st_callv (fun w hm => let ⟨S, hs⟩ := hm; layout_Check_spec _ w l0 r_l0 y3 hy4 (lend_lt hs) ⟨(Kn.lend (Kn.imm (α := List Str) (r := r_l0.1) (x := l0.Stations) (by repeat (first | exact Has.head | apply Has.tail))) hs), (Kn.lend (Kn.imm (α := List Str) (r := r_l0.2.1) (x := l0.Points) (by repeat (first | exact Has.head | apply Has.tail))) hs), (Kn.lend (Kn.imm (α := List Section) (r := r_l0.2.2.1) (x := l0.Sections) (by repeat (first | exact Has.head | apply Has.tail))) hs), (Kn.lend (Kn.imm (α := List Link) (r := r_l0.2.2.2) (x := l0.Links) (by repeat (first | exact Has.head | apply Has.tail))) hs)⟩) ?_)
  refine ow_ev ev_neq ?_
  refine ow_ev ev_assign ?_
  refine ow_nil (hK3 _ _ ?_); clear hK3
  refine cw_cond rfl (fun hc5 => ?_) (fun hc5 => ?_)
  ·
    replace hM := (ite_t hc5).symm.trans hM
    refine cw_seq fun K4 hK4 => ?_
    refine cw_region ?_
    refine ow_ev ev_assign ?_
    refine ow_ev ev_assign ?_
    refine ow_nil (hK4 _ _ ?_); clear hK4
    refine cw_imp (fun w hm => hm.row_nil (α := Int) 3 (fun _ => ())) ?_
    obtain rfl := some_inj hM
    refine cw_ret (kw_retc2 (fun w hm => post_of (⟨none, 0, (fun _ => ())⟩ : SR (GoRep.R Int) ) hm rfl))
  ·
    replace hM := (ite_f hc5).symm.trans hM
    refine cw_cut (γ := Bool × Unit) (env := fun (t20_j1, _) => [(2, .v (.pointer (some ⟨b1, 0, none⟩))), (3, .v (.pointer (some ⟨b2, 0, none⟩))), (20, .v (.bool t20_j1))]) (mem := fun (t20_j1, _) => [imm (α := (List Str)) r_l0.1 l0.Stations, imm (α := (List Str)) r_l0.2.1 l0.Points, imm (α := (List Section)) r_l0.2.2.1 l0.Sections, imm (α := (List Link)) r_l0.2.2.2 l0.Links, own b1 28 [.slice r_l0.1.a l0.Stations.length r_l0.1.cap, .slice r_l0.2.1.a l0.Points.length r_l0.2.1.cap, .slice r_l0.2.2.1.a l0.Sections.length r_l0.2.2.1.cap, .slice r_l0.2.2.2.a l0.Links.length r_l0.2.2.2.cap], imm (α := (List Step)) r_r0 r0.Steps, own b2 48 [.slice r_r0.a r0.Steps.length r_r0.cap, .int .i64 r0.Overlap]]) (R := fun g => route_points_k1 r0 l0 g.1 = some y) ?_ ?_
    · intro KJ1 hJ1
      refine cw_seq fun K38 hK38 => ?_
      refine cw_region ?_
      refine ow_ev (ev_field_addr 0) ?_
      refine ow_ev (ev_load_own (b := b2)) ?_
      refine ow_ev ev_len ?_
      refine ow_ev ev_gtr ?_
      refine ow_ev ev_assign ?_
      refine ow_nil (hK38 _ _ ?_); clear hK38
      refine cw_cond rfl (fun hc54 => ?_) (fun hc54 => ?_)
      ·
        replace hM := (ite_t hc54).symm.trans hM
        refine cw_skip (hJ1 ((decide (24 < (r0.Steps.length : Int))), ()) _ _ hM ⟨rfl, rfl, rfl, trivial⟩ (fun w hm => hm.reord))
      ·
        replace hM := (ite_f hc54).symm.trans hM
        refine cw_region ?_
        refine ow_ev (ev_field_addr 1) ?_
        refine ow_ev (ev_load_own (b := b2)) ?_
        refine ow_ev ev_gtr ?_
        refine ow_ev ev_assign ?_
        refine ow_nil (hJ1 ((decide (2 < r0.Overlap)), ()) _ _ hM ⟨rfl, rfl, rfl, trivial⟩ (fun w hm => hm.reord))
    ·
      clear hM
      intro g hM
      obtain ⟨t20_j1, ⟨⟩⟩ := g
      dsimp only at hM ⊢
      dsimp only [route_points_k1] at hM
      refine cw_cond rfl (fun hc7 => ?_) (fun hc7 => ?_)
      ·
        replace hM := (ite_t hc7).symm.trans hM
        refine cw_seq fun K5 hK5 => ?_
        refine cw_region ?_
        refine ow_ev ev_assign ?_
        refine ow_ev ev_assign ?_
        refine ow_nil (hK5 _ _ ?_); clear hK5
        refine cw_imp (fun w hm => hm.row_nil (α := Int) 3 (fun _ => ())) ?_
        obtain rfl := some_inj hM
        refine cw_ret (kw_retc2 (fun w hm => post_of (⟨none, 0, (fun _ => ())⟩ : SR (GoRep.R Int)  ) hm rfl))
      ·
        replace hM := (ite_f hc7).symm.trans hM
        refine cw_cut (γ := Bool × Unit) (env := fun (t28_j2, _) => [(2, .v (.pointer (some ⟨b1, 0, none⟩))), (3, .v (.pointer (some ⟨b2, 0, none⟩))), (28, .v (.bool t28_j2))]) (mem := fun (t28_j2, _) => [imm (α := (List Str)) r_l0.1 l0.Stations, imm (α := (List Str)) r_l0.2.1 l0.Points, imm (α := (List Section)) r_l0.2.2.1 l0.Sections, imm (α := (List Link)) r_l0.2.2.2 l0.Links, own b1 28 [.slice r_l0.1.a l0.Stations.length r_l0.1.cap, .slice r_l0.2.1.a l0.Points.length r_l0.2.1.cap, .slice r_l0.2.2.1.a l0.Sections.length r_l0.2.2.1.cap, .slice r_l0.2.2.2.a l0.Links.length r_l0.2.2.2.cap], imm (α := (List Step)) r_r0 r0.Steps, own b2 48 [.slice r_r0.a r0.Steps.length r_r0.cap, .int .i64 r0.Overlap]]) (R := fun g => route_points_k2 r0 l0 g.1 = some y) ?_ ?_
        · intro KJ2 hJ2
          refine cw_seq fun K37 hK37 => ?_
          refine cw_region ?_
          refine ow_ev (ev_field_addr 1) ?_
          refine ow_ev (ev_load_own (b := b2)) ?_
          refine ow_ev ev_lss ?_
          refine ow_ev ev_assign ?_
          refine ow_nil (hK37 _ _ ?_); clear hK37
          refine cw_cond rfl (fun hc52 => ?_) (fun hc52 => ?_)
          ·
            replace hM := (ite_t hc52).symm.trans hM
            refine cw_skip (hJ2 ((decide (r0.Overlap < 0)), ()) _ _ hM ⟨rfl, rfl, rfl, trivial⟩ (fun w hm => hm.reord))
          ·
            replace hM := (ite_f hc52).symm.trans hM
            refine cw_region ?_
            refine ow_ev (ev_field_addr 0) ?_
            refine ow_ev (ev_load_own (b := b2)) ?_
            refine ow_ev ev_len ?_
            refine ow_ev (ev_field_addr 1) ?_
            refine ow_ev (ev_load_own (b := b2)) ?_
            obtain ⟨hI53, hM⟩ := chk_some hM
            refine ow_ev (ev_sub (hr := fun hg => i64b_I64 hI53)) ?_
            refine ow_ev ev_lss ?_
            refine ow_ev ev_assign ?_
            refine ow_nil (hJ2 ((decide (((r0.Steps.length : Int) - r0.Overlap) < 2)), ()) _ _ hM ⟨rfl, rfl, rfl, trivial⟩ (fun w hm => hm.reord))
        ·
          clear hM
          intro g hM
          obtain ⟨t28_j2, ⟨⟩⟩ := g
          dsimp only at hM ⊢
          dsimp only [route_points_k2] at hM
          refine cw_cond rfl (fun hc9 => ?_) (fun hc9 => ?_)
          ·
            replace hM := (ite_t hc9).symm.trans hM
            refine cw_seq fun K6 hK6 => ?_
            refine cw_region ?_
            refine ow_ev ev_assign ?_
            refine ow_ev ev_assign ?_
            refine ow_nil (hK6 _ _ ?_); clear hK6
            refine cw_imp (fun w hm => hm.row_nil (α := Int) 3 (fun _ => ())) ?_
            obtain rfl := some_inj hM
            refine cw_ret (kw_retc2 (fun w hm => post_of (⟨none, 0, (fun _ => ())⟩ : SR (GoRep.R Int)   ) hm rfl))
          ·
            replace hM := (ite_f hc9).symm.trans hM
            refine cw_skip (hK2 _ _ ?_); clear hK2
            refine cw_seq fun K7 hK7 => ?_
            refine cw_seq fun K8 hK8 => ?_
            refine cw_region ?_
            refine ow_ev (ev_field_addr 0) ?_
            refine ow_ev (ev_load_own (b := b2)) ?_
            refine ow_have (fun w hm => Kn.len (Kn.imm (α := List Step) (r := r_r0) (x := r0.Steps) (by repeat (first | exact Has.head | apply Has.tail))) hm) fun hl11 => ?_
            refine ow_ev ev_len ?_
            refine ow_ev ev_move ?_
            refine ow_nil (hK8 _ _ ?_); clear hK8
            refine cw_block ?_
            refine cw_loop (γ := Nat × Nat × Unit) (env := fun (_, t42_1, _) => [(2, .v (.pointer (some ⟨b1, 0, none⟩))), (3, .v (.pointer (some ⟨b2, 0, none⟩))), (40, .v (.slice r_r0.a r0.Steps.length r_r0.cap)), (41, .v (.int .i64 (r0.Steps.length : Int))), (42, .v (.int .i64 (t42_1 : Int)))]) (mem := fun (_, t42_1, _) => [imm (α := (List Str)) r_l0.1 l0.Stations, imm (α := (List Str)) r_l0.2.1 l0.Points, imm (α := (List Section)) r_l0.2.2.1 l0.Sections, imm (α := (List Link)) r_l0.2.2.2 l0.Links, own b1 28 [.slice r_l0.1.a l0.Stations.length r_l0.1.cap, .slice r_l0.2.1.a l0.Points.length r_l0.2.1.cap, .slice r_l0.2.2.1.a l0.Sections.length r_l0.2.2.1.cap, .slice r_l0.2.2.2.a l0.Links.length r_l0.2.2.2.cap], imm (α := (List Step)) r_r0 r0.Steps, own b2 48 [.slice r_r0.a r0.Steps.length r_r0.cap, .int .i64 r0.Overlap]]) (R := fun g => iter (route_points_b1 r0 l0) g.1 g.2.1 = some y) (μ := fun g => g.1) (FUEL, 0, ()) hM ⟨rfl, rfl, rfl, rfl, rfl, trivial⟩ (fun w hm => hm.reord) ?_
            clear hM
            intro g hM KL1 hL1
            obtain ⟨nn1, t42_1, ⟨⟩⟩ := g
            dsimp only at hM ⊢
            obtain ⟨nn1, cont1, rfl, hcont1, hM⟩ := iter_open' hM
            dsimp only [route_points_b1] at hM
            refine cw_seq fun K9 hK9 => ?_
            refine cw_region ?_
            refine ow_ev ev_lss ?_
            refine ow_nil (hK9 _ _ ?_); clear hK9
            refine cw_seq fun K10 hK10 => ?_
            refine cw_cond rfl (fun hc12 => ?_) (fun hc12 => ?_)
            ·
              replace hM := (ite_t hc12).symm.trans hM
              have hc12d := of_decide_eq_true hc12
              refine cw_skip (hK10 _ _ ?_); clear hK10
              refine cw_seq fun K11 hK11 => ?_
              refine cw_block ?_
              refine cw_seq fun K12 hK12 => ?_
              refine cw_region ?_
              obtain ⟨x13, hx14, hM⟩ := bind_some hM
              refine ow_ev (ev_idx (xs := r0.Steps) 2 (Kn.imm (α := List Step) (r := r_r0) (x := r0.Steps) (by repeat (first | exact Has.head | apply Has.tail))) (fun hg => let h := idx_some hx14; ⟨h.1, h.2.1⟩)) ?_
              refine ow_ev (ev_lds (m := 2) (i := (t42_1 : Int)) (xs := r0.Steps) (y := x13) (l := [.int .i64 x13.Section, .int .i64 x13.Dir]) 0 (Kn.imm (α := List Step) (r := r_r0) (x := r0.Steps) (by repeat (first | exact Has.head | apply Has.tail))) (fun _ => hx14)) ?_
              refine ow_cons (st_alloc rfl (k := fun b15 => ?_))
              refine ow_cons (st_store_all (b := b15) (vs := [.int .i64 x13.Section, .int .i64 x13.Dir]) (k := ?_))
              refine ow_nil (hK12 _ _ ?_); clear hK12
              refine cw_seq fun K13 hK13 => ?_
              refine cw_region ?_
              refine ow_ev (ev_load_all (b := b1)) ?_
              refine ow_ev (ev_load_all (b := b15)) ?_
              obtain ⟨y16, hy17, hM⟩ := bind_some hM
              refine ow_cons (st_callv (fun w hm => let ⟨S, hs⟩ := hm; route_isStep_spec _ w l0 r_l0 x13 y16 hy17 (lend_lt hs) ⟨(Kn.lend (Kn.imm (α := List Str) (r := r_l0.1) (x := l0.Stations) (by repeat (first | exact Has.head | apply Has.tail))) hs), (Kn.lend (Kn.imm (α := List Str) (r := r_l0.2.1) (x := l0.Points) (by repeat (first | exact Has.head | apply Has.tail))) hs), (Kn.lend (Kn.imm (α := List Section) (r := r_l0.2.2.1) (x := l0.Sections) (by repeat (first | exact Has.head | apply Has.tail))) hs), (Kn.lend (Kn.imm (α := List Link) (r := r_l0.2.2.2) (x := l0.Links) (by repeat (first | exact Has.head | apply Has.tail))) hs)⟩) ?_)
              refine ow_ev ev_not ?_
              refine ow_nil (hK13 _ _ ?_); clear hK13
              refine cw_cond rfl (fun hc18 => ?_) (fun hc18 => ?_)
              ·
                replace hM := (ite_t hc18).symm.trans hM
                refine cw_seq fun K14 hK14 => ?_
                refine cw_region ?_
                refine ow_ev ev_assign ?_
                refine ow_ev ev_assign ?_
                refine ow_nil (hK14 _ _ ?_); clear hK14
                refine cw_imp (fun w hm => hm.row_nil (α := Int) 3 (fun _ => ())) ?_
                obtain rfl := some_inj hM
                refine cw_ret (kw_retc2 (fun w hm => post_of (⟨none, 0, (fun _ => ())⟩ : SR (GoRep.R Int)                                                                                                                                                    ) hm rfl))
              ·
                replace hM := (ite_f hc18).symm.trans hM
                refine cw_skip (hK11 _ _ ?_); clear hK11
                refine cw_region ?_
                refine ow_ev (ev_add (hr := fun _ => by unfold I64; omega)) ?_
                refine ow_ev ev_move ?_
                refine ow_nil (hL1 (nn1, (t42_1 + 1), ()) _ _ (eqc hcont1 hM) (Nat.lt_succ_self _) ⟨rfl, rfl, rfl, rfl, rfl, trivial⟩ (fun w hm => hm.reord))
            ·
              replace hM := (ite_f hc12).symm.trans hM
              refine cw_exit (hK7 _ _ ?_); clear hK7
              dsimp only [route_points_k3] at hM
              refine cw_seq fun K15 hK15 => ?_
              refine cw_region ?_
              refine ow_ev (ev_field_addr 2) ?_
              refine ow_ev (ev_load_own (b := b1)) ?_
              refine ow_ev ev_len ?_
              obtain ⟨m20, hm21, hM⟩ := bind_some hM
              refine ow_cons (st_make (α := Bool) (e := 4) false () hm21 (fun _ _ => trivial) (fun r22 hr22 => ?_))
              refine ow_ev ev_assign ?_
              refine ow_nil (hK15 _ _ ?_); clear hK15
              refine cw_seq fun K16 hK16 => ?_
              refine cw_seq fun K17 hK17 => ?_
              refine cw_region ?_
              refine ow_ev (ev_field_addr 0) ?_
              refine ow_ev (ev_load_own (b := b2)) ?_
              refine ow_have (fun w hm => Kn.len (Kn.imm (α := List Step) (r := r_r0) (x := r0.Steps) (by repeat (first | exact Has.head | apply Has.tail))) hm) fun hl23 => ?_
              refine ow_ev ev_len ?_
              refine ow_ev ev_move ?_
              refine ow_nil (hK17 _ _ ?_); clear hK17
              refine cw_block ?_
              refine cw_loop (γ := Nat × ((List Bool) × Nat) × Unit) (env := fun (_, (lpassed_2, t58_2), _) => [(2, .v (.pointer (some ⟨b1, 0, none⟩))), (3, .v (.pointer (some ⟨b2, 0, none⟩))), (8, .v (.slice r22.a lpassed_2.length r22.cap)), (56, .v (.slice r_r0.a r0.Steps.length r_r0.cap)), (57, .v (.int .i64 (r0.Steps.length : Int))), (58, .v (.int .i64 (t58_2 : Int)))]) (mem := fun (_, (lpassed_2, t58_2), _) => [imm (α := (List Str)) r_l0.1 l0.Stations, imm (α := (List Str)) r_l0.2.1 l0.Points, imm (α := (List Section)) r_l0.2.2.1 l0.Sections, imm (α := (List Link)) r_l0.2.2.2 l0.Links, own b1 28 [.slice r_l0.1.a l0.Stations.length r_l0.1.cap, .slice r_l0.2.1.a l0.Points.length r_l0.2.1.cap, .slice r_l0.2.2.1.a l0.Sections.length r_l0.2.2.1.cap, .slice r_l0.2.2.2.a l0.Links.length r_l0.2.2.2.cap], imm (α := (List Step)) r_r0 r0.Steps, own b2 48 [.slice r_r0.a r0.Steps.length r_r0.cap, .int .i64 r0.Overlap], trow 4 r22 lpassed_2]) (R := fun g => iter (route_points_b2 r0 l0) g.1 g.2.1 = some y) (μ := fun g => g.1) (FUEL, (m20, 0), ()) hM ⟨rfl, rfl, rfl, rfl, rfl, rfl, trivial⟩ (fun w hm => hm.reord) ?_
              clear hM
              intro g hM KL2 hL2
              obtain ⟨nn2, ⟨lpassed_2, t58_2⟩, ⟨⟩⟩ := g
              dsimp only at hM ⊢
              obtain ⟨nn2, cont2, rfl, hcont2, hM⟩ := iter_open' hM
              dsimp only [route_points_b2] at hM
              refine cw_seq fun K18 hK18 => ?_
              refine cw_region ?_
              refine ow_ev ev_lss ?_
              refine ow_nil (hK18 _ _ ?_); clear hK18
              refine cw_seq fun K19 hK19 => ?_
              refine cw_cond rfl (fun hc24 => ?_) (fun hc24 => ?_)
              ·
                replace hM := (ite_t hc24).symm.trans hM
                have hc24d := of_decide_eq_true hc24
                refine cw_skip (hK19 _ _ ?_); clear hK19
                refine cw_seq fun K20 hK20 => ?_
                refine cw_block ?_
                refine cw_seq fun K21 hK21 => ?_
                refine cw_region ?_
                obtain ⟨x25, hx26, hM⟩ := bind_some hM
                refine ow_ev (ev_idx (xs := r0.Steps) 2 (Kn.imm (α := List Step) (r := r_r0) (x := r0.Steps) (by repeat (first | exact Has.head | apply Has.tail))) (fun hg => let h := idx_some hx26; ⟨h.1, h.2.1⟩)) ?_
                refine ow_ev (ev_lds (m := 2) (i := (t58_2 : Int)) (xs := r0.Steps) (y := x25) (l := [.int .i64 x25.Section, .int .i64 x25.Dir]) 0 (Kn.imm (α := List Step) (r := r_r0) (x := r0.Steps) (by repeat (first | exact Has.head | apply Has.tail))) (fun _ => hx26)) ?_
                refine ow_cons (st_alloc rfl (k := fun b27 => ?_))
                refine ow_cons (st_store_all (b := b27) (vs := [.int .i64 x25.Section, .int .i64 x25.Dir]) (k := ?_))
                refine ow_nil (hK21 _ _ ?_); clear hK21
                refine cw_seq fun K22 hK22 => ?_
                refine cw_seq fun K23 hK23 => ?_
                refine cw_region ?_
                refine ow_ev ev_move ?_
                refine ow_ev (ev_field_addr 0) ?_
                refine ow_ev (ev_load_own (b := b27)) ?_
                obtain ⟨x28, hx29, hM⟩ := bind_some hM
                refine ow_ev (ev_idx (xs := lpassed_2) 1 (Kn.trow (e := 4) (r := r22) (by repeat (first | exact Has.head | apply Has.tail))) (fun hg => let h := idx_some hx29; ⟨h.1, h.2.1⟩)) ?_
                refine ow_ev (ev_ld (i := x25.Section) (xs := lpassed_2) (y := x28) 0 (Kn.trow (e := 4) (r := r22) (by repeat (first | exact Has.head | apply Has.tail))) (fun _ => hx29)) ?_
                refine ow_nil (hK23 _ _ ?_); clear hK23
                refine cw_cond rfl (fun hc30 => ?_) (fun hc30 => ?_)
                ·
                  replace hM := (ite_t hc30).symm.trans hM
                  refine cw_seq fun K24 hK24 => ?_
                  refine cw_region ?_
                  refine ow_ev ev_assign ?_
                  refine ow_ev ev_assign ?_
                  refine ow_nil (hK24 _ _ ?_); clear hK24
                  refine cw_imp (fun w hm => hm.row_nil (α := Int) 3 (fun _ => ())) ?_
                  obtain rfl := some_inj hM
                  refine cw_ret (kw_retc2 (fun w hm => post_of (⟨none, 0, (fun _ => ())⟩ : SR (GoRep.R Int)                                                                                                                                                                                 ) hm rfl))
                ·
                  replace hM := (ite_f hc30).symm.trans hM
                  refine cw_skip (hK22 _ _ ?_); clear hK22
                  refine cw_region ?_
                  refine ow_ev ev_move ?_
                  refine ow_ev (ev_field_addr 0) ?_
                  refine ow_ev (ev_load_own (b := b27)) ?_
                  obtain ⟨x32, hx33, hM⟩ := bind_some hM
                  refine ow_ev (ev_idx (xs := lpassed_2) 1 (Kn.trow (e := 4) (r := r22) (by repeat (first | exact Has.head | apply Has.tail))) (fun hg => let h := idx_some hx33; ⟨h.1, h.2.1⟩)) ?_
                  refine ow_cons (st_set (r := r22) (i := x25.Section) (xs := lpassed_2) (u := x32) (vs := [.bool true]) 0 true hx33 rfl (fun _ _ h => h) (by repeat (first | exact Upd.head | apply Upd.tail)) ?_)
                  refine ow_nil (hK20 _ _ ?_); clear hK20
                  refine cw_region ?_
                  refine ow_ev (ev_add (hr := fun _ => by unfold I64; omega)) ?_
                  refine ow_ev ev_move ?_
                  refine ow_nil (hL2 (nn2, ((lpassed_2.set x25.Section.toNat true), t58_2 + 1), ()) _ _ (eqc hcont2 hM) (Nat.lt_succ_self _) ⟨rfl, rfl, (by simp only [List.length_set]; rfl), rfl, rfl, rfl, trivial⟩ (fun w hm => hm.reord))
              ·
                replace hM := (ite_f hc24).symm.trans hM
                refine cw_exit (hK16 _ _ ?_); clear hK16
                dsimp only [route_points_k4] at hM
                refine cw_seq fun K25 hK25 => ?_
                refine cw_region ?_
                refine ow_ev ev_assign ?_
                refine ow_nil (hK25 _ _ ?_); clear hK25
                refine cw_seq fun K26 hK26 => ?_
                refine cw_seq fun K27 hK27 => ?_
                refine cw_region ?_
                refine ow_ev (ev_field_addr 0) ?_
                refine ow_ev (ev_load_own (b := b2)) ?_
                obtain ⟨l34, hl35, hM⟩ := bind_some hM
                refine ow_cons (st_sub (r := r_r0) (xs := r0.Steps) (ol := some (.i64, 1)) (oh := none) (Sk.imm (α := List Step) (r := r_r0) (x := r0.Steps) (by repeat (first | exact Has.head | apply Has.tail))) hl35 (fun r36 => ?_))
                refine ow_have (fun w hm => Kn.len (Kn.imm (α := List Step) (r := r36) (x := l34) (by repeat (first | exact Has.head | apply Has.tail))) hm) fun hl37 => ?_
                refine ow_ev ev_len ?_
                refine ow_ev ev_move ?_
                refine ow_nil (hK27 _ _ ?_); clear hK27
                refine cw_block ?_
                refine cw_imp (fun w hm => hm.row_nil (α := Int) 3 (fun _ => ())) ?_
                refine cw_loop (γ := Nat × ((List Int) × Nat) × (SR (GoRep.R Int))) (env := fun (_, (llist_3, t76_3), rlist_3) => [(2, .v (.pointer (some ⟨b1, 0, none⟩))), (3, .v (.pointer (some ⟨b2, 0, none⟩))), (11, .v (.slice rlist_3.a llist_3.length rlist_3.cap)), (74, .v (.slice r36.a l34.length r36.cap)), (75, .v (.int .i64 (l34.length : Int))), (76, .v (.int .i64 (t76_3 : Int)))]) (mem := fun (_, (llist_3, t76_3), rlist_3) => [imm (α := (List Str)) r_l0.1 l0.Stations, imm (α := (List Str)) r_l0.2.1 l0.Points, imm (α := (List Section)) r_l0.2.2.1 l0.Sections, imm (α := (List Link)) r_l0.2.2.2 l0.Links, own b1 28 [.slice r_l0.1.a l0.Stations.length r_l0.1.cap, .slice r_l0.2.1.a l0.Points.length r_l0.2.1.cap, .slice r_l0.2.2.1.a l0.Sections.length r_l0.2.2.1.cap, .slice r_l0.2.2.2.a l0.Links.length r_l0.2.2.2.cap], imm (α := (List Step)) r_r0 r0.Steps, own b2 48 [.slice r_r0.a r0.Steps.length r_r0.cap, .int .i64 r0.Overlap], trow 3 rlist_3 llist_3, imm (α := (List Step)) r36 l34]) (R := fun g => iter (route_points_b3 l34 r0 l0) g.1 g.2.1 = some y) (μ := fun g => g.1) (FUEL, (([] : List Int), 0), (⟨none, 0, (fun _ => ())⟩ : SR (GoRep.R Int)                                                                                                                                                                                  )) hM ⟨rfl, rfl, rfl, rfl, rfl, rfl, trivial⟩ (fun w hm => hm.reord) ?_
                clear hM
                intro g hM KL3 hL3
                obtain ⟨nn3, ⟨llist_3, t76_3⟩, rlist_3⟩ := g
                dsimp only at hM ⊢
                obtain ⟨nn3, cont3, rfl, hcont3, hM⟩ := iter_open' hM
                dsimp only [route_points_b3] at hM
                refine cw_seq fun K28 hK28 => ?_
                refine cw_region ?_
                refine ow_ev ev_lss ?_
                refine ow_nil (hK28 _ _ ?_); clear hK28
                refine cw_seq fun K29 hK29 => ?_
                refine cw_cond rfl (fun hc39 => ?_) (fun hc39 => ?_)
                ·
                  replace hM := (ite_t hc39).symm.trans hM
                  have hc39d := of_decide_eq_true hc39
                  refine cw_skip (hK29 _ _ ?_); clear hK29
                  refine cw_seq fun K30 hK30 => ?_
                  refine cw_block ?_
                  refine cw_seq fun K31 hK31 => ?_
                  refine cw_region ?_
                  refine ow_ev ev_move ?_
                  obtain ⟨x40, hx41, hM⟩ := bind_some hM
                  refine ow_ev (ev_idx (xs := l34) 2 (Kn.imm (α := List Step) (r := r36) (x := l34) (by repeat (first | exact Has.head | apply Has.tail))) (fun hg => let h := idx_some hx41; ⟨h.1, h.2.1⟩)) ?_
                  refine ow_ev (ev_lds (m := 2) (i := (t76_3 : Int)) (xs := l34) (y := x40) (l := [.int .i64 x40.Section, .int .i64 x40.Dir]) 0 (Kn.imm (α := List Step) (r := r36) (x := l34) (by repeat (first | exact Has.head | apply Has.tail))) (fun _ => hx41)) ?_
                  refine ow_cons (st_alloc rfl (k := fun b42 => ?_))
                  refine ow_ev ev_assign ?_
                  refine ow_cons (st_store_all (b := b42) (vs := [.int .i64 x40.Section, .int .i64 x40.Dir]) (k := ?_))
                  refine ow_nil (hK31 _ _ ?_); clear hK31
                  refine cw_seq fun K32 hK32 => ?_
                  refine cw_region_any _ (List.Sublist.refl _) ?_
                  refine aw_ev 0 rfl (ev_load_all (b := b1)) ?_
                  refine aw_ev 1 rfl (ev_field_addr 0) ?_
                  refine aw_ev 2 rfl (ev_load_own (b := b2)) ?_
                  refine aw_ev 3 rfl ev_move ?_
                  obtain ⟨x43, hx44, hM⟩ := bind_some hM
                  refine aw_ev 4 rfl (ev_idx (xs := r0.Steps) 2 (Kn.imm (α := List Step) (r := r_r0) (x := r0.Steps) (by repeat (first | exact Has.head | apply Has.tail))) (fun hg => let h := idx_some hx44; ⟨h.1, h.2.1⟩)) ?_
                  refine aw_ev 5 rfl (ev_lds (m := 2) (i := (t76_3 : Int)) (xs := r0.Steps) (y := x43) (l := [.int .i64 x43.Section, .int .i64 x43.Dir]) 0 (Kn.imm (α := List Step) (r := r_r0) (x := r0.Steps) (by repeat (first | exact Has.head | apply Has.tail))) (fun _ => hx44)) ?_
                  refine aw_ev 6 rfl (ev_load_all (b := b42)) ?_
                  obtain ⟨y45, hy46, hM⟩ := bind_some hM
                  refine aw_one 7 rfl (st_callv (fun w hm => let ⟨S, hs⟩ := hm; route_transition_spec _ w l0 r_l0 x43 x40 y45 hy46 (lend_lt hs) ⟨(Kn.lend (Kn.imm (α := List Str) (r := r_l0.1) (x := l0.Stations) (by repeat (first | exact Has.head | apply Has.tail))) hs), (Kn.lend (Kn.imm (α := List Str) (r := r_l0.2.1) (x := l0.Points) (by repeat (first | exact Has.head | apply Has.tail))) hs), (Kn.lend (Kn.imm (α := List Section) (r := r_l0.2.2.1) (x := l0.Sections) (by repeat (first | exact Has.head | apply Has.tail))) hs), (Kn.lend (Kn.imm (α := List Link) (r := r_l0.2.2.2) (x := l0.Links) (by repeat (first | exact Has.head | apply Has.tail))) hs)⟩) ⟨fun w hm => hm.sub (by repeat (first | exact List.Sublist.refl _ | apply List.Sublist.cons_cons | apply List.Sublist.cons)), ?_⟩)
                  refine aw_ev 8 rfl ev_move ?_
                  refine aw_ev 9 rfl (ev_extract (vs := [.int .i64 y45.1, .bool y45.2])) ?_
                  refine aw_ev 10 rfl (ev_extract (vs := [.int .i64 y45.1, .bool y45.2])) ?_
                  refine aw_ev 11 rfl ev_assign ?_
                  refine aw_ev 12 rfl ev_assign ?_
                  refine aw_done (hK32 _ _ ?_); clear hK32
                  refine cw_seq fun K33 hK33 => ?_
                  refine cw_seq fun K34 hK34 => ?_
                  refine cw_region ?_
                  refine ow_ev ev_move ?_
                  refine ow_ev ev_not ?_
                  refine ow_nil (hK34 _ _ ?_); clear hK34
                  refine cw_cond rfl (fun hc47 => ?_) (fun hc47 => ?_)
                  ·
                    replace hM := (ite_t hc47).symm.trans hM
                    refine cw_seq fun K35 hK35 => ?_
                    refine cw_region ?_
                    refine ow_ev ev_assign ?_
                    refine ow_ev ev_assign ?_
                    refine ow_nil (hK35 _ _ ?_); clear hK35
                    refine cw_imp (fun w hm => hm.row_nil (α := Int) 3 (fun _ => ())) ?_
                    obtain rfl := some_inj hM
                    refine cw_ret (kw_retc2 (fun w hm => post_of (⟨none, 0, (fun _ => ())⟩ : SR (GoRep.R Int)                                                                                                                                                                                       ) hm rfl))
                  ·
                    replace hM := (ite_f hc47).symm.trans hM
                    refine cw_skip (hK33 _ _ ?_); clear hK33
                    refine cw_region ?_
                    refine ow_ev ev_move ?_
                    refine ow_ev ev_move ?_
                    refine ow_cons (st_bslice (α := Int) 3 (fun _ => ()) ([y45.1] : List Int) (OkL.flat (fun _ _ _ _ => trivial)) (fun r49 => ?_))
                    obtain ⟨hb50, hM⟩ := chk_some hM
                    refine ow_cons (st_append (r := rlist_3) (r2 := r49) (by intro r'; repeat (first | exact Upd.head | apply Upd.tail)) (Kn.trow (e := 3) (r := r49) (by repeat (first | exact Has.head | apply Has.tail))) (OkL.flat (fun _ _ _ _ => trivial)) (of_decide_eq_true hb50) (fun r51 => ?_))
                    refine ow_ev ev_assign ?_
                    refine ow_nil (hK30 _ _ ?_); clear hK30
                    refine cw_region ?_
                    refine ow_ev (ev_add (hr := fun _ => by unfold I64; omega)) ?_
                    refine ow_ev ev_move ?_
                    refine ow_nil (hL3 (nn3, ((llist_3 ++ ([y45.1] : List Int)), t76_3 + 1), r51) _ _ (eqc hcont3 hM) (Nat.lt_succ_self _) ⟨rfl, rfl, rfl, rfl, rfl, rfl, trivial⟩ (fun w hm => hm.reord))
                ·
                  replace hM := (ite_f hc39).symm.trans hM
                  refine cw_exit (hK26 _ _ ?_); clear hK26
                  dsimp only [route_points_k5] at hM
                  refine cw_seq fun K36 hK36 => ?_
                  refine cw_region ?_
                  refine ow_ev ev_move ?_
                  refine ow_ev ev_assign ?_
                  refine ow_ev ev_assign ?_
                  refine ow_nil (hK36 _ _ ?_); clear hK36
                  obtain rfl := some_inj hM
                  refine cw_ret (kw_retc2 (fun w hm => post_of rlist_3 hm rfl))

def route_Check_m (l0 : Layout) (r0 : Route) : Option Int :=
  (route_points_m l0 r0).bind fun y3 =>
  some y3.2
theorem route_Check_spec (S : Soup) (w : World) (l0 : Layout) (r_l0 : GoRep.R Layout) (r0 : Route) (r_r0 : GoRep.R Route) (y : Int) (hM : route_Check_m l0 r0 = some y) (hS : ∀ k, S k → k < w.heap.size) (h_l0 : GoRep.ok S w r_l0 l0) (h_r0 : GoRep.ok S w r_r0 r0) :
    Calls Try.prog 25 #[.agg #[.slice r_l0.1.a l0.Stations.length r_l0.1.cap, .slice r_l0.2.1.a l0.Points.length r_l0.2.1.cap, .slice r_l0.2.2.1.a l0.Sections.length r_l0.2.2.1.cap, .slice r_l0.2.2.2.a l0.Links.length r_l0.2.2.2.cap], .agg #[.slice r_r0.a r0.Steps.length r_r0.cap, .int .i64 r0.Overlap]] w (Ret w (.int .i64 y)) := by
  refine calls_cw (args := [_, _]) Try.func25 rfl ((pre_nil hS).start |>.immP (α := List Str) (r := r_l0.1) (x := l0.Stations) h_l0.1|>.immP (α := List Str) (r := r_l0.2.1) (x := l0.Points) h_l0.2.1|>.immP (α := List Section) (r := r_l0.2.2.1) (x := l0.Sections) h_l0.2.2.1|>.immP (α := List Link) (r := r_l0.2.2.2) (x := l0.Links) h_l0.2.2.2|>.immP (α := List Step) (r := r_r0) (x := r0.Steps) h_r0) rfl ?_
  unfold route_Check_m at hM
  refine cw_seq fun K1 hK1 => ?_
  refine cw_region ?_
  refine ow_cons (st_box (l := [.slice r_l0.1.a l0.Stations.length r_l0.1.cap, .slice r_l0.2.1.a l0.Points.length r_l0.2.1.cap, .slice r_l0.2.2.1.a l0.Sections.length r_l0.2.2.1.cap, .slice r_l0.2.2.2.a l0.Links.length r_l0.2.2.2.cap]) (k := fun b1 => ?_))
  refine ow_cons (st_box (l := [.slice r_r0.a r0.Steps.length r_r0.cap, .int .i64 r0.Overlap]) (k := fun b2 => ?_))
  refine ow_ev ev_assign ?_
  refine ow_nil (hK1 _ _ ?_); clear hK1
  refine cw_seq fun K2 hK2 => ?_
  refine cw_region ?_
  refine ow_ev (ev_load_all (b := b1)) ?_
  refine ow_ev (ev_load_all (b := b2)) ?_
  obtain ⟨y3, hy4, hM⟩ := bind_some hM
  refine ow_cons (st_callF SelL.nil (fun S w hs hP => route_points_spec _ w l0 r_l0 r0 r_r0 y3 hy4 (lend_lt hs) ⟨(Kn.lend (Kn.imm (α := List Str) (r := r_l0.1) (x := l0.Stations) (by repeat (first | exact Has.head | apply Has.tail))) hs), (Kn.lend (Kn.imm (α := List Str) (r := r_l0.2.1) (x := l0.Points) (by repeat (first | exact Has.head | apply Has.tail))) hs), (Kn.lend (Kn.imm (α := List Section) (r := r_l0.2.2.1) (x := l0.Sections) (by repeat (first | exact Has.head | apply Has.tail))) hs), (Kn.lend (Kn.imm (α := List Link) (r := r_l0.2.2.2) (x := l0.Links) (by repeat (first | exact Has.head | apply Has.tail))) hs)⟩ (Kn.lend (Kn.imm (α := List Step) (r := r_r0) (x := r0.Steps) (by repeat (first | exact Has.head | apply Has.tail))) hs)) (by intro r c hc; simp only [List.mem_cons, List.not_mem_nil, or_false] at hc; rcases hc with rfl <;> first | exact flatC_own | exact flatC_trow (fun _ _ _ _ => trivial)) (fun r5 => ?_))
  dsimp only [List.cons_append, List.nil_append]
  refine ow_ev ev_move ?_
  refine ow_ev (ev_extract (vs := [.slice r5.a y3.1.length r5.cap, .int .i64 y3.2])) ?_
  refine ow_ev (ev_extract (vs := [.slice r5.a y3.1.length r5.cap, .int .i64 y3.2])) ?_
  refine ow_ev ev_assign ?_
  refine ow_ev ev_assign ?_
  refine ow_nil (hK2 _ _ ?_); clear hK2
  refine cw_seq fun K3 hK3 => ?_
  refine cw_region ?_
  refine ow_ev ev_move ?_
  refine ow_ev ev_assign ?_
  refine ow_nil (hK3 _ _ ?_); clear hK3
  obtain rfl := some_inj hM
  refine cw_ret (kw_retc1 (fun w hm => ret_of hm rfl))

end Go.Proofs.Ytnihhidbiepnhaa
