/- Models of functions, and that the code computes them. -/
import Derived.Test.YtohhihdjdelckaaDoorLayB
set_option linter.all false
namespace Go.Proofs.YtohhihdjdelckaaDoor
open Go.Dc Go.RowKit
set_option maxRecDepth 10000
def layout_Reverse_m (s0 : Step) : Option Step :=
  if decide (s0.Dir = 0) then
    (some (Step.mk s0.Section 1))
  else
    (some (Step.mk s0.Section 0))
theorem layout_Reverse_spec (S : Soup) (w : World) (s0 : Step) (y : Step) (hM : layout_Reverse_m s0 = some y) (hS : ∀ k, S k → k < w.heap.size)  :
    Calls Tryd.prog 29 #[.agg #[.int .i64 s0.Section, .int .i64 s0.Dir]] w (Ret w (.agg #[.int .i64 y.Section, .int .i64 y.Dir])) := by
  refine calls_cw (args := [_]) Tryd.func29 rfl ((pre_nil hS).start) rfl ?_
  unfold layout_Reverse_m at hM
  refine cw_seq fun K1 hK1 => ?_
  refine cw_region ?_
  refine ow_cons (st_box (l := [.int .i64 s0.Section, .int .i64 s0.Dir]) (k := fun b1 => ?_))
  refine ow_cons (st_alloc rfl (k := fun b2 => ?_))
  refine ow_nil (hK1 _ _ ?_); clear hK1
  refine cw_seq fun K2 hK2 => ?_
  refine cw_seq fun K3 hK3 => ?_
  refine cw_region ?_
  refine ow_ev (ev_field_addr 1) ?_
  refine ow_ev (ev_load_own (b := b1)) ?_
  refine ow_ev ev_eql ?_
  refine ow_nil (hK3 _ _ ?_); clear hK3
  refine cw_cond rfl (fun hc3 => ?_) (fun hc3 => ?_)
  ·
    replace hM := (ite_t hc3).symm.trans hM
    refine cw_seq fun K4 hK4 => ?_
    refine cw_region ?_
    refine ow_ev (ev_field_addr 0) ?_
    refine ow_ev (ev_load_own (b := b1)) ?_
    refine ow_ev (ev_build [.int .i64 s0.Section, .int .i64 1]) ?_
    refine ow_cons (st_store_all (b := b2) (vs := [.int .i64 s0.Section, .int .i64 1]) (k := ?_))
    refine ow_nil (hK4 _ _ ?_); clear hK4
    obtain rfl := some_inj hM
    refine cw_ret (kw_retc1 (fun w hm => ret_of hm rfl))
  ·
    replace hM := (ite_f hc3).symm.trans hM
    refine cw_skip (hK2 _ _ ?_); clear hK2
    refine cw_seq fun K5 hK5 => ?_
    refine cw_region ?_
    refine ow_ev (ev_field_addr 0) ?_
    refine ow_ev (ev_load_own (b := b1)) ?_
    refine ow_ev (ev_build [.int .i64 s0.Section, .int .i64 0]) ?_
    refine ow_cons (st_store_all (b := b2) (vs := [.int .i64 s0.Section, .int .i64 0]) (k := ?_))
    refine ow_nil (hK5 _ _ ?_); clear hK5
    obtain rfl := some_inj hM
    refine cw_ret (kw_retc1 (fun w hm => ret_of hm rfl))

def layout_ends_m (k0 : Link) : Option (Layout_end × Layout_end) :=
  some ((Layout_end.mk k0.A k0.AEnd), (Layout_end.mk k0.B k0.BEnd))
theorem layout_ends_spec (S : Soup) (w : World) (k0 : Link) (y : Layout_end × Layout_end) (hM : layout_ends_m k0 = some y) (hS : ∀ k, S k → k < w.heap.size)  :
    Calls Tryd.prog 42 #[.agg #[.int .i64 k0.A, .int .i64 k0.AEnd, .int .i64 k0.B, .int .i64 k0.BEnd, .int .i64 k0.Point, .int .i64 k0.Pos]] w (Ret w (.tuple #[.agg #[.int .i64 y.1.section_, .int .i64 y.1.side], .agg #[.int .i64 y.2.section_, .int .i64 y.2.side]])) := by
  refine calls_cw (args := [_]) Tryd.func42 rfl ((pre_nil hS).start) rfl ?_
  unfold layout_ends_m at hM
  refine cw_seq fun K1 hK1 => ?_
  refine cw_region ?_
  refine ow_cons (st_box (l := [.int .i64 k0.A, .int .i64 k0.AEnd, .int .i64 k0.B, .int .i64 k0.BEnd, .int .i64 k0.Point, .int .i64 k0.Pos]) (k := fun b1 => ?_))
  refine ow_cons (st_alloc rfl (k := fun b2 => ?_))
  refine ow_cons (st_alloc rfl (k := fun b3 => ?_))
  refine ow_nil (hK1 _ _ ?_); clear hK1
  refine cw_seq fun K2 hK2 => ?_
  refine cw_region_z [own b3 85 [.int .i64 0, .int .i64 0], own b1 72 [.int .i64 k0.A, .int .i64 k0.AEnd, .int .i64 k0.B, .int .i64 k0.BEnd, .int .i64 k0.Point, .int .i64 k0.Pos]] 11 ?_
  refine az_ev 0 rfl (ev_field_addr 0) ?_
  refine az_ev 1 rfl (ev_load_own (b := b1)) ?_
  refine az_ev 2 rfl (ev_field_addr 1) ?_
  refine az_ev 3 rfl (ev_load_own (b := b1)) ?_
  refine az_ev 4 rfl (ev_build [.int .i64 k0.A, .int .i64 k0.AEnd]) ?_
  refine az_ev 5 rfl (ev_field_addr 2) ?_
  refine az_ev 6 rfl (ev_load_own (b := b1)) ?_
  refine az_ev 7 rfl (ev_field_addr 3) ?_
  refine az_ev 8 rfl (ev_load_own (b := b1)) ?_
  refine az_ev 9 rfl (ev_build [.int .i64 k0.B, .int .i64 k0.BEnd]) ?_
  refine az_one 10 rfl (st_store_all (b := b2) (vs := [.int .i64 k0.A, .int .i64 k0.AEnd]) (k := ⟨fun w hm => hm.sub (by repeat (first | exact List.Sublist.refl _ | apply List.Sublist.cons_cons | apply List.Sublist.cons)), ?_⟩))
  refine az_last rfl (st_store_all (b := b3) (vs := [.int .i64 k0.B, .int .i64 k0.BEnd]) (k := ?_))
  refine az_done (hK2 _ _ ?_); clear hK2
  obtain rfl := some_inj hM
  refine cw_ret (kw_retc2 (fun w hm => ret_of hm rfl))

def layout_enter_m (e0 : Layout_end) : Option Step :=
  if decide (e0.side = 0) then
    (some (Step.mk e0.section_ 0))
  else
    (some (Step.mk e0.section_ 1))
theorem layout_enter_spec (S : Soup) (w : World) (e0 : Layout_end) (y : Step) (hM : layout_enter_m e0 = some y) (hS : ∀ k, S k → k < w.heap.size)  :
    Calls Tryd.prog 43 #[.agg #[.int .i64 e0.section_, .int .i64 e0.side]] w (Ret w (.agg #[.int .i64 y.Section, .int .i64 y.Dir])) := by
  refine calls_cw (args := [_]) Tryd.func43 rfl ((pre_nil hS).start) rfl ?_
  unfold layout_enter_m at hM
  refine cw_seq fun K1 hK1 => ?_
  refine cw_region ?_
  refine ow_cons (st_box (l := [.int .i64 e0.section_, .int .i64 e0.side]) (k := fun b1 => ?_))
  refine ow_cons (st_alloc rfl (k := fun b2 => ?_))
  refine ow_nil (hK1 _ _ ?_); clear hK1
  refine cw_seq fun K2 hK2 => ?_
  refine cw_seq fun K3 hK3 => ?_
  refine cw_region ?_
  refine ow_ev (ev_field_addr 1) ?_
  refine ow_ev (ev_load_own (b := b1)) ?_
  refine ow_ev ev_eql ?_
  refine ow_nil (hK3 _ _ ?_); clear hK3
  refine cw_cond rfl (fun hc3 => ?_) (fun hc3 => ?_)
  ·
    replace hM := (ite_t hc3).symm.trans hM
    refine cw_seq fun K4 hK4 => ?_
    refine cw_region ?_
    refine ow_ev (ev_field_addr 0) ?_
    refine ow_ev (ev_load_own (b := b1)) ?_
    refine ow_ev (ev_build [.int .i64 e0.section_, .int .i64 0]) ?_
    refine ow_cons (st_store_all (b := b2) (vs := [.int .i64 e0.section_, .int .i64 0]) (k := ?_))
    refine ow_nil (hK4 _ _ ?_); clear hK4
    obtain rfl := some_inj hM
    refine cw_ret (kw_retc1 (fun w hm => ret_of hm rfl))
  ·
    replace hM := (ite_f hc3).symm.trans hM
    refine cw_skip (hK2 _ _ ?_); clear hK2
    refine cw_seq fun K5 hK5 => ?_
    refine cw_region ?_
    refine ow_ev (ev_field_addr 0) ?_
    refine ow_ev (ev_load_own (b := b1)) ?_
    refine ow_ev (ev_build [.int .i64 e0.section_, .int .i64 1]) ?_
    refine ow_cons (st_store_all (b := b2) (vs := [.int .i64 e0.section_, .int .i64 1]) (k := ?_))
    refine ow_nil (hK5 _ _ ?_); clear hK5
    obtain rfl := some_inj hM
    refine cw_ret (kw_retc1 (fun w hm => ret_of hm rfl))

def layout_Has_m (l0 : Layout) (s0 : Step) : Option Bool :=
  (whn ((decide (0 ≤ s0.Section) && decide (s0.Section < (l0.Sections.length : Int))) && (decide (s0.Dir = 0) || decide (s0.Dir = 1))) default (layout_Check_m l0)).bind fun y3 =>
  some (((decide (0 ≤ s0.Section) && decide (s0.Section < (l0.Sections.length : Int))) && (decide (s0.Dir = 0) || decide (s0.Dir = 1))) && decide (y3 = 0))
theorem layout_Has_spec (S : Soup) (w : World) (l0 : Layout) (r_l0 : GoRep.R Layout) (s0 : Step) (y : Bool) (hM : layout_Has_m l0 s0 = some y) (hS : ∀ k, S k → k < w.heap.size) (h_l0 : GoRep.ok S w r_l0 l0) :
    Calls Tryd.prog 26 #[.agg #[.slice r_l0.1.a l0.Stations.length r_l0.1.cap, .slice r_l0.2.1.a l0.Points.length r_l0.2.1.cap, .slice r_l0.2.2.1.a l0.Sections.length r_l0.2.2.1.cap, .slice r_l0.2.2.2.a l0.Links.length r_l0.2.2.2.cap], .agg #[.int .i64 s0.Section, .int .i64 s0.Dir]] w (Ret w (.bool y)) := by
  refine calls_cw (args := [_, _]) Tryd.func26 rfl ((pre_nil hS).start |>.immP (α := List Str) (r := r_l0.1) (x := l0.Stations) h_l0.1|>.immP (α := List Str) (r := r_l0.2.1) (x := l0.Points) h_l0.2.1|>.immP (α := List Section) (r := r_l0.2.2.1) (x := l0.Sections) h_l0.2.2.1|>.immP (α := List Link) (r := r_l0.2.2.2) (x := l0.Links) h_l0.2.2.2) rfl ?_
  unfold layout_Has_m at hM
  refine cw_seq fun K1 hK1 => ?_
  refine cw_region ?_
  refine ow_cons (st_box (l := [.slice r_l0.1.a l0.Stations.length r_l0.1.cap, .slice r_l0.2.1.a l0.Points.length r_l0.2.1.cap, .slice r_l0.2.2.1.a l0.Sections.length r_l0.2.2.1.cap, .slice r_l0.2.2.2.a l0.Links.length r_l0.2.2.2.cap]) (k := fun b1 => ?_))
  refine ow_cons (st_box (l := [.int .i64 s0.Section, .int .i64 s0.Dir]) (k := fun b2 => ?_))
  refine ow_ev ev_assign ?_
  refine ow_nil (hK1 _ _ ?_); clear hK1
  refine cw_seq fun K2 hK2 => ?_
  refine cw_region ?_
  refine ow_ev (ev_field_addr 0) ?_
  refine ow_ev (ev_load_own (b := b2)) ?_
  refine ow_ev ev_geq ?_
  refine ow_ev ev_move ?_
  refine ow_evg rfl (ev_field_addr 0) ?_
  refine ow_evg rfl (ev_load_own (b := b2)) ?_
  refine ow_evg rfl (ev_field_addr 2) ?_
  refine ow_evg rfl (ev_load_own (b := b1)) ?_
  refine ow_evg rfl ev_len ?_
  refine ow_evg rfl ev_lss ?_
  refine ow_ev ev_and ?_
  refine ow_ev ev_move ?_
  refine ow_evg rfl (ev_field_addr 1) ?_
  refine ow_evg rfl (ev_load_own (b := b2)) ?_
  refine ow_evg rfl ev_eql ?_
  refine ow_evg rfl ev_move ?_
  refine ow_evg rfl (ev_field_addr 1) ?_
  refine ow_evg rfl (ev_load_own (b := b2)) ?_
  refine ow_evg rfl ev_eql ?_
  refine ow_evg rfl ev_or ?_
  refine ow_ev ev_and ?_
  refine ow_ev ev_move ?_
  refine ow_evg rfl (ev_load_all (b := b1)) ?_
  obtain ⟨y3, hy4, hM⟩ := bind_some hM
  refine ow_callg rfl (fun hg w hm => let ⟨S, hs⟩ := hm; layout_Check_spec _ w l0 r_l0 y3 (whn_some hy4 hg) (lend_lt hs) ⟨(Kn.lend (Kn.imm (α := List Str) (r := r_l0.1) (x := l0.Stations) (by repeat (first | exact Has.head | apply Has.tail))) hs), (Kn.lend (Kn.imm (α := List Str) (r := r_l0.2.1) (x := l0.Points) (by repeat (first | exact Has.head | apply Has.tail))) hs), (Kn.lend (Kn.imm (α := List Section) (r := r_l0.2.2.1) (x := l0.Sections) (by repeat (first | exact Has.head | apply Has.tail))) hs), (Kn.lend (Kn.imm (α := List Link) (r := r_l0.2.2.2) (x := l0.Links) (by repeat (first | exact Has.head | apply Has.tail))) hs)⟩) ?_
  refine ow_evg rfl ev_eql ?_
  refine ow_ev ev_and ?_
  refine ow_ev ev_assign ?_
  refine ow_nil (hK2 _ _ ?_); clear hK2
  obtain rfl := some_inj hM
  refine cw_ret (kw_retc1 (fun w hm => ret_of hm rfl))

def layout_Hops_k3 (cont1 : ((List Hop) × Nat) → Option (List Hop)) (t25_1 : Nat) : (List Hop) → Option (List Hop) := fun lhops_j3 =>
  cont1 (lhops_j3, t25_1 + 1)
def layout_Hops_k2 (lhops_1 : List Hop) : Unit → Option (List Hop) := fun _ =>
  some lhops_1
def layout_Hops_b1 (l0 : Layout) (s0 : Step) (leaving_j1_1 : Int) (cont1 : ((List Hop) × Nat) → Option (List Hop)) : ((List Hop) × Nat) → Option (List Hop) := fun (lhops_1, t25_1) =>
  if decide ((t25_1 : Int) < (l0.Links.length : Int)) then
    ((idx l0.Links (t25_1 : Int)).bind fun x11 =>
    (layout_ends_m x11).bind fun y14 =>
    if decide ((Layout_end.mk s0.Section leaving_j1_1) = y14.1) then
      ((layout_enter_m y14.2).bind fun y19 =>
      chk (decide ((lhops_1.length + ([(Hop.mk y19 x11.Point x11.Pos)] : List Hop).length) * 32 ≤ 140737488355328)) <|
      layout_Hops_k3 cont1 t25_1 (lhops_1 ++ ([(Hop.mk y19 x11.Point x11.Pos)] : List Hop)))
    else
      (if decide ((Layout_end.mk s0.Section leaving_j1_1) = y14.2) then
        ((layout_enter_m y14.1).bind fun y25 =>
        chk (decide ((lhops_1.length + ([(Hop.mk y25 x11.Point x11.Pos)] : List Hop).length) * 32 ≤ 140737488355328)) <|
        layout_Hops_k3 cont1 t25_1 (lhops_1 ++ ([(Hop.mk y25 x11.Point x11.Pos)] : List Hop)))
      else
        (layout_Hops_k3 cont1 t25_1 lhops_1)))
  else
    (layout_Hops_k2 lhops_1 ())
def layout_Hops_k1 (l0 : Layout) (s0 : Step) : Int → Option (List Hop) := fun leaving_j1_1 =>
  iter (layout_Hops_b1 l0 s0 leaving_j1_1) FUEL (([] : List Hop), 0)
def layout_Hops_m (l0 : Layout) (s0 : Step) : Option (List Hop) :=
  (layout_Has_m l0 s0).bind fun y3 =>
  if (!y3) then
    (some ([] : List Hop))
  else
    (if decide (s0.Dir = 1) then
      (layout_Hops_k1 l0 s0 0)
    else
      (layout_Hops_k1 l0 s0 1))
theorem layout_Hops_spec (S : Soup) (w : World) (l0 : Layout) (r_l0 : GoRep.R Layout) (s0 : Step) (y : (List Hop)) (hM : layout_Hops_m l0 s0 = some y) (hS : ∀ k, S k → k < w.heap.size) (h_l0 : GoRep.ok S w r_l0 l0) :
    Calls Tryd.prog 21 #[.agg #[.slice r_l0.1.a l0.Stations.length r_l0.1.cap, .slice r_l0.2.1.a l0.Points.length r_l0.2.1.cap, .slice r_l0.2.2.1.a l0.Sections.length r_l0.2.2.1.cap, .slice r_l0.2.2.2.a l0.Links.length r_l0.2.2.2.cap], .agg #[.int .i64 s0.Section, .int .i64 s0.Dir]] w (Post (β := (GoRep.R (List Hop))) S [] (fun g => .slice g.a y.length g.cap) (fun g => [trow 52 g y]) w) := by
  refine calls_cw (args := [_, _]) Tryd.func21 rfl ((pre_nil hS).start |>.immP (α := List Str) (r := r_l0.1) (x := l0.Stations) h_l0.1|>.immP (α := List Str) (r := r_l0.2.1) (x := l0.Points) h_l0.2.1|>.immP (α := List Section) (r := r_l0.2.2.1) (x := l0.Sections) h_l0.2.2.1|>.immP (α := List Link) (r := r_l0.2.2.2) (x := l0.Links) h_l0.2.2.2) rfl ?_
  unfold layout_Hops_m at hM
  refine cw_seq fun K1 hK1 => ?_
  refine cw_region ?_
  refine ow_cons (st_box (l := [.slice r_l0.1.a l0.Stations.length r_l0.1.cap, .slice r_l0.2.1.a l0.Points.length r_l0.2.1.cap, .slice r_l0.2.2.1.a l0.Sections.length r_l0.2.2.1.cap, .slice r_l0.2.2.2.a l0.Links.length r_l0.2.2.2.cap]) (k := fun b1 => ?_))
  refine ow_cons (st_box (l := [.int .i64 s0.Section, .int .i64 s0.Dir]) (k := fun b2 => ?_))
  refine ow_ev ev_assign ?_
  refine ow_nil (hK1 _ _ ?_); clear hK1
  refine cw_seq fun K2 hK2 => ?_
  refine cw_seq fun K3 hK3 => ?_
  refine cw_region ?_
  refine ow_ev (ev_load_all (b := b1)) ?_
  refine ow_ev (ev_load_all (b := b2)) ?_
  obtain ⟨y3, hy4, hM⟩ := bind_some hM
  refine ow_cons (st_callv (fun w hm => let ⟨S, hs⟩ := hm; layout_Has_spec _ w l0 r_l0 s0 y3 hy4 (lend_lt hs) ⟨(Kn.lend (Kn.imm (α := List Str) (r := r_l0.1) (x := l0.Stations) (by repeat (first | exact Has.head | apply Has.tail))) hs), (Kn.lend (Kn.imm (α := List Str) (r := r_l0.2.1) (x := l0.Points) (by repeat (first | exact Has.head | apply Has.tail))) hs), (Kn.lend (Kn.imm (α := List Section) (r := r_l0.2.2.1) (x := l0.Sections) (by repeat (first | exact Has.head | apply Has.tail))) hs), (Kn.lend (Kn.imm (α := List Link) (r := r_l0.2.2.2) (x := l0.Links) (by repeat (first | exact Has.head | apply Has.tail))) hs)⟩) ?_)
  refine ow_ev ev_not ?_
  refine ow_nil (hK3 _ _ ?_); clear hK3
  refine cw_cond rfl (fun hc5 => ?_) (fun hc5 => ?_)
  ·
    replace hM := (ite_t hc5).symm.trans hM
    refine cw_seq fun K4 hK4 => ?_
    refine cw_region ?_
    refine ow_ev ev_assign ?_
    refine ow_nil (hK4 _ _ ?_); clear hK4
    refine cw_imp (fun w hm => hm.row_nil (α := Hop) 52 (fun _ => ())) ?_
    obtain rfl := some_inj hM
    refine cw_ret (kw_retc1 (fun w hm => post_of (⟨none, 0, (fun _ => ())⟩ : SR (GoRep.R Hop) ) hm rfl))
  ·
    replace hM := (ite_f hc5).symm.trans hM
    refine cw_skip (hK2 _ _ ?_); clear hK2
    refine cw_seq fun K5 hK5 => ?_
    refine cw_region ?_
    refine ow_ev (ev_field_addr 0) ?_
    refine ow_ev (ev_load_own (b := b2)) ?_
    refine ow_ev (ev_build [.int .i64 s0.Section, .int .i64 1]) ?_
    refine ow_cons (st_alloc rfl (k := fun b7 => ?_))
    refine ow_cons (st_store_all (b := b7) (vs := [.int .i64 s0.Section, .int .i64 1]) (k := ?_))
    refine ow_nil (hK5 _ _ ?_); clear hK5
    refine cw_cut (γ := Int × Unit) (env := fun (leaving_j1_1, _) => [(2, .v (.pointer (some ⟨b1, 0, none⟩))), (5, .v (.pointer (some ⟨b7, 0, none⟩)))]) (mem := fun (leaving_j1_1, _) => [imm (α := (List Str)) r_l0.1 l0.Stations, imm (α := (List Str)) r_l0.2.1 l0.Points, imm (α := (List Section)) r_l0.2.2.1 l0.Sections, imm (α := (List Link)) r_l0.2.2.2 l0.Links, own b1 26 [.slice r_l0.1.a l0.Stations.length r_l0.1.cap, .slice r_l0.2.1.a l0.Points.length r_l0.2.1.cap, .slice r_l0.2.2.1.a l0.Sections.length r_l0.2.2.1.cap, .slice r_l0.2.2.2.a l0.Links.length r_l0.2.2.2.cap], own b7 85 [.int .i64 s0.Section, .int .i64 leaving_j1_1]]) (R := fun g => layout_Hops_k1 l0 s0 g.1 = some y) ?_ ?_
    · intro KJ1 hJ1
      refine cw_seq fun K17 hK17 => ?_
      refine cw_region ?_
      refine ow_ev (ev_field_addr 1) ?_
      refine ow_ev (ev_load_own (b := b2)) ?_
      refine ow_ev ev_eql ?_
      refine ow_nil (hK17 _ _ ?_); clear hK17
      refine cw_cond rfl (fun hc30 => ?_) (fun hc30 => ?_)
      ·
        replace hM := (ite_t hc30).symm.trans hM
        refine cw_region ?_
        refine ow_ev (ev_field_addr 1) ?_
        refine ow_cons (st_store_own (b := b7) (l' := [.int .i64 s0.Section, .int .i64 0]) (k := ?_))
        refine ow_nil (hJ1 (0, ()) _ _ hM ⟨rfl, rfl, trivial⟩ (fun w hm => hm.reord))
      ·
        replace hM := (ite_f hc30).symm.trans hM
        refine cw_skip (hJ1 (1, ()) _ _ hM ⟨rfl, rfl, trivial⟩ (fun w hm => hm.reord))
    ·
      clear hM
      intro g hM
      obtain ⟨leaving_j1_1, ⟨⟩⟩ := g
      dsimp only at hM ⊢
      dsimp only [layout_Hops_k1] at hM
      refine cw_seq fun K6 hK6 => ?_
      refine cw_region ?_
      refine ow_ev ev_assign ?_
      refine ow_nil (hK6 _ _ ?_); clear hK6
      refine cw_seq fun K7 hK7 => ?_
      refine cw_seq fun K8 hK8 => ?_
      refine cw_region ?_
      refine ow_ev (ev_field_addr 3) ?_
      refine ow_ev (ev_load_own (b := b1)) ?_
      refine ow_have (fun w hm => Kn.len (Kn.imm (α := List Link) (r := r_l0.2.2.2) (x := l0.Links) (by repeat (first | exact Has.head | apply Has.tail))) hm) fun hl8 => ?_
      refine ow_ev ev_len ?_
      refine ow_ev ev_move ?_
      refine ow_nil (hK8 _ _ ?_); clear hK8
      refine cw_block ?_
      refine cw_imp (fun w hm => hm.row_nil (α := Hop) 52 (fun _ => ())) ?_
      refine cw_loop (γ := Nat × ((List Hop) × Nat) × (SR (GoRep.R Hop))) (env := fun (_, (lhops_1, t25_1), rhops_1) => [(5, .v (.pointer (some ⟨b7, 0, none⟩))), (6, .v (.slice rhops_1.a lhops_1.length rhops_1.cap)), (23, .v (.slice r_l0.2.2.2.a l0.Links.length r_l0.2.2.2.cap)), (24, .v (.int .i64 (l0.Links.length : Int))), (25, .v (.int .i64 (t25_1 : Int)))]) (mem := fun (_, (lhops_1, t25_1), rhops_1) => [own b7 85 [.int .i64 s0.Section, .int .i64 leaving_j1_1], trow 52 rhops_1 lhops_1, imm (α := (List Link)) r_l0.2.2.2 l0.Links]) (R := fun g => iter (layout_Hops_b1 l0 s0 leaving_j1_1) g.1 g.2.1 = some y) (μ := fun g => g.1) (FUEL, (([] : List Hop), 0), (⟨none, 0, (fun _ => ())⟩ : SR (GoRep.R Hop)  )) hM ⟨rfl, rfl, rfl, rfl, rfl, trivial⟩ (fun w hm => hm.reord) ?_
      clear hM
      intro g hM KL1 hL1
      obtain ⟨nn1, ⟨lhops_1, t25_1⟩, rhops_1⟩ := g
      dsimp only at hM ⊢
      obtain ⟨nn1, cont1, rfl, hcont1, hM⟩ := iter_open' hM
      dsimp only [layout_Hops_b1] at hM
      refine cw_seq fun K9 hK9 => ?_
      refine cw_region ?_
      refine ow_ev ev_lss ?_
      refine ow_nil (hK9 _ _ ?_); clear hK9
      refine cw_seq fun K10 hK10 => ?_
      refine cw_cond rfl (fun hc10 => ?_) (fun hc10 => ?_)
      ·
        replace hM := (ite_t hc10).symm.trans hM
        have hc10d := of_decide_eq_true hc10
        refine cw_skip (hK10 _ _ ?_); clear hK10
        refine cw_cut (γ := (List Hop) × (SR (GoRep.R Hop))) (env := fun (lhops_j3, rhops_j3) => [(5, .v (.pointer (some ⟨b7, 0, none⟩))), (6, .v (.slice rhops_j3.a lhops_j3.length rhops_j3.cap)), (23, .v (.slice r_l0.2.2.2.a l0.Links.length r_l0.2.2.2.cap)), (24, .v (.int .i64 (l0.Links.length : Int))), (25, .v (.int .i64 (t25_1 : Int)))]) (mem := fun (lhops_j3, rhops_j3) => [own b7 85 [.int .i64 s0.Section, .int .i64 leaving_j1_1], trow 52 rhops_j3 lhops_j3, imm (α := (List Link)) r_l0.2.2.2 l0.Links]) (R := fun g => layout_Hops_k3 cont1 t25_1 g.1 = some y) ?_ ?_
        · intro KJ3 hJ3
          refine cw_block ?_
          refine cw_seq fun K11 hK11 => ?_
          refine cw_region ?_
          obtain ⟨x11, hx12, hM⟩ := bind_some hM
          refine ow_ev (ev_idx (xs := l0.Links) 6 (Kn.imm (α := List Link) (r := r_l0.2.2.2) (x := l0.Links) (by repeat (first | exact Has.head | apply Has.tail))) (fun hg => let h := idx_some hx12; ⟨h.1, h.2.1⟩)) ?_
          refine ow_ev (ev_lds (m := 6) (i := (t25_1 : Int)) (xs := l0.Links) (y := x11) (l := [.int .i64 x11.A, .int .i64 x11.AEnd, .int .i64 x11.B, .int .i64 x11.BEnd, .int .i64 x11.Point, .int .i64 x11.Pos]) 0 (Kn.imm (α := List Link) (r := r_l0.2.2.2) (x := l0.Links) (by repeat (first | exact Has.head | apply Has.tail))) (fun _ => hx12)) ?_
          refine ow_cons (st_alloc rfl (k := fun b13 => ?_))
          refine ow_cons (st_store_all (b := b13) (vs := [.int .i64 x11.A, .int .i64 x11.AEnd, .int .i64 x11.B, .int .i64 x11.BEnd, .int .i64 x11.Point, .int .i64 x11.Pos]) (k := ?_))
          refine ow_nil (hK11 _ _ ?_); clear hK11
          refine cw_seq fun K12 hK12 => ?_
          refine cw_region ?_
          refine ow_ev (ev_load_all (b := b13)) ?_
          obtain ⟨y14, hy15, hM⟩ := bind_some hM
          refine ow_cons (st_callv (fun w hm => let ⟨S, hs⟩ := hm; layout_ends_spec _ w x11 y14 hy15 (lend_lt hs) ) ?_)
          refine ow_ev ev_move ?_
          refine ow_ev (ev_extract (vs := [.agg #[.int .i64 y14.1.section_, .int .i64 y14.1.side], .agg #[.int .i64 y14.2.section_, .int .i64 y14.2.side]])) ?_
          refine ow_ev (ev_extract (vs := [.agg #[.int .i64 y14.1.section_, .int .i64 y14.1.side], .agg #[.int .i64 y14.2.section_, .int .i64 y14.2.side]])) ?_
          refine ow_cons (st_alloc rfl (k := fun b16 => ?_))
          refine ow_cons (st_alloc rfl (k := fun b17 => ?_))
          refine ow_cons (st_store_all (b := b16) (vs := [.int .i64 y14.1.section_, .int .i64 y14.1.side]) (k := ?_))
          refine ow_cons (st_store_all (b := b17) (vs := [.int .i64 y14.2.section_, .int .i64 y14.2.side]) (k := ?_))
          refine ow_nil (hK12 _ _ ?_); clear hK12
          refine cw_seq fun K13 hK13 => ?_
          refine cw_region ?_
          refine ow_ev (ev_load_all (b := b7)) ?_
          refine ow_nil (hK13 _ _ ?_); clear hK13
          refine cw_block ?_
          refine cw_seq fun K14 hK14 => ?_
          refine cw_region ?_
          refine ow_ev (ev_load_all (b := b16)) ?_
          refine ow_ev (ev_eqlF [.int .i64, .int .i64] (decide ((Layout_end.mk s0.Section leaving_j1_1) = y14.1)) (Layout_end_eqv _ _)) ?_
          refine ow_ev ev_assign ?_
          refine ow_nil (hK14 _ _ ?_); clear hK14
          refine cw_cond rfl (fun hc18 => ?_) (fun hc18 => ?_)
          ·
            replace hM := (ite_t hc18).symm.trans hM
            refine cw_region_any [own b17 85 [.int .i64 y14.2.section_, .int .i64 y14.2.side], own b16 85 [.int .i64 y14.1.section_, .int .i64 y14.1.side], own b13 72 [.int .i64 x11.A, .int .i64 x11.AEnd, .int .i64 x11.B, .int .i64 x11.BEnd, .int .i64 x11.Point, .int .i64 x11.Pos], own b7 85 [.int .i64 s0.Section, .int .i64 leaving_j1_1], imm (α := (List Link)) r_l0.2.2.2 l0.Links] (by repeat (first | exact List.Sublist.refl _ | apply List.Sublist.cons_cons | apply List.Sublist.cons)) ?_
            refine aw_ev 0 rfl ev_move ?_
            refine aw_ev 1 rfl (ev_load_all (b := b17)) ?_
            refine aw_ev 3 rfl (ev_field_addr 4) ?_
            refine aw_ev 4 rfl (ev_load_own (b := b13)) ?_
            refine aw_ev 5 rfl (ev_field_addr 5) ?_
            refine aw_ev 6 rfl (ev_load_own (b := b13)) ?_
            obtain ⟨y19, hy20, hM⟩ := bind_some hM
            refine aw_one 2 rfl (st_callv (fun w hm => let ⟨S, hs⟩ := hm; layout_enter_spec _ w y14.2 y19 hy20 (lend_lt hs) ) ⟨fun w hm => hm.sub (by repeat (first | exact List.Sublist.refl _ | apply List.Sublist.cons_cons | apply List.Sublist.cons)), ?_⟩)
            refine aw_ev 7 rfl (ev_build [.int .i64 y19.Section, .int .i64 y19.Dir, .int .i64 x11.Point, .int .i64 x11.Pos]) ?_
            refine aw_one 8 rfl (st_bslice (α := Hop) 52 (fun _ => ()) ([(Hop.mk y19 x11.Point x11.Pos)] : List Hop) (OkL.flat (fun _ _ _ _ => trivial)) (fun r21 => ⟨fun w hm => hm.sub (by repeat (first | exact List.Sublist.refl _ | apply List.Sublist.cons_cons | apply List.Sublist.cons)), ?_⟩))
            obtain ⟨hb23, hM⟩ := chk_some hM
            refine aw_one 9 rfl (st_append (r := rhops_1) (r2 := r21) (by intro r'; repeat (first | exact Upd.head | apply Upd.tail)) (Kn.trow (e := 52) (r := r21) (by repeat (first | exact Has.head | apply Has.tail))) (OkL.flat (fun _ _ _ _ => trivial)) (of_decide_eq_true hb23) (fun r22 => ⟨fun w hm => hm.sub (by repeat (first | exact List.Sublist.refl _ | apply List.Sublist.cons_cons | apply List.Sublist.cons)), ?_⟩))
            refine aw_ev 10 rfl ev_assign ?_
            refine aw_done (hJ3 ((lhops_1 ++ ([(Hop.mk y19 x11.Point x11.Pos)] : List Hop)), r22) _ _ hM ⟨rfl, rfl, rfl, rfl, rfl, trivial⟩ (fun w hm => hm.reord))
          ·
            replace hM := (ite_f hc18).symm.trans hM
            refine cw_seq fun K15 hK15 => ?_
            refine cw_region ?_
            refine ow_ev (ev_load_all (b := b17)) ?_
            refine ow_ev (ev_eqlF [.int .i64, .int .i64] (decide ((Layout_end.mk s0.Section leaving_j1_1) = y14.2)) (Layout_end_eqv _ _)) ?_
            refine ow_ev ev_assign ?_
            refine ow_nil (hK15 _ _ ?_); clear hK15
            refine cw_cond rfl (fun hc24 => ?_) (fun hc24 => ?_)
            ·
              replace hM := (ite_t hc24).symm.trans hM
              refine cw_region_any [own b17 85 [.int .i64 y14.2.section_, .int .i64 y14.2.side], own b16 85 [.int .i64 y14.1.section_, .int .i64 y14.1.side], own b13 72 [.int .i64 x11.A, .int .i64 x11.AEnd, .int .i64 x11.B, .int .i64 x11.BEnd, .int .i64 x11.Point, .int .i64 x11.Pos], own b7 85 [.int .i64 s0.Section, .int .i64 leaving_j1_1], imm (α := (List Link)) r_l0.2.2.2 l0.Links] (by repeat (first | exact List.Sublist.refl _ | apply List.Sublist.cons_cons | apply List.Sublist.cons)) ?_
              refine aw_ev 0 rfl ev_move ?_
              refine aw_ev 1 rfl (ev_load_all (b := b16)) ?_
              refine aw_ev 3 rfl (ev_field_addr 4) ?_
              refine aw_ev 4 rfl (ev_load_own (b := b13)) ?_
              refine aw_ev 5 rfl (ev_field_addr 5) ?_
              refine aw_ev 6 rfl (ev_load_own (b := b13)) ?_
              obtain ⟨y25, hy26, hM⟩ := bind_some hM
              refine aw_one 2 rfl (st_callv (fun w hm => let ⟨S, hs⟩ := hm; layout_enter_spec _ w y14.1 y25 hy26 (lend_lt hs) ) ⟨fun w hm => hm.sub (by repeat (first | exact List.Sublist.refl _ | apply List.Sublist.cons_cons | apply List.Sublist.cons)), ?_⟩)
              refine aw_ev 7 rfl (ev_build [.int .i64 y25.Section, .int .i64 y25.Dir, .int .i64 x11.Point, .int .i64 x11.Pos]) ?_
              refine aw_one 8 rfl (st_bslice (α := Hop) 52 (fun _ => ()) ([(Hop.mk y25 x11.Point x11.Pos)] : List Hop) (OkL.flat (fun _ _ _ _ => trivial)) (fun r27 => ⟨fun w hm => hm.sub (by repeat (first | exact List.Sublist.refl _ | apply List.Sublist.cons_cons | apply List.Sublist.cons)), ?_⟩))
              obtain ⟨hb29, hM⟩ := chk_some hM
              refine aw_one 9 rfl (st_append (r := rhops_1) (r2 := r27) (by intro r'; repeat (first | exact Upd.head | apply Upd.tail)) (Kn.trow (e := 52) (r := r27) (by repeat (first | exact Has.head | apply Has.tail))) (OkL.flat (fun _ _ _ _ => trivial)) (of_decide_eq_true hb29) (fun r28 => ⟨fun w hm => hm.sub (by repeat (first | exact List.Sublist.refl _ | apply List.Sublist.cons_cons | apply List.Sublist.cons)), ?_⟩))
              refine aw_ev 10 rfl ev_assign ?_
              refine aw_done (hJ3 ((lhops_1 ++ ([(Hop.mk y25 x11.Point x11.Pos)] : List Hop)), r28) _ _ hM ⟨rfl, rfl, rfl, rfl, rfl, trivial⟩ (fun w hm => hm.reord))
            ·
              replace hM := (ite_f hc24).symm.trans hM
              refine cw_skip (hJ3 (lhops_1, rhops_1) _ _ hM ⟨rfl, rfl, rfl, rfl, rfl, trivial⟩ (fun w hm => hm.reord))
        ·
          clear hM
          intro g hM
          obtain ⟨lhops_j3, rhops_j3⟩ := g
          dsimp only at hM ⊢
          dsimp only [layout_Hops_k3] at hM
          refine cw_region ?_
          refine ow_ev (ev_add (hr := fun _ => by unfold I64; omega)) ?_
          refine ow_ev ev_move ?_
          refine ow_nil (hL1 (nn1, (lhops_j3, t25_1 + 1), rhops_j3) _ _ (eqc hcont1 hM) (Nat.lt_succ_self _) ⟨rfl, rfl, rfl, rfl, rfl, trivial⟩ (fun w hm => hm.reord))
      ·
        replace hM := (ite_f hc10).symm.trans hM
        refine cw_exit (hK7 _ _ ?_); clear hK7
        dsimp only [layout_Hops_k2] at hM
        refine cw_seq fun K16 hK16 => ?_
        refine cw_region ?_
        refine ow_ev ev_move ?_
        refine ow_ev ev_assign ?_
        refine ow_nil (hK16 _ _ ?_); clear hK16
        obtain rfl := some_inj hM
        refine cw_ret (kw_retc1 (fun w hm => post_of rhops_1 hm rfl))

def layout_Resources_m (l0 : Layout) : Option Int :=
  (layout_Check_m l0).bind fun y2 =>
  if decide (y2 ≠ 0) then
    (some 0)
  else
    (chk (i64b ((l0.Sections.length : Int) + (l0.Points.length : Int))) <|
    some ((l0.Sections.length : Int) + (l0.Points.length : Int)))
theorem layout_Resources_spec (S : Soup) (w : World) (l0 : Layout) (r_l0 : GoRep.R Layout) (y : Int) (hM : layout_Resources_m l0 = some y) (hS : ∀ k, S k → k < w.heap.size) (h_l0 : GoRep.ok S w r_l0 l0) :
    Calls Tryd.prog 23 #[.agg #[.slice r_l0.1.a l0.Stations.length r_l0.1.cap, .slice r_l0.2.1.a l0.Points.length r_l0.2.1.cap, .slice r_l0.2.2.1.a l0.Sections.length r_l0.2.2.1.cap, .slice r_l0.2.2.2.a l0.Links.length r_l0.2.2.2.cap]] w (Ret w (.int .i64 y)) := by
  refine calls_cw (args := [_]) Tryd.func23 rfl ((pre_nil hS).start |>.immP (α := List Str) (r := r_l0.1) (x := l0.Stations) h_l0.1|>.immP (α := List Str) (r := r_l0.2.1) (x := l0.Points) h_l0.2.1|>.immP (α := List Section) (r := r_l0.2.2.1) (x := l0.Sections) h_l0.2.2.1|>.immP (α := List Link) (r := r_l0.2.2.2) (x := l0.Links) h_l0.2.2.2) rfl ?_
  unfold layout_Resources_m at hM
  refine cw_seq fun K1 hK1 => ?_
  refine cw_region ?_
  refine ow_cons (st_box (l := [.slice r_l0.1.a l0.Stations.length r_l0.1.cap, .slice r_l0.2.1.a l0.Points.length r_l0.2.1.cap, .slice r_l0.2.2.1.a l0.Sections.length r_l0.2.2.1.cap, .slice r_l0.2.2.2.a l0.Links.length r_l0.2.2.2.cap]) (k := fun b1 => ?_))
  refine ow_ev ev_assign ?_
  refine ow_nil (hK1 _ _ ?_); clear hK1
  refine cw_seq fun K2 hK2 => ?_
  refine cw_seq fun K3 hK3 => ?_
  refine cw_region ?_
  refine ow_ev (ev_load_all (b := b1)) ?_
  obtain ⟨y2, hy3, hM⟩ := bind_some hM
  refine ow_cons (st_callv (fun w hm => let ⟨S, hs⟩ := hm; layout_Check_spec _ w l0 r_l0 y2 hy3 (lend_lt hs) ⟨(Kn.lend (Kn.imm (α := List Str) (r := r_l0.1) (x := l0.Stations) (by repeat (first | exact Has.head | apply Has.tail))) hs), (Kn.lend (Kn.imm (α := List Str) (r := r_l0.2.1) (x := l0.Points) (by repeat (first | exact Has.head | apply Has.tail))) hs), (Kn.lend (Kn.imm (α := List Section) (r := r_l0.2.2.1) (x := l0.Sections) (by repeat (first | exact Has.head | apply Has.tail))) hs), (Kn.lend (Kn.imm (α := List Link) (r := r_l0.2.2.2) (x := l0.Links) (by repeat (first | exact Has.head | apply Has.tail))) hs)⟩) ?_)
  refine ow_ev ev_neq ?_
  refine ow_nil (hK3 _ _ ?_); clear hK3
  refine cw_cond rfl (fun hc4 => ?_) (fun hc4 => ?_)
  ·
    replace hM := (ite_t hc4).symm.trans hM
    refine cw_seq fun K4 hK4 => ?_
    refine cw_region ?_
    refine ow_ev ev_assign ?_
    refine ow_nil (hK4 _ _ ?_); clear hK4
    obtain rfl := some_inj hM
    refine cw_ret (kw_retc1 (fun w hm => ret_of hm rfl))
  ·
    replace hM := (ite_f hc4).symm.trans hM
    refine cw_skip (hK2 _ _ ?_); clear hK2
    refine cw_seq fun K5 hK5 => ?_
    refine cw_region ?_
    refine ow_ev (ev_field_addr 2) ?_
    refine ow_ev (ev_load_own (b := b1)) ?_
    refine ow_ev ev_len ?_
    refine ow_ev (ev_field_addr 1) ?_
    refine ow_ev (ev_load_own (b := b1)) ?_
    refine ow_ev ev_len ?_
    obtain ⟨hI5, hM⟩ := chk_some hM
    refine ow_ev (ev_add (hr := fun hg => i64b_I64 hI5)) ?_
    refine ow_ev ev_assign ?_
    refine ow_nil (hK5 _ _ ?_); clear hK5
    obtain rfl := some_inj hM
    refine cw_ret (kw_retc1 (fun w hm => ret_of hm rfl))

end Go.Proofs.YtohhihdjdelckaaDoor
