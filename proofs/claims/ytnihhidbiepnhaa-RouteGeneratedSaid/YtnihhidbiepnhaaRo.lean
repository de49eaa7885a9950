/- Models of functions, and that the code computes them. -/
import Derived.Test.YtnihhidbiepnhaaRb
import Derived.Test.YtnihhidbiepnhaaRm
namespace Go.Proofs.Ytnihhidbiepnhaa
open Go.Dc Go.RowKit
set_option maxRecDepth 10000
set_option linter.unusedVariables false
def ref6_in_m (n0 : Int) (lo0 : Int) (hi0 : Int) : Option Bool :=
  some (decide (lo0 ≤ n0) && decide (n0 ≤ hi0))
theorem ref6_in_spec (S : Soup) (w : World) (n0 : Int) (lo0 : Int) (hi0 : Int) (y : Bool) (hM : ref6_in_m n0 lo0 hi0 = some y) (hS : ∀ k, S k → k < w.heap.size)  :
    Calls Try.prog 84 #[.int .i64 n0, .int .i64 lo0, .int .i64 hi0] w (Ret w (.bool y)) := by
  refine calls_cw (args := [_, _, _]) Try.func84 rfl ((pre_nil hS).start) rfl ?_
  unfold ref6_in_m at hM
  refine cw_seq fun K1 hK1 => ?_
  refine cw_region ?_
  refine ow_ev ev_assign ?_
  refine ow_nil (hK1 _ _ ?_); clear hK1
  refine cw_seq fun K2 hK2 => ?_
  refine cw_region ?_
  refine ow_ev ev_move ?_
  refine ow_ev ev_move ?_
  refine ow_ev ev_geq ?_
  refine ow_ev ev_move ?_
  refine ow_evg rfl ev_move ?_
  refine ow_evg rfl ev_move ?_
  refine ow_evg rfl ev_leq ?_
  refine ow_ev ev_and ?_
  refine ow_ev ev_assign ?_
  refine ow_nil (hK2 _ _ ?_); clear hK2
  obtain rfl := some_inj hM
  refine cw_ret (kw_retc1 (fun w hm => ret_of hm rfl))

def ref6_joined_k1 : Unit → Option (Hop × Bool) := fun _ =>
  some ((Hop.mk (Step.mk 0 0) 0 0), false)
def ref6_joined_b1 (y5 : (List Hop)) (b0 : Step) (cont1 : Nat → Option (Hop × Bool)) : Nat → Option (Hop × Bool) := fun i_1 =>
  if decide ((i_1 : Int) < (y5.length : Int)) then
    ((idx y5 (i_1 : Int)).bind fun x9 =>
    if decide (x9.To = b0) then
      ((idx y5 (i_1 : Int)).bind fun x12 =>
      some (x12, true))
    else
      (chk (i64b ((i_1 : Int) + 1)) <|
      cont1 (i_1 + 1)))
  else
    (ref6_joined_k1 ())
def ref6_joined_m (l0 : Layout) (a0 : Step) (b0 : Step) : Option (Hop × Bool) :=
  (ref1_HopsOf_m l0 a0).bind fun y5 =>
  iter (ref6_joined_b1 y5 b0) FUEL 0
theorem ref6_joined_spec (S : Soup) (w : World) (l0 : Layout) (r_l0 : GoRep.R Layout) (a0 : Step) (b0 : Step) (y : Hop × Bool) (hM : ref6_joined_m l0 a0 b0 = some y) (hS : ∀ k, S k → k < w.heap.size) (h_l0 : GoRep.ok S w r_l0 l0) :
    Calls Try.prog 85 #[.agg #[.slice r_l0.1.a l0.Stations.length r_l0.1.cap, .slice r_l0.2.1.a l0.Points.length r_l0.2.1.cap, .slice r_l0.2.2.1.a l0.Sections.length r_l0.2.2.1.cap, .slice r_l0.2.2.2.a l0.Links.length r_l0.2.2.2.cap], .agg #[.int .i64 a0.Section, .int .i64 a0.Dir], .agg #[.int .i64 b0.Section, .int .i64 b0.Dir]] w (Ret w (.tuple #[.agg #[.int .i64 y.1.To.Section, .int .i64 y.1.To.Dir, .int .i64 y.1.Point, .int .i64 y.1.Pos], .bool y.2])) := by
  refine calls_cw (args := [_, _, _]) Try.func85 rfl ((pre_nil hS).start |>.immP (α := List Str) (r := r_l0.1) (x := l0.Stations) h_l0.1|>.immP (α := List Str) (r := r_l0.2.1) (x := l0.Points) h_l0.2.1|>.immP (α := List Section) (r := r_l0.2.2.1) (x := l0.Sections) h_l0.2.2.1|>.immP (α := List Link) (r := r_l0.2.2.2) (x := l0.Links) h_l0.2.2.2) rfl ?_
  unfold ref6_joined_m at hM
  refine cw_seq fun K1 hK1 => ?_
  refine cw_region ?_
  refine ow_cons (st_box (l := [.slice r_l0.1.a l0.Stations.length r_l0.1.cap, .slice r_l0.2.1.a l0.Points.length r_l0.2.1.cap, .slice r_l0.2.2.1.a l0.Sections.length r_l0.2.2.1.cap, .slice r_l0.2.2.2.a l0.Links.length r_l0.2.2.2.cap]) (k := fun b1 => ?_))
  refine ow_cons (st_box (l := [.int .i64 a0.Section, .int .i64 a0.Dir]) (k := fun b2 => ?_))
  refine ow_cons (st_box (l := [.int .i64 b0.Section, .int .i64 b0.Dir]) (k := fun b3 => ?_))
  refine ow_cons (st_alloc rfl (k := fun b4 => ?_))
  refine ow_ev ev_assign ?_
  refine ow_nil (hK1 _ _ ?_); clear hK1
  refine cw_seq fun K2 hK2 => ?_
  refine cw_region ?_
  refine ow_ev (ev_load_all (b := b1)) ?_
  refine ow_ev (ev_load_all (b := b2)) ?_
  obtain ⟨y5, hy6, hM⟩ := bind_some hM
  refine ow_cons (st_callF SelL.nil (fun S w hs hP => ref1_HopsOf_spec _ w l0 r_l0 a0 y5 hy6 (lend_lt hs) ⟨(Kn.lend (Kn.imm (α := List Str) (r := r_l0.1) (x := l0.Stations) (by repeat (first | exact Has.head | apply Has.tail))) hs), (Kn.lend (Kn.imm (α := List Str) (r := r_l0.2.1) (x := l0.Points) (by repeat (first | exact Has.head | apply Has.tail))) hs), (Kn.lend (Kn.imm (α := List Section) (r := r_l0.2.2.1) (x := l0.Sections) (by repeat (first | exact Has.head | apply Has.tail))) hs), (Kn.lend (Kn.imm (α := List Link) (r := r_l0.2.2.2) (x := l0.Links) (by repeat (first | exact Has.head | apply Has.tail))) hs)⟩) (by intro r c hc; simp only [List.mem_cons, List.not_mem_nil, or_false] at hc; rcases hc with rfl <;> first | exact flatC_own | exact flatC_trow (fun _ _ _ _ => trivial)) (fun r7 => ?_))
  dsimp only [List.cons_append, List.nil_append]
  refine ow_ev ev_assign ?_
  refine ow_nil (hK2 _ _ ?_); clear hK2
  refine cw_seq fun K3 hK3 => ?_
  refine cw_seq fun K4 hK4 => ?_
  refine cw_region ?_
  refine ow_ev ev_assign ?_
  refine ow_nil (hK4 _ _ ?_); clear hK4
  refine cw_block ?_
  refine cw_loop (γ := Nat × Nat × Unit) (env := fun (_, i_1, _) => [(5, .v (.pointer (some ⟨b3, 0, none⟩))), (6, .v (.pointer (some ⟨b4, 0, none⟩))), (8, .v (.slice r7.a y5.length r7.cap)), (9, .v (.int .i64 (i_1 : Int)))]) (mem := fun (_, i_1, _) => [own b3 40 [.int .i64 b0.Section, .int .i64 b0.Dir], own b4 43 [.int .i64 0, .int .i64 0, .int .i64 0, .int .i64 0], trow 43 r7 y5]) (R := fun g => iter (ref6_joined_b1 y5 b0) g.1 g.2.1 = some y) (μ := fun g => g.1) (FUEL, 0, ()) hM ⟨rfl, rfl, rfl, rfl, trivial⟩ (fun w hm => hm.reord) ?_
  clear hM
  intro g hM KL1 hL1
  obtain ⟨nn1, i_1, ⟨⟩⟩ := g
  dsimp only at hM ⊢
  obtain ⟨nn1, cont1, rfl, hcont1, hM⟩ := iter_open' hM
  dsimp only [ref6_joined_b1] at hM
  refine cw_seq fun K5 hK5 => ?_
  refine cw_seq fun K6 hK6 => ?_
  refine cw_region ?_
  refine ow_ev ev_move ?_
  refine ow_ev ev_move ?_
  refine ow_ev ev_len ?_
  refine ow_ev ev_lss ?_
  refine ow_nil (hK6 _ _ ?_); clear hK6
  refine cw_cond rfl (fun hc8 => ?_) (fun hc8 => ?_)
  ·
    replace hM := (ite_t hc8).symm.trans hM
    refine cw_skip (hK5 _ _ ?_); clear hK5
    refine cw_seq fun K7 hK7 => ?_
    refine cw_block ?_
    refine cw_seq fun K8 hK8 => ?_
    refine cw_region_any _ (List.Sublist.refl _) ?_
    refine aw_ev 0 rfl ev_move ?_
    refine aw_ev 1 rfl ev_move ?_
    obtain ⟨x9, hx10, hM⟩ := bind_some hM
    refine aw_ev 2 rfl (ev_idx (xs := y5) 4 (Kn.trow (e := 43) (r := r7) (by repeat (first | exact Has.head | apply Has.tail))) (fun hg => let h := idx_some hx10; ⟨h.1, h.2.1⟩)) ?_
    refine aw_ev 3 rfl (ev_field_addr 0) ?_
    refine aw_ev 4 rfl (ev_lds (m := 2) (i := (i_1 : Int)) (xs := y5) (y := x9) (l := [.int .i64 x9.To.Section, .int .i64 x9.To.Dir]) 0 (Kn.trow (e := 43) (r := r7) (by repeat (first | exact Has.head | apply Has.tail))) (fun _ => hx10)) ?_
    refine aw_ev 5 rfl (ev_load_all (b := b3)) ?_
    refine aw_ev 6 rfl (ev_eqlF [.int .i64, .int .i64] (decide (x9.To = b0)) (Step_eqv _ _)) ?_
    refine aw_done (hK8 _ _ ?_); clear hK8
    refine cw_cond rfl (fun hc11 => ?_) (fun hc11 => ?_)
    ·
      replace hM := (ite_t hc11).symm.trans hM
      refine cw_seq fun K9 hK9 => ?_
      refine cw_region ?_
      refine ow_ev ev_move ?_
      refine ow_ev ev_move ?_
      obtain ⟨x12, hx13, hM⟩ := bind_some hM
      refine ow_ev (ev_idx (xs := y5) 4 (Kn.trow (e := 43) (r := r7) (by repeat (first | exact Has.head | apply Has.tail))) (fun hg => let h := idx_some hx13; ⟨h.1, h.2.1⟩)) ?_
      refine ow_ev (ev_lds (m := 4) (i := (i_1 : Int)) (xs := y5) (y := x12) (l := [.int .i64 x12.To.Section, .int .i64 x12.To.Dir, .int .i64 x12.Point, .int .i64 x12.Pos]) 0 (Kn.trow (e := 43) (r := r7) (by repeat (first | exact Has.head | apply Has.tail))) (fun _ => hx13)) ?_
      refine ow_cons (st_store_all (b := b4) (vs := [.int .i64 x12.To.Section, .int .i64 x12.To.Dir, .int .i64 x12.Point, .int .i64 x12.Pos]) (k := ?_))
      refine ow_ev ev_assign ?_
      refine ow_nil (hK9 _ _ ?_); clear hK9
      obtain rfl := some_inj hM
      refine cw_ret (kw_retc2 (fun w hm => ret_of hm rfl))
    ·
      replace hM := (ite_f hc11).symm.trans hM
      refine cw_skip (hK7 _ _ ?_); clear hK7
      refine cw_region ?_
      refine ow_ev ev_move ?_
      obtain ⟨hI14, hM⟩ := chk_some hM
      refine ow_ev (ev_add (hr := fun hg => i64b_I64 hI14)) ?_
      refine ow_ev ev_assign ?_
      refine ow_nil (hL1 (nn1, (i_1 + 1), ()) _ _ (eqc hcont1 hM) (Nat.lt_succ_self _) ⟨rfl, rfl, rfl, rfl, trivial⟩ (fun w hm => hm.reord))
  ·
    replace hM := (ite_f hc8).symm.trans hM
    refine cw_exit (hK3 _ _ ?_); clear hK3
    dsimp only [ref6_joined_k1] at hM
    refine cw_seq fun K10 hK10 => ?_
    refine cw_region ?_
    refine ow_ev (ev_build [.int .i64 0, .int .i64 0, .int .i64 0, .int .i64 0]) ?_
    refine ow_cons (st_store_all (b := b4) (vs := [.int .i64 0, .int .i64 0, .int .i64 0, .int .i64 0]) (k := ?_))
    refine ow_ev ev_assign ?_
    refine ow_nil (hK10 _ _ ?_); clear hK10
    obtain rfl := some_inj hM
    refine cw_ret (kw_retc2 (fun w hm => ret_of hm rfl))

def ref6_CheckRoute_k3 (i_2 : Nat) (cont2 : Nat → Option Int) : Unit → Option Int := fun _ =>
  chk (i64b ((i_2 : Int) + 1)) <|
  cont2 (i_2 + 1)
def ref6_CheckRoute_b3 (i_2 : Nat) (r0 : Route) (cont2 : Nat → Option Int) (cont3 : Nat → Option Int) : Nat → Option Int := fun k_3 =>
  if decide ((k_3 : Int) < (i_2 : Int)) then
    ((idx r0.Steps (k_3 : Int)).bind fun x23 =>
    (idx r0.Steps (i_2 : Int)).bind fun x25 =>
    if decide (x23.Section = x25.Section) then
      (some 5)
    else
      (chk (i64b ((k_3 : Int) + 1)) <|
      cont3 (k_3 + 1)))
  else
    (ref6_CheckRoute_k3 i_2 cont2 ())
def ref6_CheckRoute_k5 (i_4 : Nat) (cont4 : Nat → Option Int) : Bool → Option Int := fun ok_j5 =>
  if (!ok_j5) then
    (some 11)
  else
    (chk (i64b ((i_4 : Int) + 1)) <|
    cont4 (i_4 + 1))
def ref6_CheckRoute_k4 : Unit → Option Int := fun _ =>
  some 0
def ref6_CheckRoute_b4 (r0 : Route) (l0 : Layout) (cont4 : Nat → Option Int) : Nat → Option Int := fun i_4 =>
  if decide ((i_4 : Int) < (r0.Steps.length : Int)) then
    (chk (i64b ((i_4 : Int) - 1)) <|
    (idx r0.Steps ((i_4 : Int) - 1)).bind fun x34 =>
    (idx r0.Steps (i_4 : Int)).bind fun x36 =>
    (ref6_joined_m l0 x34 x36).bind fun y38 =>
    ref6_CheckRoute_k5 i_4 cont4 y38.2)
  else
    (ref6_CheckRoute_k4 ())
def ref6_CheckRoute_k2 (r0 : Route) (l0 : Layout) : Unit → Option Int := fun _ =>
  iter (ref6_CheckRoute_b4 r0 l0) FUEL 1
def ref6_CheckRoute_b2 (r0 : Route) (l0 : Layout) (cont2 : Nat → Option Int) : Nat → Option Int := fun i_2 =>
  if decide ((i_2 : Int) < (r0.Steps.length : Int)) then
    (iter (ref6_CheckRoute_b3 i_2 r0 cont2) FUEL 0)
  else
    (ref6_CheckRoute_k2 r0 l0 ())
def ref6_CheckRoute_k1 (r0 : Route) (l0 : Layout) : Unit → Option Int := fun _ =>
  iter (ref6_CheckRoute_b2 r0 l0) FUEL 0
def ref6_CheckRoute_b1 (r0 : Route) (l0 : Layout) (cont1 : Nat → Option Int) : Nat → Option Int := fun i_1 =>
  if decide ((i_1 : Int) < (r0.Steps.length : Int)) then
    ((idx r0.Steps (i_1 : Int)).bind fun x10 =>
    chk (i64b ((l0.Sections.length : Int) - 1)) <|
    (ref6_in_m x10.Section 0 ((l0.Sections.length : Int) - 1)).bind fun y13 =>
    (whn (!(!y13)) default (idx r0.Steps (i_1 : Int))).bind fun x15 =>
    (whn (!(!y13)) default (ref6_in_m x15.Dir 0 1)).bind fun y17 =>
    if ((!y13) || (!y17)) then
      (some 4)
    else
      (chk (i64b ((i_1 : Int) + 1)) <|
      cont1 (i_1 + 1)))
  else
    (ref6_CheckRoute_k1 r0 l0 ())
def ref6_CheckRoute_m (l0 : Layout) (r0 : Route) : Option Int :=
  (ref1_Check_m l0).bind fun y3 =>
  if decide (y3 ≠ 0) then
    (some 1)
  else
    (if (decide (24 < (r0.Steps.length : Int)) || decide (2 < r0.Overlap)) then
      (some 7)
    else
      (chk (!(!(decide (r0.Overlap < 0))) || i64b ((r0.Steps.length : Int) - r0.Overlap)) <|
      if (decide (r0.Overlap < 0) || decide (((r0.Steps.length : Int) - r0.Overlap) < 2)) then
        (some 4)
      else
        (iter (ref6_CheckRoute_b1 r0 l0) FUEL 0)))
theorem ref6_CheckRoute_spec (S : Soup) (w : World) (l0 : Layout) (r_l0 : GoRep.R Layout) (r0 : Route) (r_r0 : GoRep.R Route) (y : Int) (hM : ref6_CheckRoute_m l0 r0 = some y) (hS : ∀ k, S k → k < w.heap.size) (h_l0 : GoRep.ok S w r_l0 l0) (h_r0 : GoRep.ok S w r_r0 r0) :
    Calls Try.prog 57 #[.agg #[.slice r_l0.1.a l0.Stations.length r_l0.1.cap, .slice r_l0.2.1.a l0.Points.length r_l0.2.1.cap, .slice r_l0.2.2.1.a l0.Sections.length r_l0.2.2.1.cap, .slice r_l0.2.2.2.a l0.Links.length r_l0.2.2.2.cap], .agg #[.slice r_r0.a r0.Steps.length r_r0.cap, .int .i64 r0.Overlap]] w (Ret w (.int .i64 y)) := by
  refine calls_cw (args := [_, _]) Try.func57 rfl ((pre_nil hS).start |>.immP (α := List Str) (r := r_l0.1) (x := l0.Stations) h_l0.1|>.immP (α := List Str) (r := r_l0.2.1) (x := l0.Points) h_l0.2.1|>.immP (α := List Section) (r := r_l0.2.2.1) (x := l0.Sections) h_l0.2.2.1|>.immP (α := List Link) (r := r_l0.2.2.2) (x := l0.Links) h_l0.2.2.2|>.immP (α := List Step) (r := r_r0) (x := r0.Steps) h_r0) rfl ?_
  unfold ref6_CheckRoute_m at hM
  refine cw_seq fun K1 hK1 => ?_
  refine cw_region ?_
  refine ow_cons (st_box (l := [.slice r_l0.1.a l0.Stations.length r_l0.1.cap, .slice r_l0.2.1.a l0.Points.length r_l0.2.1.cap, .slice r_l0.2.2.1.a l0.Sections.length r_l0.2.2.1.cap, .slice r_l0.2.2.2.a l0.Links.length r_l0.2.2.2.cap]) (k := fun b1 => ?_))
  refine ow_cons (st_box (l := [.slice r_r0.a r0.Steps.length r_r0.cap, .int .i64 r0.Overlap]) (k := fun b2 => ?_))
  refine ow_ev ev_assign ?_
  refine ow_nil (hK1 _ _ ?_); clear hK1
  refine cw_seq fun K2 hK2 => ?_
  refine cw_seq fun K3 hK3 => ?_
  refine cw_region ?_
  refine ow_ev (ev_load_all (b := b1)) ?_
  obtain ⟨y3, hy4, hM⟩ := bind_some hM
  refine ow_cons (st_callv (fun w hm => let ⟨S, hs⟩ := hm; ref1_Check_spec _ w l0 r_l0 y3 hy4 (lend_lt hs) ⟨(Kn.lend (Kn.imm (α := List Str) (r := r_l0.1) (x := l0.Stations) (by repeat (first | exact Has.head | apply Has.tail))) hs), (Kn.lend (Kn.imm (α := List Str) (r := r_l0.2.1) (x := l0.Points) (by repeat (first | exact Has.head | apply Has.tail))) hs), (Kn.lend (Kn.imm (α := List Section) (r := r_l0.2.2.1) (x := l0.Sections) (by repeat (first | exact Has.head | apply Has.tail))) hs), (Kn.lend (Kn.imm (α := List Link) (r := r_l0.2.2.2) (x := l0.Links) (by repeat (first | exact Has.head | apply Has.tail))) hs)⟩) ?_)
  refine ow_ev ev_neq ?_
  refine ow_nil (hK3 _ _ ?_); clear hK3
  refine cw_cond rfl (fun hc5 => ?_) (fun hc5 => ?_)
  ·
    replace hM := (ite_t hc5).symm.trans hM
    refine cw_seq fun K4 hK4 => ?_
    refine cw_region ?_
    refine ow_ev ev_assign ?_
    refine ow_nil (hK4 _ _ ?_); clear hK4
    obtain rfl := some_inj hM
    refine cw_ret (kw_retc1 (fun w hm => ret_of hm rfl))
  ·
    replace hM := (ite_f hc5).symm.trans hM
    refine cw_skip (hK2 _ _ ?_); clear hK2
    refine cw_seq fun K5 hK5 => ?_
    refine cw_seq fun K6 hK6 => ?_
    refine cw_region ?_
    refine ow_ev (ev_field_addr 0) ?_
    refine ow_ev (ev_load_own (b := b2)) ?_
    refine ow_ev ev_len ?_
    refine ow_ev ev_gtr ?_
    refine ow_ev ev_move ?_
    refine ow_evg rfl (ev_field_addr 1) ?_
    refine ow_evg rfl (ev_load_own (b := b2)) ?_
    refine ow_evg rfl ev_gtr ?_
    refine ow_ev ev_or ?_
    refine ow_nil (hK6 _ _ ?_); clear hK6
    refine cw_cond rfl (fun hc6 => ?_) (fun hc6 => ?_)
    ·
      replace hM := (ite_t hc6).symm.trans hM
      refine cw_seq fun K7 hK7 => ?_
      refine cw_region ?_
      refine ow_ev ev_assign ?_
      refine ow_nil (hK7 _ _ ?_); clear hK7
      obtain rfl := some_inj hM
      refine cw_ret (kw_retc1 (fun w hm => ret_of hm rfl))
    ·
      replace hM := (ite_f hc6).symm.trans hM
      refine cw_skip (hK5 _ _ ?_); clear hK5
      refine cw_seq fun K8 hK8 => ?_
      refine cw_seq fun K9 hK9 => ?_
      refine cw_region ?_
      refine ow_ev (ev_field_addr 1) ?_
      refine ow_ev (ev_load_own (b := b2)) ?_
      refine ow_ev ev_lss ?_
      refine ow_ev ev_move ?_
      refine ow_evg rfl (ev_field_addr 0) ?_
      refine ow_evg rfl (ev_load_own (b := b2)) ?_
      refine ow_evg rfl ev_len ?_
      refine ow_evg rfl (ev_field_addr 1) ?_
      refine ow_evg rfl (ev_load_own (b := b2)) ?_
      obtain ⟨hI7, hM⟩ := chk_some hM
      refine ow_evg rfl (ev_sub (hr := fun hg => i64b_I64 (gor hI7 hg))) ?_
      refine ow_evg rfl ev_lss ?_
      refine ow_ev ev_or ?_
      refine ow_nil (hK9 _ _ ?_); clear hK9
      refine cw_cond rfl (fun hc8 => ?_) (fun hc8 => ?_)
      ·
        replace hM := (ite_t hc8).symm.trans hM
        refine cw_seq fun K10 hK10 => ?_
        refine cw_region ?_
        refine ow_ev ev_assign ?_
        refine ow_nil (hK10 _ _ ?_); clear hK10
        obtain rfl := some_inj hM
        refine cw_ret (kw_retc1 (fun w hm => ret_of hm rfl))
      ·
        replace hM := (ite_f hc8).symm.trans hM
        refine cw_skip (hK8 _ _ ?_); clear hK8
        refine cw_seq fun K11 hK11 => ?_
        refine cw_seq fun K12 hK12 => ?_
        refine cw_region ?_
        refine ow_ev ev_assign ?_
        refine ow_nil (hK12 _ _ ?_); clear hK12
        refine cw_block ?_
        refine cw_loop (γ := Nat × Nat × Unit) (env := fun (_, i_1, _) => [(2, .v (.pointer (some ⟨b1, 0, none⟩))), (3, .v (.pointer (some ⟨b2, 0, none⟩))), (5, .v (.int .i64 (i_1 : Int)))]) (mem := fun (_, i_1, _) => [imm (α := (List Str)) r_l0.1 l0.Stations, imm (α := (List Str)) r_l0.2.1 l0.Points, imm (α := (List Section)) r_l0.2.2.1 l0.Sections, imm (α := (List Link)) r_l0.2.2.2 l0.Links, own b1 28 [.slice r_l0.1.a l0.Stations.length r_l0.1.cap, .slice r_l0.2.1.a l0.Points.length r_l0.2.1.cap, .slice r_l0.2.2.1.a l0.Sections.length r_l0.2.2.1.cap, .slice r_l0.2.2.2.a l0.Links.length r_l0.2.2.2.cap], imm (α := (List Step)) r_r0 r0.Steps, own b2 48 [.slice r_r0.a r0.Steps.length r_r0.cap, .int .i64 r0.Overlap]]) (R := fun g => iter (ref6_CheckRoute_b1 r0 l0) g.1 g.2.1 = some y) (μ := fun g => g.1) (FUEL, 0, ()) hM ⟨rfl, rfl, rfl, trivial⟩ (fun w hm => hm.reord) ?_
        clear hM
        intro g hM KL1 hL1
        obtain ⟨nn1, i_1, ⟨⟩⟩ := g
        dsimp only at hM ⊢
        obtain ⟨nn1, cont1, rfl, hcont1, hM⟩ := iter_open' hM
        dsimp only [ref6_CheckRoute_b1] at hM
        refine cw_seq fun K13 hK13 => ?_
        refine cw_seq fun K14 hK14 => ?_
        refine cw_region ?_
        refine ow_ev ev_move ?_
        refine ow_ev (ev_field_addr 0) ?_
        refine ow_ev (ev_load_own (b := b2)) ?_
        refine ow_ev ev_len ?_
        refine ow_ev ev_lss ?_
        refine ow_nil (hK14 _ _ ?_); clear hK14
        refine cw_cond rfl (fun hc9 => ?_) (fun hc9 => ?_)
        ·
          replace hM := (ite_t hc9).symm.trans hM
          refine cw_skip (hK13 _ _ ?_); clear hK13
          refine cw_seq fun K15 hK15 => ?_
          refine cw_block ?_
          refine cw_seq fun K16 hK16 => ?_
          refine cw_region_any _ (List.Sublist.refl _) ?_
          refine aw_ev 0 rfl (ev_field_addr 0) ?_
          refine aw_ev 1 rfl (ev_load_own (b := b2)) ?_
          refine aw_ev 2 rfl ev_move ?_
          obtain ⟨x10, hx11, hM⟩ := bind_some hM
          refine aw_ev 3 rfl (ev_idx (xs := r0.Steps) 2 (Kn.imm (α := List Step) (r := r_r0) (x := r0.Steps) (by repeat (first | exact Has.head | apply Has.tail))) (fun hg => let h := idx_some hx11; ⟨h.1, h.2.1⟩)) ?_
          refine aw_ev 4 rfl (ev_field_addr 0) ?_
          refine aw_ev 5 rfl (ev_ld (i := (i_1 : Int)) (xs := r0.Steps) (y := x10) 0 (Kn.imm (α := List Step) (r := r_r0) (x := r0.Steps) (by repeat (first | exact Has.head | apply Has.tail))) (fun _ => hx11)) ?_
          refine aw_ev 6 rfl (ev_field_addr 2) ?_
          refine aw_ev 7 rfl (ev_load_own (b := b1)) ?_
          refine aw_ev 8 rfl ev_len ?_
          obtain ⟨hI12, hM⟩ := chk_some hM
          refine aw_ev 9 rfl (ev_sub (hr := fun hg => i64b_I64 hI12)) ?_
          obtain ⟨y13, hy14, hM⟩ := bind_some hM
          refine aw_one 10 rfl (st_callv (fun w hm => let ⟨S, hs⟩ := hm; ref6_in_spec _ w x10.Section 0 ((l0.Sections.length : Int) - 1) y13 hy14 (lend_lt hs) ) ⟨fun w hm => hm.sub (by repeat (first | exact List.Sublist.refl _ | apply List.Sublist.cons_cons | apply List.Sublist.cons)), ?_⟩)
          refine aw_ev 11 rfl ev_not ?_
          refine aw_ev 12 rfl ev_move ?_
          refine aw_evg 13 rfl rfl (ev_field_addr 0) ?_
          refine aw_evg 14 rfl rfl (ev_load_own (b := b2)) ?_
          refine aw_evg 15 rfl rfl ev_move ?_
          obtain ⟨x15, hx16, hM⟩ := bind_some hM
          refine aw_evg 16 rfl rfl (ev_idx (xs := r0.Steps) 2 (Kn.imm (α := List Step) (r := r_r0) (x := r0.Steps) (by repeat (first | exact Has.head | apply Has.tail))) (fun hg => let h := idx_some (whn_some hx16 hg); ⟨h.1, h.2.1⟩)) ?_
          refine aw_evg 17 rfl rfl (ev_field_addr 1) ?_
          refine aw_evg 18 rfl rfl (ev_ld (i := (i_1 : Int)) (xs := r0.Steps) (y := x15) 1 (Kn.imm (α := List Step) (r := r_r0) (x := r0.Steps) (by repeat (first | exact Has.head | apply Has.tail))) (fun hg => whn_some hx16 hg)) ?_
          obtain ⟨y17, hy18, hM⟩ := bind_some hM
          refine aw_callg 19 rfl rfl (fun hg w hm => let ⟨S, hs⟩ := hm; ref6_in_spec _ w x15.Dir 0 1 y17 (whn_some hy18 hg) (lend_lt hs) ) ?_
          refine aw_evg 20 rfl rfl ev_not ?_
          refine aw_ev 21 rfl ev_or ?_
          refine aw_done (hK16 _ _ ?_); clear hK16
          refine cw_cond rfl (fun hc19 => ?_) (fun hc19 => ?_)
          ·
            replace hM := (ite_t hc19).symm.trans hM
            refine cw_seq fun K17 hK17 => ?_
            refine cw_region ?_
            refine ow_ev ev_assign ?_
            refine ow_nil (hK17 _ _ ?_); clear hK17
            obtain rfl := some_inj hM
            refine cw_ret (kw_retc1 (fun w hm => ret_of hm rfl))
          ·
            replace hM := (ite_f hc19).symm.trans hM
            refine cw_skip (hK15 _ _ ?_); clear hK15
            refine cw_region ?_
            refine ow_ev ev_move ?_
            obtain ⟨hI20, hM⟩ := chk_some hM
            refine ow_ev (ev_add (hr := fun hg => i64b_I64 hI20)) ?_
            refine ow_ev ev_assign ?_
            refine ow_nil (hL1 (nn1, (i_1 + 1), ()) _ _ (eqc hcont1 hM) (Nat.lt_succ_self _) ⟨rfl, rfl, rfl, trivial⟩ (fun w hm => hm.reord))
        ·
          replace hM := (ite_f hc9).symm.trans hM
          refine cw_exit (hK11 _ _ ?_); clear hK11
          dsimp only [ref6_CheckRoute_k1] at hM
          refine cw_seq fun K18 hK18 => ?_
          refine cw_seq fun K19 hK19 => ?_
          refine cw_region ?_
          refine ow_ev ev_assign ?_
          refine ow_nil (hK19 _ _ ?_); clear hK19
          refine cw_block ?_
          refine cw_loop (γ := Nat × Nat × Unit) (env := fun (_, i_2, _) => [(2, .v (.pointer (some ⟨b1, 0, none⟩))), (3, .v (.pointer (some ⟨b2, 0, none⟩))), (6, .v (.int .i64 (i_2 : Int)))]) (mem := fun (_, i_2, _) => [imm (α := (List Str)) r_l0.1 l0.Stations, imm (α := (List Str)) r_l0.2.1 l0.Points, imm (α := (List Section)) r_l0.2.2.1 l0.Sections, imm (α := (List Link)) r_l0.2.2.2 l0.Links, own b1 28 [.slice r_l0.1.a l0.Stations.length r_l0.1.cap, .slice r_l0.2.1.a l0.Points.length r_l0.2.1.cap, .slice r_l0.2.2.1.a l0.Sections.length r_l0.2.2.1.cap, .slice r_l0.2.2.2.a l0.Links.length r_l0.2.2.2.cap], imm (α := (List Step)) r_r0 r0.Steps, own b2 48 [.slice r_r0.a r0.Steps.length r_r0.cap, .int .i64 r0.Overlap]]) (R := fun g => iter (ref6_CheckRoute_b2 r0 l0) g.1 g.2.1 = some y) (μ := fun g => g.1) (FUEL, 0, ()) hM ⟨rfl, rfl, rfl, trivial⟩ (fun w hm => hm.reord) ?_
          clear hM
          intro g hM KL2 hL2
          obtain ⟨nn2, i_2, ⟨⟩⟩ := g
          dsimp only at hM ⊢
          obtain ⟨nn2, cont2, rfl, hcont2, hM⟩ := iter_open' hM
          dsimp only [ref6_CheckRoute_b2] at hM
          refine cw_seq fun K20 hK20 => ?_
          refine cw_seq fun K21 hK21 => ?_
          refine cw_region ?_
          refine ow_ev ev_move ?_
          refine ow_ev (ev_field_addr 0) ?_
          refine ow_ev (ev_load_own (b := b2)) ?_
          refine ow_ev ev_len ?_
          refine ow_ev ev_lss ?_
          refine ow_nil (hK21 _ _ ?_); clear hK21
          refine cw_cond rfl (fun hc21 => ?_) (fun hc21 => ?_)
          ·
            replace hM := (ite_t hc21).symm.trans hM
            refine cw_skip (hK20 _ _ ?_); clear hK20
            refine cw_seq fun K22 hK22 => ?_
            refine cw_block ?_
            refine cw_seq fun K23 hK23 => ?_
            refine cw_region ?_
            refine ow_ev ev_assign ?_
            refine ow_nil (hK23 _ _ ?_); clear hK23
            refine cw_block ?_
            refine cw_loop (γ := Nat × Nat × Unit) (env := fun (_, k_3, _) => [(2, .v (.pointer (some ⟨b1, 0, none⟩))), (3, .v (.pointer (some ⟨b2, 0, none⟩))), (6, .v (.int .i64 (i_2 : Int))), (7, .v (.int .i64 (k_3 : Int)))]) (mem := fun (_, k_3, _) => [imm (α := (List Str)) r_l0.1 l0.Stations, imm (α := (List Str)) r_l0.2.1 l0.Points, imm (α := (List Section)) r_l0.2.2.1 l0.Sections, imm (α := (List Link)) r_l0.2.2.2 l0.Links, own b1 28 [.slice r_l0.1.a l0.Stations.length r_l0.1.cap, .slice r_l0.2.1.a l0.Points.length r_l0.2.1.cap, .slice r_l0.2.2.1.a l0.Sections.length r_l0.2.2.1.cap, .slice r_l0.2.2.2.a l0.Links.length r_l0.2.2.2.cap], imm (α := (List Step)) r_r0 r0.Steps, own b2 48 [.slice r_r0.a r0.Steps.length r_r0.cap, .int .i64 r0.Overlap]]) (R := fun g => iter (ref6_CheckRoute_b3 i_2 r0 cont2) g.1 g.2.1 = some y) (μ := fun g => g.1) (FUEL, 0, ()) hM ⟨rfl, rfl, rfl, rfl, trivial⟩ (fun w hm => hm.reord) ?_
            clear hM
            intro g hM KL3 hL3
            obtain ⟨nn3, k_3, ⟨⟩⟩ := g
            dsimp only at hM ⊢
            obtain ⟨nn3, cont3, rfl, hcont3, hM⟩ := iter_open' hM
            dsimp only [ref6_CheckRoute_b3] at hM
            refine cw_seq fun K24 hK24 => ?_
            refine cw_seq fun K25 hK25 => ?_
            refine cw_region ?_
            refine ow_ev ev_move ?_
            refine ow_ev ev_move ?_
            refine ow_ev ev_lss ?_
            refine ow_nil (hK25 _ _ ?_); clear hK25
            refine cw_cond rfl (fun hc22 => ?_) (fun hc22 => ?_)
            ·
              replace hM := (ite_t hc22).symm.trans hM
              refine cw_skip (hK24 _ _ ?_); clear hK24
              refine cw_seq fun K26 hK26 => ?_
              refine cw_block ?_
              refine cw_seq fun K27 hK27 => ?_
              refine cw_region_any _ (List.Sublist.refl _) ?_
              refine aw_ev 0 rfl (ev_field_addr 0) ?_
              refine aw_ev 1 rfl (ev_load_own (b := b2)) ?_
              refine aw_ev 2 rfl ev_move ?_
              obtain ⟨x23, hx24, hM⟩ := bind_some hM
              refine aw_ev 3 rfl (ev_idx (xs := r0.Steps) 2 (Kn.imm (α := List Step) (r := r_r0) (x := r0.Steps) (by repeat (first | exact Has.head | apply Has.tail))) (fun hg => let h := idx_some hx24; ⟨h.1, h.2.1⟩)) ?_
              refine aw_ev 4 rfl (ev_field_addr 0) ?_
              refine aw_ev 5 rfl (ev_ld (i := (k_3 : Int)) (xs := r0.Steps) (y := x23) 0 (Kn.imm (α := List Step) (r := r_r0) (x := r0.Steps) (by repeat (first | exact Has.head | apply Has.tail))) (fun _ => hx24)) ?_
              refine aw_ev 6 rfl (ev_field_addr 0) ?_
              refine aw_ev 7 rfl (ev_load_own (b := b2)) ?_
              refine aw_ev 8 rfl ev_move ?_
              obtain ⟨x25, hx26, hM⟩ := bind_some hM
              refine aw_ev 9 rfl (ev_idx (xs := r0.Steps) 2 (Kn.imm (α := List Step) (r := r_r0) (x := r0.Steps) (by repeat (first | exact Has.head | apply Has.tail))) (fun hg => let h := idx_some hx26; ⟨h.1, h.2.1⟩)) ?_
              refine aw_ev 10 rfl (ev_field_addr 0) ?_
              refine aw_ev 11 rfl (ev_ld (i := (i_2 : Int)) (xs := r0.Steps) (y := x25) 0 (Kn.imm (α := List Step) (r := r_r0) (x := r0.Steps) (by repeat (first | exact Has.head | apply Has.tail))) (fun _ => hx26)) ?_
              refine aw_ev 12 rfl ev_eql ?_
              refine aw_done (hK27 _ _ ?_); clear hK27
              refine cw_cond rfl (fun hc27 => ?_) (fun hc27 => ?_)
              ·
                replace hM := (ite_t hc27).symm.trans hM
                refine cw_seq fun K28 hK28 => ?_
                refine cw_region ?_
                refine ow_ev ev_assign ?_
                refine ow_nil (hK28 _ _ ?_); clear hK28
                obtain rfl := some_inj hM
                refine cw_ret (kw_retc1 (fun w hm => ret_of hm rfl))
              ·
                replace hM := (ite_f hc27).symm.trans hM
                refine cw_skip (hK26 _ _ ?_); clear hK26
                refine cw_region ?_
                refine ow_ev ev_move ?_
                obtain ⟨hI28, hM⟩ := chk_some hM
                refine ow_ev (ev_add (hr := fun hg => i64b_I64 hI28)) ?_
                refine ow_ev ev_assign ?_
                refine ow_nil (hL3 (nn3, (k_3 + 1), ()) _ _ (eqc hcont3 hM) (Nat.lt_succ_self _) ⟨rfl, rfl, rfl, rfl, trivial⟩ (fun w hm => hm.reord))
            ·
              replace hM := (ite_f hc22).symm.trans hM
              refine cw_exit (hK22 _ _ ?_); clear hK22
              dsimp only [ref6_CheckRoute_k3] at hM
              refine cw_region ?_
              refine ow_ev ev_move ?_
              obtain ⟨hI29, hM⟩ := chk_some hM
              refine ow_ev (ev_add (hr := fun hg => i64b_I64 hI29)) ?_
              refine ow_ev ev_assign ?_
              refine ow_nil (hL2 (nn2, (i_2 + 1), ()) _ _ (eqc hcont2 hM) (Nat.lt_succ_self _) ⟨rfl, rfl, rfl, trivial⟩ (fun w hm => hm.reord))
          ·
            replace hM := (ite_f hc21).symm.trans hM
            refine cw_exit (hK18 _ _ ?_); clear hK18
            dsimp only [ref6_CheckRoute_k2] at hM
            refine cw_seq fun K29 hK29 => ?_
            refine cw_seq fun K30 hK30 => ?_
            refine cw_region ?_
            refine ow_ev ev_assign ?_
            refine ow_nil (hK30 _ _ ?_); clear hK30
            refine cw_block ?_
            refine cw_loop (γ := Nat × Nat × Unit) (env := fun (_, i_4, _) => [(2, .v (.pointer (some ⟨b1, 0, none⟩))), (3, .v (.pointer (some ⟨b2, 0, none⟩))), (8, .v (.int .i64 (i_4 : Int)))]) (mem := fun (_, i_4, _) => [imm (α := (List Str)) r_l0.1 l0.Stations, imm (α := (List Str)) r_l0.2.1 l0.Points, imm (α := (List Section)) r_l0.2.2.1 l0.Sections, imm (α := (List Link)) r_l0.2.2.2 l0.Links, own b1 28 [.slice r_l0.1.a l0.Stations.length r_l0.1.cap, .slice r_l0.2.1.a l0.Points.length r_l0.2.1.cap, .slice r_l0.2.2.1.a l0.Sections.length r_l0.2.2.1.cap, .slice r_l0.2.2.2.a l0.Links.length r_l0.2.2.2.cap], imm (α := (List Step)) r_r0 r0.Steps, own b2 48 [.slice r_r0.a r0.Steps.length r_r0.cap, .int .i64 r0.Overlap]]) (R := fun g => iter (ref6_CheckRoute_b4 r0 l0) g.1 g.2.1 = some y) (μ := fun g => g.1) (FUEL, 1, ()) hM ⟨rfl, rfl, rfl, trivial⟩ (fun w hm => hm.reord) ?_
            clear hM
            intro g hM KL4 hL4
            obtain ⟨nn4, i_4, ⟨⟩⟩ := g
            dsimp only at hM ⊢
            obtain ⟨nn4, cont4, rfl, hcont4, hM⟩ := iter_open' hM
            dsimp only [ref6_CheckRoute_b4] at hM
            refine cw_seq fun K31 hK31 => ?_
            refine cw_seq fun K32 hK32 => ?_
            refine cw_region ?_
            refine ow_ev ev_move ?_
            refine ow_ev (ev_field_addr 0) ?_
            refine ow_ev (ev_load_own (b := b2)) ?_
            refine ow_ev ev_len ?_
            refine ow_ev ev_lss ?_
            refine ow_nil (hK32 _ _ ?_); clear hK32
            refine cw_cond rfl (fun hc30 => ?_) (fun hc30 => ?_)
            ·
              replace hM := (ite_t hc30).symm.trans hM
              refine cw_skip (hK31 _ _ ?_); clear hK31
              refine cw_seq fun K33 hK33 => ?_
              refine cw_block ?_
              refine cw_cut (γ := Bool × Unit) (env := fun (ok_j5, _) => [(2, .v (.pointer (some ⟨b1, 0, none⟩))), (3, .v (.pointer (some ⟨b2, 0, none⟩))), (8, .v (.int .i64 (i_4 : Int))), (10, .v (.bool ok_j5))]) (mem := fun (ok_j5, _) => [imm (α := (List Str)) r_l0.1 l0.Stations, imm (α := (List Str)) r_l0.2.1 l0.Points, imm (α := (List Section)) r_l0.2.2.1 l0.Sections, imm (α := (List Link)) r_l0.2.2.2 l0.Links, own b1 28 [.slice r_l0.1.a l0.Stations.length r_l0.1.cap, .slice r_l0.2.1.a l0.Points.length r_l0.2.1.cap, .slice r_l0.2.2.1.a l0.Sections.length r_l0.2.2.1.cap, .slice r_l0.2.2.2.a l0.Links.length r_l0.2.2.2.cap], imm (α := (List Step)) r_r0 r0.Steps, own b2 48 [.slice r_r0.a r0.Steps.length r_r0.cap, .int .i64 r0.Overlap]]) (R := fun g => ref6_CheckRoute_k5 i_4 cont4 g.1 = some y) ?_ ?_
              · intro KJ5 hJ5
                refine cw_region_any _ (List.Sublist.refl _) ?_
                refine aw_ev 0 rfl (ev_load_all (b := b1)) ?_
                refine aw_ev 1 rfl (ev_field_addr 0) ?_
                refine aw_ev 2 rfl (ev_load_own (b := b2)) ?_
                refine aw_ev 3 rfl ev_move ?_
                obtain ⟨hI33, hM⟩ := chk_some hM
                refine aw_ev 4 rfl (ev_sub (hr := fun hg => i64b_I64 hI33)) ?_
                obtain ⟨x34, hx35, hM⟩ := bind_some hM
                refine aw_ev 5 rfl (ev_idx (xs := r0.Steps) 2 (Kn.imm (α := List Step) (r := r_r0) (x := r0.Steps) (by repeat (first | exact Has.head | apply Has.tail))) (fun hg => let h := idx_some hx35; ⟨h.1, h.2.1⟩)) ?_
                refine aw_ev 6 rfl (ev_lds (m := 2) (i := ((i_4 : Int) - 1)) (xs := r0.Steps) (y := x34) (l := [.int .i64 x34.Section, .int .i64 x34.Dir]) 0 (Kn.imm (α := List Step) (r := r_r0) (x := r0.Steps) (by repeat (first | exact Has.head | apply Has.tail))) (fun _ => hx35)) ?_
                refine aw_ev 7 rfl (ev_field_addr 0) ?_
                refine aw_ev 8 rfl (ev_load_own (b := b2)) ?_
                refine aw_ev 9 rfl ev_move ?_
                obtain ⟨x36, hx37, hM⟩ := bind_some hM
                refine aw_ev 10 rfl (ev_idx (xs := r0.Steps) 2 (Kn.imm (α := List Step) (r := r_r0) (x := r0.Steps) (by repeat (first | exact Has.head | apply Has.tail))) (fun hg => let h := idx_some hx37; ⟨h.1, h.2.1⟩)) ?_
                refine aw_ev 11 rfl (ev_lds (m := 2) (i := (i_4 : Int)) (xs := r0.Steps) (y := x36) (l := [.int .i64 x36.Section, .int .i64 x36.Dir]) 0 (Kn.imm (α := List Step) (r := r_r0) (x := r0.Steps) (by repeat (first | exact Has.head | apply Has.tail))) (fun _ => hx37)) ?_
                obtain ⟨y38, hy39, hM⟩ := bind_some hM
                refine aw_two 12 16 (⟨_, rfl, rfl, st_callv (fun w hm => let ⟨S, hs⟩ := hm; ref6_joined_spec _ w l0 r_l0 x34 x36 y38 hy39 (lend_lt hs) ⟨(Kn.lend (Kn.imm (α := List Str) (r := r_l0.1) (x := l0.Stations) (by repeat (first | exact Has.head | apply Has.tail))) hs), (Kn.lend (Kn.imm (α := List Str) (r := r_l0.2.1) (x := l0.Points) (by repeat (first | exact Has.head | apply Has.tail))) hs), (Kn.lend (Kn.imm (α := List Section) (r := r_l0.2.2.1) (x := l0.Sections) (by repeat (first | exact Has.head | apply Has.tail))) hs), (Kn.lend (Kn.imm (α := List Link) (r := r_l0.2.2.2) (x := l0.Links) (by repeat (first | exact Has.head | apply Has.tail))) hs)⟩) ⟨fun w hm => hm.sub (by repeat (first | exact List.Sublist.refl _ | apply List.Sublist.cons_cons | apply List.Sublist.cons)), ?_⟩⟩) (⟨_, rfl, rfl, st_alloc rfl (k := fun b40 => ⟨fun w hm => hm.sub (by repeat (first | exact List.Sublist.refl _ | apply List.Sublist.cons_cons | apply List.Sublist.cons)), ?_⟩)⟩)
                ·
                  refine aw_ev 13 rfl ev_move ?_
                  refine aw_ev 14 rfl (ev_extract (vs := [.agg #[.int .i64 y38.1.To.Section, .int .i64 y38.1.To.Dir, .int .i64 y38.1.Point, .int .i64 y38.1.Pos], .bool y38.2])) ?_
                  refine aw_ev 15 rfl (ev_extract (vs := [.agg #[.int .i64 y38.1.To.Section, .int .i64 y38.1.To.Dir, .int .i64 y38.1.Point, .int .i64 y38.1.Pos], .bool y38.2])) ?_
                  refine aw_one 16 rfl (st_alloc rfl (k := fun b41 => ⟨fun w hm => hm.sub (by repeat (first | exact List.Sublist.refl _ | apply List.Sublist.cons_cons | apply List.Sublist.cons)), ?_⟩))
                  refine aw_one 17 rfl (st_store_all (b := b41) (vs := [.int .i64 y38.1.To.Section, .int .i64 y38.1.To.Dir, .int .i64 y38.1.Point, .int .i64 y38.1.Pos]) (k := ⟨fun w hm => hm.sub (by repeat (first | exact List.Sublist.refl _ | apply List.Sublist.cons_cons | apply List.Sublist.cons)), ?_⟩))
                  refine aw_ev 18 rfl ev_assign ?_
                  refine aw_done (hJ5 (y38.2, ()) _ _ hM ⟨rfl, rfl, rfl, rfl, trivial⟩ (fun w hm => hm.reord))
                ·
                  refine aw_one 12 rfl (st_callv (fun w hm => let ⟨S, hs⟩ := hm; ref6_joined_spec _ w l0 r_l0 x34 x36 y38 hy39 (lend_lt hs) ⟨(Kn.lend (Kn.imm (α := List Str) (r := r_l0.1) (x := l0.Stations) (by repeat (first | exact Has.head | apply Has.tail))) hs), (Kn.lend (Kn.imm (α := List Str) (r := r_l0.2.1) (x := l0.Points) (by repeat (first | exact Has.head | apply Has.tail))) hs), (Kn.lend (Kn.imm (α := List Section) (r := r_l0.2.2.1) (x := l0.Sections) (by repeat (first | exact Has.head | apply Has.tail))) hs), (Kn.lend (Kn.imm (α := List Link) (r := r_l0.2.2.2) (x := l0.Links) (by repeat (first | exact Has.head | apply Has.tail))) hs)⟩) ⟨fun w hm => hm.sub (by repeat (first | exact List.Sublist.refl _ | apply List.Sublist.cons_cons | apply List.Sublist.cons)), ?_⟩)
                  refine aw_ev 13 rfl ev_move ?_
                  refine aw_ev 14 rfl (ev_extract (vs := [.agg #[.int .i64 y38.1.To.Section, .int .i64 y38.1.To.Dir, .int .i64 y38.1.Point, .int .i64 y38.1.Pos], .bool y38.2])) ?_
                  refine aw_ev 15 rfl (ev_extract (vs := [.agg #[.int .i64 y38.1.To.Section, .int .i64 y38.1.To.Dir, .int .i64 y38.1.Point, .int .i64 y38.1.Pos], .bool y38.2])) ?_
                  refine aw_one 17 rfl (st_store_all (b := b40) (vs := [.int .i64 y38.1.To.Section, .int .i64 y38.1.To.Dir, .int .i64 y38.1.Point, .int .i64 y38.1.Pos]) (k := ⟨fun w hm => hm.sub (by repeat (first | exact List.Sublist.refl _ | apply List.Sublist.cons_cons | apply List.Sublist.cons)), ?_⟩))
                  refine aw_ev 18 rfl ev_assign ?_
                  refine aw_done (hJ5 (y38.2, ()) _ _ hM ⟨rfl, rfl, rfl, rfl, trivial⟩ (fun w hm => hm.reord))
              ·
                clear hM
                intro g hM
                obtain ⟨ok_j5, ⟨⟩⟩ := g
                dsimp only at hM ⊢
                dsimp only [ref6_CheckRoute_k5] at hM
                refine cw_seq fun K34 hK34 => ?_
                refine cw_region ?_
                refine ow_ev ev_move ?_
                refine ow_ev ev_not ?_
                refine ow_nil (hK34 _ _ ?_); clear hK34
                refine cw_cond rfl (fun hc31 => ?_) (fun hc31 => ?_)
                ·
                  replace hM := (ite_t hc31).symm.trans hM
                  refine cw_seq fun K35 hK35 => ?_
                  refine cw_region ?_
                  refine ow_ev ev_assign ?_
                  refine ow_nil (hK35 _ _ ?_); clear hK35
                  obtain rfl := some_inj hM
                  refine cw_ret (kw_retc1 (fun w hm => ret_of hm rfl))
                ·
                  replace hM := (ite_f hc31).symm.trans hM
                  refine cw_skip (hK33 _ _ ?_); clear hK33
                  refine cw_region ?_
                  refine ow_ev ev_move ?_
                  obtain ⟨hI32, hM⟩ := chk_some hM
                  refine ow_ev (ev_add (hr := fun hg => i64b_I64 hI32)) ?_
                  refine ow_ev ev_assign ?_
                  refine ow_nil (hL4 (nn4, (i_4 + 1), ()) _ _ (eqc hcont4 hM) (Nat.lt_succ_self _) ⟨rfl, rfl, rfl, trivial⟩ (fun w hm => hm.reord))
            ·
              replace hM := (ite_f hc30).symm.trans hM
              refine cw_exit (hK29 _ _ ?_); clear hK29
              dsimp only [ref6_CheckRoute_k4] at hM
              refine cw_seq fun K36 hK36 => ?_
              refine cw_region ?_
              refine ow_ev ev_assign ?_
              refine ow_nil (hK36 _ _ ?_); clear hK36
              obtain rfl := some_inj hM
              refine cw_ret (kw_retc1 (fun w hm => ret_of hm rfl))

def ref6_Cells_k2 (i_1 : Nat) (cont1 : ((List Cell) × Nat) → Option ((List Cell) × Int × Int)) (lc_2 : List Cell) : Unit → Option ((List Cell) × Int × Int) := fun _ =>
  chk (i64b ((i_1 : Int) + 1)) <|
  cont1 (lc_2, i_1 + 1)
def ref6_Cells_b2 (x12 : Section) (g_j3 : Int) (i_1 : Nat) (cont1 : ((List Cell) × Nat) → Option ((List Cell) × Int × Int)) (cont2 : ((List Cell) × Nat) → Option ((List Cell) × Int × Int)) : ((List Cell) × Nat) → Option ((List Cell) × Int × Int) := fun (lc_2, k_2) =>
  if decide ((k_2 : Int) < x12.Length) then
    (chk (decide ((lc_2.length + ([(Cell.mk x12.Limit g_j3)] : List Cell).length) * 16 ≤ 140737488355328)) <|
    chk (i64b ((k_2 : Int) + 1)) <|
    cont2 ((lc_2 ++ ([(Cell.mk x12.Limit g_j3)] : List Cell)), k_2 + 1))
  else
    (ref6_Cells_k2 i_1 cont1 lc_2 ())
def ref6_Cells_k3 (x12 : Section) (i_1 : Nat) (cont1 : ((List Cell) × Nat) → Option ((List Cell) × Int × Int)) (lc_1 : List Cell) : Int → Option ((List Cell) × Int × Int) := fun g_j3 =>
  iter (ref6_Cells_b2 x12 g_j3 i_1 cont1) FUEL (lc_1, 0)
def ref6_Cells_k1 (lc_1 : List Cell) (r0 : Route) (l0 : Layout) : Unit → Option ((List Cell) × Int × Int) := fun _ =>
  if decide (4000 < (lc_1.length : Int)) then
    (some (([] : List Cell), 0, 7))
  else
    ((idx r0.Steps 0).bind fun x27 =>
    (idx l0.Sections x27.Section).bind fun x29 =>
    some (lc_1, x29.Length, 0))
def ref6_Cells_b1 (r0 : Route) (l0 : Layout) (cont1 : ((List Cell) × Nat) → Option ((List Cell) × Int × Int)) : ((List Cell) × Nat) → Option ((List Cell) × Int × Int) := fun (lc_1, i_1) =>
  chk (i64b ((r0.Steps.length : Int) - r0.Overlap)) <|
  if decide ((i_1 : Int) < ((r0.Steps.length : Int) - r0.Overlap)) then
    ((idx r0.Steps (i_1 : Int)).bind fun x10 =>
    (idx l0.Sections x10.Section).bind fun x12 =>
    (idx r0.Steps (i_1 : Int)).bind fun x21 =>
    if decide (x21.Dir = 1) then
      (chk (i64b (-x12.Grade)) <|
      ref6_Cells_k3 x12 i_1 cont1 lc_1 (-x12.Grade))
    else
      (ref6_Cells_k3 x12 i_1 cont1 lc_1 x12.Grade))
  else
    (ref6_Cells_k1 lc_1 r0 l0 ())
def ref6_Cells_m (l0 : Layout) (r0 : Route) : Option ((List Cell) × Int × Int) :=
  (ref6_CheckRoute_m l0 r0).bind fun y3 =>
  if decide (y3 ≠ 0) then
    (some (([] : List Cell), 0, y3))
  else
    (iter (ref6_Cells_b1 r0 l0) FUEL (([] : List Cell), 0))
theorem ref6_Cells_spec (S : Soup) (w : World) (l0 : Layout) (r_l0 : GoRep.R Layout) (r0 : Route) (r_r0 : GoRep.R Route) (y : (List Cell) × Int × Int) (hM : ref6_Cells_m l0 r0 = some y) (hS : ∀ k, S k → k < w.heap.size) (h_l0 : GoRep.ok S w r_l0 l0) (h_r0 : GoRep.ok S w r_r0 r0) :
    Calls Try.prog 56 #[.agg #[.slice r_l0.1.a l0.Stations.length r_l0.1.cap, .slice r_l0.2.1.a l0.Points.length r_l0.2.1.cap, .slice r_l0.2.2.1.a l0.Sections.length r_l0.2.2.1.cap, .slice r_l0.2.2.2.a l0.Links.length r_l0.2.2.2.cap], .agg #[.slice r_r0.a r0.Steps.length r_r0.cap, .int .i64 r0.Overlap]] w (Post (β := (GoRep.R (List Cell))) S [] (fun g => .tuple #[.slice g.a y.1.length g.cap, .int .i64 y.2.1, .int .i64 y.2.2]) (fun g => [trow 57 g y.1]) w) := by
  refine calls_cw (args := [_, _]) Try.func56 rfl ((pre_nil hS).start |>.immP (α := List Str) (r := r_l0.1) (x := l0.Stations) h_l0.1|>.immP (α := List Str) (r := r_l0.2.1) (x := l0.Points) h_l0.2.1|>.immP (α := List Section) (r := r_l0.2.2.1) (x := l0.Sections) h_l0.2.2.1|>.immP (α := List Link) (r := r_l0.2.2.2) (x := l0.Links) h_l0.2.2.2|>.immP (α := List Step) (r := r_r0) (x := r0.Steps) h_r0) rfl ?_
  unfold ref6_Cells_m at hM
  refine cw_seq fun K1 hK1 => ?_
  refine cw_region ?_
  refine ow_cons (st_box (l := [.slice r_l0.1.a l0.Stations.length r_l0.1.cap, .slice r_l0.2.1.a l0.Points.length r_l0.2.1.cap, .slice r_l0.2.2.1.a l0.Sections.length r_l0.2.2.1.cap, .slice r_l0.2.2.2.a l0.Links.length r_l0.2.2.2.cap]) (k := fun b1 => ?_))
  refine ow_cons (st_box (l := [.slice r_r0.a r0.Steps.length r_r0.cap, .int .i64 r0.Overlap]) (k := fun b2 => ?_))
  refine ow_ev ev_assign ?_
  refine ow_ev ev_assign ?_
  refine ow_ev ev_assign ?_
  refine ow_nil (hK1 _ _ ?_); clear hK1
  refine cw_seq fun K2 hK2 => ?_
  refine cw_seq fun K3 hK3 => ?_
  refine cw_region ?_
  refine ow_ev (ev_load_all (b := b1)) ?_
  refine ow_ev (ev_load_all (b := b2)) ?_
  obtain ⟨y3, hy4, hM⟩ := bind_some hM
  refine ow_cons (st_callv (fun w hm => let ⟨S, hs⟩ := hm; ref6_CheckRoute_spec _ w l0 r_l0 r0 r_r0 y3 hy4 (lend_lt hs) ⟨(Kn.lend (Kn.imm (α := List Str) (r := r_l0.1) (x := l0.Stations) (by repeat (first | exact Has.head | apply Has.tail))) hs), (Kn.lend (Kn.imm (α := List Str) (r := r_l0.2.1) (x := l0.Points) (by repeat (first | exact Has.head | apply Has.tail))) hs), (Kn.lend (Kn.imm (α := List Section) (r := r_l0.2.2.1) (x := l0.Sections) (by repeat (first | exact Has.head | apply Has.tail))) hs), (Kn.lend (Kn.imm (α := List Link) (r := r_l0.2.2.2) (x := l0.Links) (by repeat (first | exact Has.head | apply Has.tail))) hs)⟩ (Kn.lend (Kn.imm (α := List Step) (r := r_r0) (x := r0.Steps) (by repeat (first | exact Has.head | apply Has.tail))) hs)) ?_)
  refine ow_ev ev_assign ?_
  refine ow_nil (hK3 _ _ ?_); clear hK3
  refine cw_seq fun K4 hK4 => ?_
  refine cw_region ?_
  refine ow_ev ev_move ?_
  refine ow_ev ev_neq ?_
  refine ow_nil (hK4 _ _ ?_); clear hK4
  refine cw_cond rfl (fun hc5 => ?_) (fun hc5 => ?_)
  ·
    replace hM := (ite_t hc5).symm.trans hM
    refine cw_seq fun K5 hK5 => ?_
    refine cw_region ?_
    refine ow_ev ev_move ?_
    refine ow_ev ev_assign ?_
    refine ow_ev ev_assign ?_
    refine ow_ev ev_assign ?_
    refine ow_nil (hK5 _ _ ?_); clear hK5
    refine cw_imp (fun w hm => hm.row_nil (α := Cell) 57 (fun _ => ())) ?_
    obtain rfl := some_inj hM
    refine cw_ret (kw_retc3 (fun w hm => post_of (⟨none, 0, (fun _ => ())⟩ : SR (GoRep.R Cell) ) hm rfl))
  ·
    replace hM := (ite_f hc5).symm.trans hM
    refine cw_skip (hK2 _ _ ?_); clear hK2
    refine cw_seq fun K6 hK6 => ?_
    refine cw_region ?_
    refine ow_ev ev_assign ?_
    refine ow_nil (hK6 _ _ ?_); clear hK6
    refine cw_seq fun K7 hK7 => ?_
    refine cw_seq fun K8 hK8 => ?_
    refine cw_region ?_
    refine ow_ev ev_assign ?_
    refine ow_nil (hK8 _ _ ?_); clear hK8
    refine cw_block ?_
    refine cw_imp (fun w hm => hm.row_nil (α := Cell) 57 (fun _ => ())) ?_
    refine cw_loop (γ := Nat × ((List Cell) × Nat) × (SR (GoRep.R Cell))) (env := fun (_, (lc_1, i_1), rc_1) => [(2, .v (.pointer (some ⟨b1, 0, none⟩))), (3, .v (.pointer (some ⟨b2, 0, none⟩))), (8, .v (.slice rc_1.a lc_1.length rc_1.cap)), (9, .v (.int .i64 (i_1 : Int)))]) (mem := fun (_, (lc_1, i_1), rc_1) => [imm (α := (List Str)) r_l0.1 l0.Stations, imm (α := (List Str)) r_l0.2.1 l0.Points, imm (α := (List Section)) r_l0.2.2.1 l0.Sections, imm (α := (List Link)) r_l0.2.2.2 l0.Links, own b1 28 [.slice r_l0.1.a l0.Stations.length r_l0.1.cap, .slice r_l0.2.1.a l0.Points.length r_l0.2.1.cap, .slice r_l0.2.2.1.a l0.Sections.length r_l0.2.2.1.cap, .slice r_l0.2.2.2.a l0.Links.length r_l0.2.2.2.cap], imm (α := (List Step)) r_r0 r0.Steps, own b2 48 [.slice r_r0.a r0.Steps.length r_r0.cap, .int .i64 r0.Overlap], trow 57 rc_1 lc_1]) (R := fun g => iter (ref6_Cells_b1 r0 l0) g.1 g.2.1 = some y) (μ := fun g => g.1) (FUEL, (([] : List Cell), 0), (⟨none, 0, (fun _ => ())⟩ : SR (GoRep.R Cell)  )) hM ⟨rfl, rfl, rfl, rfl, trivial⟩ (fun w hm => hm.reord) ?_
    clear hM
    intro g hM KL1 hL1
    obtain ⟨nn1, ⟨lc_1, i_1⟩, rc_1⟩ := g
    dsimp only at hM ⊢
    obtain ⟨nn1, cont1, rfl, hcont1, hM⟩ := iter_open' hM
    dsimp only [ref6_Cells_b1] at hM
    refine cw_seq fun K9 hK9 => ?_
    refine cw_seq fun K10 hK10 => ?_
    refine cw_region ?_
    refine ow_ev ev_move ?_
    refine ow_ev (ev_field_addr 0) ?_
    refine ow_ev (ev_load_own (b := b2)) ?_
    refine ow_ev ev_len ?_
    refine ow_ev (ev_field_addr 1) ?_
    refine ow_ev (ev_load_own (b := b2)) ?_
    obtain ⟨hI8, hM⟩ := chk_some hM
    refine ow_ev (ev_sub (hr := fun hg => i64b_I64 hI8)) ?_
    refine ow_ev ev_lss ?_
    refine ow_nil (hK10 _ _ ?_); clear hK10
    refine cw_cond rfl (fun hc9 => ?_) (fun hc9 => ?_)
    ·
      replace hM := (ite_t hc9).symm.trans hM
      refine cw_skip (hK9 _ _ ?_); clear hK9
      refine cw_seq fun K11 hK11 => ?_
      refine cw_block ?_
      refine cw_seq fun K12 hK12 => ?_
      refine cw_region_any _ (List.Sublist.refl _) ?_
      refine aw_ev 0 rfl (ev_field_addr 2) ?_
      refine aw_ev 1 rfl (ev_load_own (b := b1)) ?_
      refine aw_ev 2 rfl (ev_field_addr 0) ?_
      refine aw_ev 3 rfl (ev_load_own (b := b2)) ?_
      refine aw_ev 4 rfl ev_move ?_
      obtain ⟨x10, hx11, hM⟩ := bind_some hM
      refine aw_ev 5 rfl (ev_idx (xs := r0.Steps) 2 (Kn.imm (α := List Step) (r := r_r0) (x := r0.Steps) (by repeat (first | exact Has.head | apply Has.tail))) (fun hg => let h := idx_some hx11; ⟨h.1, h.2.1⟩)) ?_
      refine aw_ev 6 rfl (ev_field_addr 0) ?_
      refine aw_ev 7 rfl (ev_ld (i := (i_1 : Int)) (xs := r0.Steps) (y := x10) 0 (Kn.imm (α := List Step) (r := r_r0) (x := r0.Steps) (by repeat (first | exact Has.head | apply Has.tail))) (fun _ => hx11)) ?_
      obtain ⟨x12, hx13, hM⟩ := bind_some hM
      refine aw_ev 8 rfl (ev_idx (xs := l0.Sections) 5 (Kn.imm (α := List Section) (r := r_l0.2.2.1) (x := l0.Sections) (by repeat (first | exact Has.head | apply Has.tail))) (fun hg => let h := idx_some hx13; ⟨h.1, h.2.1⟩)) ?_
      refine aw_ev 9 rfl (ev_lds (m := 5) (i := x10.Section) (xs := l0.Sections) (y := x12) (l := [.string x12.Name.ba, .int .i64 x12.Length, .int .i64 x12.Limit, .int .i64 x12.Grade, .int .i64 x12.Station]) 0 (Kn.imm (α := List Section) (r := r_l0.2.2.1) (x := l0.Sections) (by repeat (first | exact Has.head | apply Has.tail))) (fun _ => hx13)) ?_
      refine aw_one 10 rfl (st_alloc rfl (k := fun b14 => ⟨fun w hm => hm.sub (by repeat (first | exact List.Sublist.refl _ | apply List.Sublist.cons_cons | apply List.Sublist.cons)), ?_⟩))
      refine aw_one 11 rfl (st_store_all (b := b14) (vs := [.string x12.Name.ba, .int .i64 x12.Length, .int .i64 x12.Limit, .int .i64 x12.Grade, .int .i64 x12.Station]) (k := ⟨fun w hm => hm.sub (by repeat (first | exact List.Sublist.refl _ | apply List.Sublist.cons_cons | apply List.Sublist.cons)), ?_⟩))
      refine aw_done (hK12 _ _ ?_); clear hK12
      refine cw_seq fun K13 hK13 => ?_
      refine cw_region ?_
      refine ow_ev (ev_field_addr 3) ?_
      refine ow_ev (ev_load_own (b := b14)) ?_
      refine ow_ev ev_assign ?_
      refine ow_nil (hK13 _ _ ?_); clear hK13
      refine cw_cut (γ := Int × Unit) (env := fun (g_j3, _) => [(2, .v (.pointer (some ⟨b1, 0, none⟩))), (3, .v (.pointer (some ⟨b2, 0, none⟩))), (8, .v (.slice rc_1.a lc_1.length rc_1.cap)), (9, .v (.int .i64 (i_1 : Int))), (10, .v (.pointer (some ⟨b14, 0, none⟩))), (11, .v (.int .i64 g_j3))]) (mem := fun (g_j3, _) => [imm (α := (List Str)) r_l0.1 l0.Stations, imm (α := (List Str)) r_l0.2.1 l0.Points, imm (α := (List Section)) r_l0.2.2.1 l0.Sections, imm (α := (List Link)) r_l0.2.2.2 l0.Links, own b1 28 [.slice r_l0.1.a l0.Stations.length r_l0.1.cap, .slice r_l0.2.1.a l0.Points.length r_l0.2.1.cap, .slice r_l0.2.2.1.a l0.Sections.length r_l0.2.2.1.cap, .slice r_l0.2.2.2.a l0.Links.length r_l0.2.2.2.cap], imm (α := (List Step)) r_r0 r0.Steps, own b2 48 [.slice r_r0.a r0.Steps.length r_r0.cap, .int .i64 r0.Overlap], trow 57 rc_1 lc_1, own b14 31 [.string x12.Name.ba, .int .i64 x12.Length, .int .i64 x12.Limit, .int .i64 x12.Grade, .int .i64 x12.Station]]) (R := fun g => ref6_Cells_k3 x12 i_1 cont1 lc_1 g.1 = some y) ?_ ?_
      · intro KJ3 hJ3
        refine cw_seq fun K18 hK18 => ?_
        refine cw_region ?_
        refine ow_ev (ev_field_addr 0) ?_
        refine ow_ev (ev_load_own (b := b2)) ?_
        refine ow_ev ev_move ?_
        obtain ⟨x21, hx22, hM⟩ := bind_some hM
        refine ow_ev (ev_idx (xs := r0.Steps) 2 (Kn.imm (α := List Step) (r := r_r0) (x := r0.Steps) (by repeat (first | exact Has.head | apply Has.tail))) (fun hg => let h := idx_some hx22; ⟨h.1, h.2.1⟩)) ?_
        refine ow_ev (ev_field_addr 1) ?_
        refine ow_ev (ev_ld (i := (i_1 : Int)) (xs := r0.Steps) (y := x21) 1 (Kn.imm (α := List Step) (r := r_r0) (x := r0.Steps) (by repeat (first | exact Has.head | apply Has.tail))) (fun _ => hx22)) ?_
        refine ow_ev ev_eql ?_
        refine ow_nil (hK18 _ _ ?_); clear hK18
        refine cw_cond rfl (fun hc23 => ?_) (fun hc23 => ?_)
        ·
          replace hM := (ite_t hc23).symm.trans hM
          refine cw_region ?_
          refine ow_ev ev_move ?_
          obtain ⟨hI24, hM⟩ := chk_some hM
          refine ow_ev (ev_neg (hr := fun hg => i64b_I64 hI24)) ?_
          refine ow_ev ev_assign ?_
          refine ow_nil (hJ3 ((-x12.Grade), ()) _ _ hM ⟨rfl, rfl, rfl, rfl, rfl, rfl, trivial⟩ (fun w hm => hm.reord))
        ·
          replace hM := (ite_f hc23).symm.trans hM
          refine cw_skip (hJ3 (x12.Grade, ()) _ _ hM ⟨rfl, rfl, rfl, rfl, rfl, rfl, trivial⟩ (fun w hm => hm.reord))
      ·
        clear hM
        intro g hM
        obtain ⟨g_j3, ⟨⟩⟩ := g
        dsimp only at hM ⊢
        dsimp only [ref6_Cells_k3] at hM
        refine cw_seq fun K14 hK14 => ?_
        refine cw_region ?_
        refine ow_ev ev_assign ?_
        refine ow_nil (hK14 _ _ ?_); clear hK14
        refine cw_block ?_
        refine cw_loop (γ := Nat × ((List Cell) × Nat) × (SR (GoRep.R Cell))) (env := fun (_, (lc_2, k_2), rc_2) => [(2, .v (.pointer (some ⟨b1, 0, none⟩))), (3, .v (.pointer (some ⟨b2, 0, none⟩))), (8, .v (.slice rc_2.a lc_2.length rc_2.cap)), (9, .v (.int .i64 (i_1 : Int))), (10, .v (.pointer (some ⟨b14, 0, none⟩))), (11, .v (.int .i64 g_j3)), (12, .v (.int .i64 (k_2 : Int)))]) (mem := fun (_, (lc_2, k_2), rc_2) => [imm (α := (List Str)) r_l0.1 l0.Stations, imm (α := (List Str)) r_l0.2.1 l0.Points, imm (α := (List Section)) r_l0.2.2.1 l0.Sections, imm (α := (List Link)) r_l0.2.2.2 l0.Links, own b1 28 [.slice r_l0.1.a l0.Stations.length r_l0.1.cap, .slice r_l0.2.1.a l0.Points.length r_l0.2.1.cap, .slice r_l0.2.2.1.a l0.Sections.length r_l0.2.2.1.cap, .slice r_l0.2.2.2.a l0.Links.length r_l0.2.2.2.cap], imm (α := (List Step)) r_r0 r0.Steps, own b2 48 [.slice r_r0.a r0.Steps.length r_r0.cap, .int .i64 r0.Overlap], trow 57 rc_2 lc_2, own b14 31 [.string x12.Name.ba, .int .i64 x12.Length, .int .i64 x12.Limit, .int .i64 x12.Grade, .int .i64 x12.Station]]) (R := fun g => iter (ref6_Cells_b2 x12 g_j3 i_1 cont1) g.1 g.2.1 = some y) (μ := fun g => g.1) (FUEL, (lc_1, 0), rc_1) hM ⟨rfl, rfl, rfl, rfl, rfl, rfl, rfl, trivial⟩ (fun w hm => hm.reord) ?_
        clear hM
        intro g hM KL2 hL2
        obtain ⟨nn2, ⟨lc_2, k_2⟩, rc_2⟩ := g
        dsimp only at hM ⊢
        obtain ⟨nn2, cont2, rfl, hcont2, hM⟩ := iter_open' hM
        dsimp only [ref6_Cells_b2] at hM
        refine cw_seq fun K15 hK15 => ?_
        refine cw_seq fun K16 hK16 => ?_
        refine cw_region ?_
        refine ow_ev ev_move ?_
        refine ow_ev (ev_field_addr 1) ?_
        refine ow_ev (ev_load_own (b := b14)) ?_
        refine ow_ev ev_lss ?_
        refine ow_nil (hK16 _ _ ?_); clear hK16
        refine cw_cond rfl (fun hc15 => ?_) (fun hc15 => ?_)
        ·
          replace hM := (ite_t hc15).symm.trans hM
          refine cw_skip (hK15 _ _ ?_); clear hK15
          refine cw_seq fun K17 hK17 => ?_
          refine cw_block ?_
          refine cw_region ?_
          refine ow_ev ev_move ?_
          refine ow_ev (ev_field_addr 2) ?_
          refine ow_ev (ev_load_own (b := b14)) ?_
          refine ow_ev ev_move ?_
          refine ow_ev (ev_build [.int .i64 x12.Limit, .int .i64 g_j3]) ?_
          refine ow_cons (st_bslice (α := Cell) 57 (fun _ => ()) ([(Cell.mk x12.Limit g_j3)] : List Cell) (OkL.flat (fun _ _ _ _ => trivial)) (fun r16 => ?_))
          obtain ⟨hb17, hM⟩ := chk_some hM
          refine ow_cons (st_append (r := rc_2) (r2 := r16) (by intro r'; repeat (first | exact Upd.head | apply Upd.tail)) (Kn.trow (e := 57) (r := r16) (by repeat (first | exact Has.head | apply Has.tail))) (OkL.flat (fun _ _ _ _ => trivial)) (of_decide_eq_true hb17) (fun r18 => ?_))
          refine ow_ev ev_assign ?_
          refine ow_nil (hK17 _ _ ?_); clear hK17
          refine cw_region ?_
          refine ow_ev ev_move ?_
          obtain ⟨hI19, hM⟩ := chk_some hM
          refine ow_ev (ev_add (hr := fun hg => i64b_I64 hI19)) ?_
          refine ow_ev ev_assign ?_
          refine ow_nil (hL2 (nn2, ((lc_2 ++ ([(Cell.mk x12.Limit g_j3)] : List Cell)), k_2 + 1), r18) _ _ (eqc hcont2 hM) (Nat.lt_succ_self _) ⟨rfl, rfl, rfl, rfl, rfl, rfl, rfl, trivial⟩ (fun w hm => hm.reord))
        ·
          replace hM := (ite_f hc15).symm.trans hM
          refine cw_exit (hK11 _ _ ?_); clear hK11
          dsimp only [ref6_Cells_k2] at hM
          refine cw_region ?_
          refine ow_ev ev_move ?_
          obtain ⟨hI20, hM⟩ := chk_some hM
          refine ow_ev (ev_add (hr := fun hg => i64b_I64 hI20)) ?_
          refine ow_ev ev_assign ?_
          refine ow_nil (hL1 (nn1, (lc_2, i_1 + 1), rc_2) _ _ (eqc hcont1 hM) (Nat.lt_succ_self _) ⟨rfl, rfl, rfl, rfl, trivial⟩ (fun w hm => hm.reord))
    ·
      replace hM := (ite_f hc9).symm.trans hM
      refine cw_exit (hK7 _ _ ?_); clear hK7
      dsimp only [ref6_Cells_k1] at hM
      refine cw_seq fun K19 hK19 => ?_
      refine cw_seq fun K20 hK20 => ?_
      refine cw_region ?_
      refine ow_ev ev_move ?_
      refine ow_ev ev_len ?_
      refine ow_ev ev_gtr ?_
      refine ow_nil (hK20 _ _ ?_); clear hK20
      refine cw_cond rfl (fun hc25 => ?_) (fun hc25 => ?_)
      ·
        replace hM := (ite_t hc25).symm.trans hM
        refine cw_seq fun K21 hK21 => ?_
        refine cw_region ?_
        refine ow_ev ev_assign ?_
        refine ow_ev ev_assign ?_
        refine ow_ev ev_assign ?_
        refine ow_nil (hK21 _ _ ?_); clear hK21
        refine cw_imp (fun w hm => hm.row_nil (α := Cell) 57 (fun _ => ())) ?_
        obtain rfl := some_inj hM
        refine cw_ret (kw_retc3 (fun w hm => post_of (⟨none, 0, (fun _ => ())⟩ : SR (GoRep.R Cell)       ) hm rfl))
      ·
        replace hM := (ite_f hc25).symm.trans hM
        refine cw_skip (hK19 _ _ ?_); clear hK19
        refine cw_seq fun K22 hK22 => ?_
        refine cw_region_any _ (List.Sublist.refl _) ?_
        refine aw_ev 0 rfl ev_move ?_
        refine aw_ev 1 rfl (ev_field_addr 2) ?_
        refine aw_ev 2 rfl (ev_load_own (b := b1)) ?_
        refine aw_ev 3 rfl (ev_field_addr 0) ?_
        refine aw_ev 4 rfl (ev_load_own (b := b2)) ?_
        obtain ⟨x27, hx28, hM⟩ := bind_some hM
        refine aw_ev 5 rfl (ev_idx (xs := r0.Steps) 2 (Kn.imm (α := List Step) (r := r_r0) (x := r0.Steps) (by repeat (first | exact Has.head | apply Has.tail))) (fun hg => let h := idx_some hx28; ⟨h.1, h.2.1⟩)) ?_
        refine aw_ev 6 rfl (ev_field_addr 0) ?_
        refine aw_ev 7 rfl (ev_ld (i := 0) (xs := r0.Steps) (y := x27) 0 (Kn.imm (α := List Step) (r := r_r0) (x := r0.Steps) (by repeat (first | exact Has.head | apply Has.tail))) (fun _ => hx28)) ?_
        obtain ⟨x29, hx30, hM⟩ := bind_some hM
        refine aw_ev 8 rfl (ev_idx (xs := l0.Sections) 5 (Kn.imm (α := List Section) (r := r_l0.2.2.1) (x := l0.Sections) (by repeat (first | exact Has.head | apply Has.tail))) (fun hg => let h := idx_some hx30; ⟨h.1, h.2.1⟩)) ?_
        refine aw_ev 9 rfl (ev_field_addr 1) ?_
        refine aw_ev 10 rfl (ev_ld (i := x27.Section) (xs := l0.Sections) (y := x29) 1 (Kn.imm (α := List Section) (r := r_l0.2.2.1) (x := l0.Sections) (by repeat (first | exact Has.head | apply Has.tail))) (fun _ => hx30)) ?_
        refine aw_ev 11 rfl ev_assign ?_
        refine aw_ev 12 rfl ev_assign ?_
        refine aw_ev 13 rfl ev_assign ?_
        refine aw_done (hK22 _ _ ?_); clear hK22
        obtain rfl := some_inj hM
        refine cw_ret (kw_retc3 (fun w hm => post_of rc_1 hm rfl))

def keep_Same_api_Cell_k1 : Unit → Option Bool := fun _ =>
  some true
def keep_Same_api_Cell_b1 (a0 : List Cell) (b0 : List Cell) (cont1 : Nat → Option Bool) : Nat → Option Bool := fun t13_1 =>
  if decide ((t13_1 : Int) < (a0.length : Int)) then
    ((idx a0 (t13_1 : Int)).bind fun x4 =>
    (idx b0 (t13_1 : Int)).bind fun x6 =>
    if (!decide (x4 = x6)) then
      (some false)
    else
      (cont1 (t13_1 + 1)))
  else
    (keep_Same_api_Cell_k1 ())
def keep_Same_api_Cell_m (a0 : List Cell) (b0 : List Cell) : Option Bool :=
  if decide ((a0.length : Int) ≠ (b0.length : Int)) then
    (some false)
  else
    (iter (keep_Same_api_Cell_b1 a0 b0) FUEL 0)
theorem keep_Same_api_Cell_spec (S : Soup) (w : World) (a0 : List Cell) (r_a0 : GoRep.R (List Cell)) (b0 : List Cell) (r_b0 : GoRep.R (List Cell)) (y : Bool) (hM : keep_Same_api_Cell_m a0 b0 = some y) (hS : ∀ k, S k → k < w.heap.size) (h_a0 : GoRep.ok S w r_a0 a0) (h_b0 : GoRep.ok S w r_b0 b0) :
    Calls Try.prog 58 #[.slice r_a0.a a0.length r_a0.cap, .slice r_b0.a b0.length r_b0.cap] w (Ret w (.bool y)) := by
  refine calls_cw (args := [_, _]) Try.func58 rfl ((pre_nil hS).start |>.immP (α := List Cell) (r := r_a0) (x := a0) h_a0|>.immP (α := List Cell) (r := r_b0) (x := b0) h_b0) rfl ?_
  unfold keep_Same_api_Cell_m at hM
  refine cw_seq fun K1 hK1 => ?_
  refine cw_region ?_
  refine ow_ev ev_assign ?_
  refine ow_nil (hK1 _ _ ?_); clear hK1
  refine cw_seq fun K2 hK2 => ?_
  refine cw_seq fun K3 hK3 => ?_
  refine cw_region ?_
  refine ow_ev ev_move ?_
  refine ow_ev ev_len ?_
  refine ow_ev ev_move ?_
  refine ow_ev ev_len ?_
  refine ow_ev ev_neq ?_
  refine ow_nil (hK3 _ _ ?_); clear hK3
  refine cw_cond rfl (fun hc1 => ?_) (fun hc1 => ?_)
  ·
    replace hM := (ite_t hc1).symm.trans hM
    refine cw_seq fun K4 hK4 => ?_
    refine cw_region ?_
    refine ow_ev ev_assign ?_
    refine ow_nil (hK4 _ _ ?_); clear hK4
    obtain rfl := some_inj hM
    refine cw_ret (kw_retc1 (fun w hm => ret_of hm rfl))
  ·
    replace hM := (ite_f hc1).symm.trans hM
    refine cw_skip (hK2 _ _ ?_); clear hK2
    refine cw_seq fun K5 hK5 => ?_
    refine cw_seq fun K6 hK6 => ?_
    refine cw_region ?_
    refine ow_ev ev_move ?_
    refine ow_have (fun w hm => Kn.len (Kn.imm (α := List Cell) (r := r_a0) (x := a0) (by repeat (first | exact Has.head | apply Has.tail))) hm) fun hl2 => ?_
    refine ow_ev ev_len ?_
    refine ow_ev ev_move ?_
    refine ow_nil (hK6 _ _ ?_); clear hK6
    refine cw_block ?_
    refine cw_loop (γ := Nat × Nat × Unit) (env := fun (_, t13_1, _) => [(0, .v (.slice r_a0.a a0.length r_a0.cap)), (1, .v (.slice r_b0.a b0.length r_b0.cap)), (12, .v (.int .i64 (a0.length : Int))), (13, .v (.int .i64 (t13_1 : Int)))]) (mem := fun (_, t13_1, _) => [imm (α := (List Cell)) r_a0 a0, imm (α := (List Cell)) r_b0 b0]) (R := fun g => iter (keep_Same_api_Cell_b1 a0 b0) g.1 g.2.1 = some y) (μ := fun g => g.1) (FUEL, 0, ()) hM ⟨rfl, rfl, rfl, rfl, trivial⟩ (fun w hm => hm.reord) ?_
    clear hM
    intro g hM KL1 hL1
    obtain ⟨nn1, t13_1, ⟨⟩⟩ := g
    dsimp only at hM ⊢
    obtain ⟨nn1, cont1, rfl, hcont1, hM⟩ := iter_open' hM
    dsimp only [keep_Same_api_Cell_b1] at hM
    refine cw_seq fun K7 hK7 => ?_
    refine cw_region ?_
    refine ow_ev ev_lss ?_
    refine ow_nil (hK7 _ _ ?_); clear hK7
    refine cw_seq fun K8 hK8 => ?_
    refine cw_cond rfl (fun hc3 => ?_) (fun hc3 => ?_)
    ·
      replace hM := (ite_t hc3).symm.trans hM
      have hc3d := of_decide_eq_true hc3
      refine cw_skip (hK8 _ _ ?_); clear hK8
      refine cw_seq fun K9 hK9 => ?_
      refine cw_block ?_
      refine cw_seq fun K10 hK10 => ?_
      refine cw_region ?_
      refine ow_ev ev_move ?_
      refine ow_ev ev_assign ?_
      refine ow_nil (hK10 _ _ ?_); clear hK10
      refine cw_seq fun K11 hK11 => ?_
      refine cw_region_any _ (List.Sublist.refl _) ?_
      refine aw_ev 0 rfl ev_move ?_
      refine aw_ev 1 rfl ev_move ?_
      obtain ⟨x4, hx5, hM⟩ := bind_some hM
      refine aw_ev 2 rfl (ev_idx (xs := a0) 2 (Kn.imm (α := List Cell) (r := r_a0) (x := a0) (by repeat (first | exact Has.head | apply Has.tail))) (fun hg => let h := idx_some hx5; ⟨h.1, h.2.1⟩)) ?_
      refine aw_ev 3 rfl (ev_lds (m := 2) (i := (t13_1 : Int)) (xs := a0) (y := x4) (l := [.int .i64 x4.Limit, .int .i64 x4.Grade]) 0 (Kn.imm (α := List Cell) (r := r_a0) (x := a0) (by repeat (first | exact Has.head | apply Has.tail))) (fun _ => hx5)) ?_
      refine aw_ev 4 rfl ev_move ?_
      refine aw_ev 5 rfl ev_move ?_
      obtain ⟨x6, hx7, hM⟩ := bind_some hM
      refine aw_ev 6 rfl (ev_idx (xs := b0) 2 (Kn.imm (α := List Cell) (r := r_b0) (x := b0) (by repeat (first | exact Has.head | apply Has.tail))) (fun hg => let h := idx_some hx7; ⟨h.1, h.2.1⟩)) ?_
      refine aw_ev 7 rfl (ev_lds (m := 2) (i := (t13_1 : Int)) (xs := b0) (y := x6) (l := [.int .i64 x6.Limit, .int .i64 x6.Grade]) 0 (Kn.imm (α := List Cell) (r := r_b0) (x := b0) (by repeat (first | exact Has.head | apply Has.tail))) (fun _ => hx7)) ?_
      refine aw_ev 8 rfl (ev_neqF [.int .i64, .int .i64] (decide (x4 = x6)) (Cell_eqv _ _)) ?_
      refine aw_done (hK11 _ _ ?_); clear hK11
      refine cw_cond rfl (fun hc8 => ?_) (fun hc8 => ?_)
      ·
        replace hM := (ite_t hc8).symm.trans hM
        refine cw_seq fun K12 hK12 => ?_
        refine cw_region ?_
        refine ow_ev ev_assign ?_
        refine ow_nil (hK12 _ _ ?_); clear hK12
        obtain rfl := some_inj hM
        refine cw_ret (kw_retc1 (fun w hm => ret_of hm rfl))
      ·
        replace hM := (ite_f hc8).symm.trans hM
        refine cw_skip (hK9 _ _ ?_); clear hK9
        refine cw_region ?_
        refine ow_ev (ev_add (hr := fun _ => by unfold I64; omega)) ?_
        refine ow_ev ev_move ?_
        refine ow_nil (hL1 (nn1, (t13_1 + 1), ()) _ _ (eqc hcont1 hM) (Nat.lt_succ_self _) ⟨rfl, rfl, rfl, rfl, trivial⟩ (fun w hm => hm.reord))
    ·
      replace hM := (ite_f hc3).symm.trans hM
      refine cw_exit (hK5 _ _ ?_); clear hK5
      dsimp only [keep_Same_api_Cell_k1] at hM
      refine cw_seq fun K13 hK13 => ?_
      refine cw_region ?_
      refine ow_ev ev_assign ?_
      refine ow_nil (hK13 _ _ ?_); clear hK13
      obtain rfl := some_inj hM
      refine cw_ret (kw_retc1 (fun w hm => ret_of hm rfl))

end Go.Proofs.Ytnihhidbiepnhaa
