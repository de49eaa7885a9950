/- Models of functions, and that the code computes them. -/
import Derived.Test.YtedocibniankjaaFs
import Derived.Test.YtedocibniankjaaFc
namespace Go.Proofs.Ytedocibniankjaa
open Go.Dc Go.RowKit
set_option maxRecDepth 10000
set_option linter.unusedVariables false
def flow_residual_cut_c1_m (v0 : Int) (p0 : List Bool) (p2 : List Int) : Option ((List Bool) × (List Int)) :=
  (idx p0 v0).bind fun x1 =>
  if (!x1) then
    ((idx p0 v0).bind fun x4 =>
    chk (decide ((p2.length + ([v0] : List Int).length) * 8 ≤ 140737488355328)) <|
    some ((p0.set v0.toNat true), (p2 ++ ([v0] : List Int))))
  else
    (some (p0, p2))
theorem flow_residual_cut_c1_spec (S : Soup) (w : World) (v0 : Int) (b_p0 : Nat) (p0 : List Bool) (r_p0 : GoRep.R (List Bool)) (b_p2 : Nat) (p2 : List Int) (r_p2 : GoRep.R (List Int)) (y : (List Bool) × (List Int)) (hM : flow_residual_cut_c1_m v0 p0 p2 = some y) (hP : Pre S [own b_p0 96 [.slice r_p0.a p0.length r_p0.cap], trow 4 r_p0 p0, own b_p2 22 [.slice r_p2.a p2.length r_p2.cap], trow 3 r_p2 p2] w)  :
    Calls Try.prog 79 #[.int .i64 v0, .pointer (some ⟨b_p0, 0, none⟩), .pointer (some ⟨b_p2, 0, none⟩)] w (Post (β := (GoRep.R (List Bool)) × (GoRep.R (List Int))) S [own b_p0 96 [.slice r_p0.a p0.length r_p0.cap], trow 4 r_p0 p0, own b_p2 22 [.slice r_p2.a p2.length r_p2.cap], trow 3 r_p2 p2] (fun g => .tuple #[]) (fun g => [own b_p0 96 [.slice g.1.a y.1.length g.1.cap], trow 4 g.1 y.1, own b_p2 22 [.slice g.2.a y.2.length g.2.cap], trow 3 g.2 y.2]) w) := by
  refine calls_cw (args := [_, _, _]) Try.func79 rfl (hP.start) rfl ?_
  unfold flow_residual_cut_c1_m at hM
  refine cw_seq fun K1 hK1 => ?_
  refine cw_region ?_
  refine ow_ev (ev_load_own (b := b_p0)) ?_
  refine ow_ev ev_move ?_
  obtain ⟨x1, hx2, hM⟩ := bind_some hM
  refine ow_ev (ev_idx (xs := p0) 1 (Kn.trow (e := 4) (r := r_p0) (by repeat (first | exact Has.head | apply Has.tail))) (fun hg => let h := idx_some hx2; ⟨h.1, h.2.1⟩)) ?_
  refine ow_ev (ev_ld (i := v0) (xs := p0) (y := x1) 0 (Kn.trow (e := 4) (r := r_p0) (by repeat (first | exact Has.head | apply Has.tail))) (fun _ => hx2)) ?_
  refine ow_ev ev_not ?_
  refine ow_nil (hK1 _ _ ?_); clear hK1
  refine cw_cond rfl (fun hc3 => ?_) (fun hc3 => ?_)
  ·
    replace hM := (ite_t hc3).symm.trans hM
    refine cw_seq fun K2 hK2 => ?_
    refine cw_region ?_
    refine ow_ev (ev_load_own (b := b_p0)) ?_
    refine ow_ev ev_move ?_
    obtain ⟨x4, hx5, hM⟩ := bind_some hM
    refine ow_ev (ev_idx (xs := p0) 1 (Kn.trow (e := 4) (r := r_p0) (by repeat (first | exact Has.head | apply Has.tail))) (fun hg => let h := idx_some hx5; ⟨h.1, h.2.1⟩)) ?_
    refine ow_cons (st_set (r := r_p0) (i := v0) (xs := p0) (u := x4) (vs := [.bool true]) 0 true hx5 rfl (fun _ _ h => h) (by repeat (first | exact Upd.head | apply Upd.tail)) ?_)
    refine ow_nil (hK2 _ _ ?_); clear hK2
    refine cw_region ?_
    refine ow_ev (ev_load_own (b := b_p2)) ?_
    refine ow_ev ev_move ?_
    refine ow_cons (st_bslice (α := Int) 3 (fun _ => ()) ([v0] : List Int) (OkL.flat (fun _ _ _ _ => trivial)) (fun r6 => ?_))
    obtain ⟨hb7, hM⟩ := chk_some hM
    refine ow_cons (st_append (r := r_p2) (r2 := r6) (by intro r'; repeat (first | exact Upd.head | apply Upd.tail)) (Kn.trow (e := 3) (r := r6) (by repeat (first | exact Has.head | apply Has.tail))) (OkL.flat (fun _ _ _ _ => trivial)) (of_decide_eq_true hb7) (fun r8 => ?_))
    refine ow_cons (st_store_all (b := b_p2) (vs := [.slice r8.a ((p2 ++ ([v0] : List Int)).length) r8.cap]) (k := ?_))
    obtain rfl := some_inj hM
    refine ow_nil (kw_end0 rfl (fun w hm => by simp only [List.length_set]; exact post_of (r_p0, r8) hm rfl))
  ·
    replace hM := (ite_f hc3).symm.trans hM
    obtain rfl := some_inj hM
    refine cw_skip (kw_end0 rfl (fun w hm => post_of (r_p0, r_p2) hm rfl))

def flow_residual_cut_k2 (t23_1 : Nat) (cont1 : ((List Bool) × (List Int) × Nat) → Option (List Int)) : ((List Bool) × (List Int)) → Option (List Int) := fun (lin_j2_0, lqueue_j2_0) =>
  chk (i64b ((t23_1 : Int) + 1)) <|
  cont1 (lin_j2_0, lqueue_j2_0, t23_1 + 1)
def flow_residual_cut_k4 (cont3 : ((List Bool) × (List Int) × Nat) → Option (List Int)) (t62_3 : Nat) : ((List Bool) × (List Int)) → Option (List Int) := fun (lin_j4_0, lqueue_j4_0) =>
  cont3 (lin_j4_0, lqueue_j4_0, t62_3 + 1)
def flow_residual_cut_b3 (x25 : List Int) (r0 : Flow_residual) (cont2 : ((List Bool) × (List Int)) → Option (List Int)) (cont3 : ((List Bool) × (List Int) × Nat) → Option (List Int)) : ((List Bool) × (List Int) × Nat) → Option (List Int) := fun (lin_3_0, lqueue_3_0, t62_3) =>
  if decide ((t62_3 : Int) < (x25.length : Int)) then
    ((idx x25 (t62_3 : Int)).bind fun x29 =>
    chk (i64b (2 * r0.arcs)) <|
    (whn (decide (x29 < (2 * r0.arcs))) default (idx r0.left x29)).bind fun x32 =>
    if (decide (x29 < (2 * r0.arcs)) && decide (0 < x32)) then
      ((idx r0.to x29).bind fun x35 =>
      (flow_residual_cut_c1_m x35 lin_3_0 lqueue_3_0).bind fun y37 =>
      flow_residual_cut_k4 cont3 t62_3 (y37.1, y37.2))
    else
      (flow_residual_cut_k4 cont3 t62_3 (lin_3_0, lqueue_3_0)))
  else
    (cont2 (lin_3_0, lqueue_3_0))
def flow_residual_cut_k6 (cont4 : ((List Int) × Nat) → Option (List Int)) (t95_4 : Nat) : (List Int) → Option (List Int) := fun lset_j6 =>
  cont4 (lset_j6, t95_4 + 1)
def flow_residual_cut_k5 (lset_4 : List Int) : Unit → Option (List Int) := fun _ =>
  some lset_4
def flow_residual_cut_b4 (lin_2_0 : List Bool) (cont4 : ((List Int) × Nat) → Option (List Int)) : ((List Int) × Nat) → Option (List Int) := fun (lset_4, t95_4) =>
  if decide ((t95_4 : Int) < (lin_2_0.length : Int)) then
    ((idx lin_2_0 (t95_4 : Int)).bind fun x43 =>
    if x43 then
      (chk (decide ((lset_4.length + ([(t95_4 : Int)] : List Int).length) * 8 ≤ 140737488355328)) <|
      flow_residual_cut_k6 cont4 t95_4 (lset_4 ++ ([(t95_4 : Int)] : List Int)))
    else
      (flow_residual_cut_k6 cont4 t95_4 lset_4))
  else
    (flow_residual_cut_k5 lset_4 ())
def flow_residual_cut_k3 (lin_2_0 : List Bool) : Unit → Option (List Int) := fun _ =>
  iter (flow_residual_cut_b4 lin_2_0) FUEL (([] : List Int), 0)
def flow_residual_cut_b2 (r0 : Flow_residual) (cont2 : ((List Bool) × (List Int)) → Option (List Int)) : ((List Bool) × (List Int)) → Option (List Int) := fun (lin_2_0, lqueue_2_0) =>
  if decide (0 < (lqueue_2_0.length : Int)) then
    ((idx lqueue_2_0 0).bind fun x20 =>
    (sub lqueue_2_0 1 (lqueue_2_0.length : Int)).bind fun l22 =>
    (idx r0.from_ x20).bind fun x25 =>
    iter (flow_residual_cut_b3 x25 r0 cont2) FUEL (lin_2_0, l22, 0))
  else
    (flow_residual_cut_k3 lin_2_0 ())
def flow_residual_cut_k1 (r0 : Flow_residual) (lin_1_0 : List Bool) (lqueue_1_0 : List Int) : Unit → Option (List Int) := fun _ =>
  iter (flow_residual_cut_b2 r0) FUEL (lin_1_0, lqueue_1_0)
def flow_residual_cut_b1 (r0 : Flow_residual) (cont1 : ((List Bool) × (List Int) × Nat) → Option (List Int)) : ((List Bool) × (List Int) × Nat) → Option (List Int) := fun (lin_1_0, lqueue_1_0, t23_1) =>
  if decide ((t23_1 : Int) < r0.nodes) then
    (chk (i64b (2 * (t23_1 : Int))) <|
    chk (i64b (r0.arcs + (2 * (t23_1 : Int)))) <|
    chk (i64b (2 * (r0.arcs + (2 * (t23_1 : Int))))) <|
    chk (i64b ((2 * (r0.arcs + (2 * (t23_1 : Int)))) + 1)) <|
    (idx r0.left ((2 * (r0.arcs + (2 * (t23_1 : Int)))) + 1)).bind fun x13 =>
    if decide (0 < x13) then
      ((flow_residual_cut_c1_m (t23_1 : Int) lin_1_0 lqueue_1_0).bind fun y16 =>
      flow_residual_cut_k2 t23_1 cont1 (y16.1, y16.2))
    else
      (flow_residual_cut_k2 t23_1 cont1 (lin_1_0, lqueue_1_0)))
  else
    (flow_residual_cut_k1 r0 lin_1_0 lqueue_1_0 ())
def flow_residual_cut_m (r0 : Flow_residual) : Option (List Int) :=
  (mk (α := Bool) false r0.nodes).bind fun m1 =>
  iter (flow_residual_cut_b1 r0) FUEL (m1, ([] : List Int), 0)
theorem flow_residual_cut_spec (S : Soup) (w : World) (b_r0 : Nat) (r0 : Flow_residual) (r_r0 : GoRep.R Flow_residual) (y : (List Int)) (hM : flow_residual_cut_m r0 = some y) (hS : ∀ k, S k → k < w.heap.size) (hb_r0 : S b_r0 ∧ w.heap[b_r0]? = some (.cells [.int .i64 r0.nodes, .int .i64 r0.arcs, .slice r_r0.1.a r0.to.length r_r0.1.cap, .slice r_r0.2.1.a r0.left.length r_r0.2.1.cap, .slice r_r0.2.2.1.a r0.cost.length r_r0.2.2.1.cap, .slice r_r0.2.2.2.1.a r0.from_.length r_r0.2.2.2.1.cap, .slice r_r0.2.2.2.2.1.a r0.excess.length r_r0.2.2.2.2.1.cap, .slice r_r0.2.2.2.2.2.a r0.price.length r_r0.2.2.2.2.2.cap].toArray 91 (0, 0))) (h_r0 : GoRep.ok S w r_r0 r0) :
    Calls Try.prog 63 #[.pointer (some ⟨b_r0, 0, none⟩)] w (Post (β := (GoRep.R (List Int))) S [] (fun g => .slice g.a y.length g.cap) (fun g => [trow 3 g y]) w) := by
  refine calls_cw (args := [_]) Try.func63 rfl ((pre_nil hS).start |>.rboxP hb_r0|>.immP (α := List Int) (r := r_r0.1) (x := r0.to) h_r0.1|>.immP (α := List Int) (r := r_r0.2.1) (x := r0.left) h_r0.2.1|>.immP (α := List Int) (r := r_r0.2.2.1) (x := r0.cost) h_r0.2.2.1|>.immP (α := List (List Int)) (r := r_r0.2.2.2.1) (x := r0.from_) h_r0.2.2.2.1|>.immP (α := List Int) (r := r_r0.2.2.2.2.1) (x := r0.excess) h_r0.2.2.2.2.1|>.immP (α := List Int) (r := r_r0.2.2.2.2.2) (x := r0.price) h_r0.2.2.2.2.2) rfl ?_
  unfold flow_residual_cut_m at hM
  refine cw_seq fun K1 hK1 => ?_
  refine cw_region ?_
  refine ow_ev ev_assign ?_
  refine ow_nil (hK1 _ _ ?_); clear hK1
  refine cw_seq fun K2 hK2 => ?_
  refine cw_region ?_
  refine ow_ev ev_move ?_
  refine ow_ev ev_nilcheck ?_
  refine ow_ev (ev_field_addr 0) ?_
  refine ow_ev (ev_rload_own (b := b_r0)) ?_
  obtain ⟨m1, hm2, hM⟩ := bind_some hM
  refine ow_cons (st_make (α := Bool) (e := 4) false () hm2 (fun _ _ => trivial) (fun r3 hr3 => ?_))
  refine ow_cons (st_alloc rfl (k := fun b4 => ?_))
  refine ow_cons (st_store_all (b := b4) (vs := [.slice r3.a m1.length r3.cap]) (k := ?_))
  refine ow_nil (hK2 _ _ ?_); clear hK2
  refine cw_seq fun K3 hK3 => ?_
  refine cw_region ?_
  refine ow_cons (st_alloc rfl (k := fun b5 => ?_))
  refine ow_nil (hK3 _ _ ?_); clear hK3
  refine cw_seq fun K4 hK4 => ?_
  refine cw_region ?_
  refine ow_ev ev_makeFunc ?_
  refine ow_ev ev_assign ?_
  refine ow_nil (hK4 _ _ ?_); clear hK4
  refine cw_seq fun K5 hK5 => ?_
  refine cw_seq fun K6 hK6 => ?_
  refine cw_region ?_
  refine ow_ev ev_move ?_
  refine ow_ev ev_nilcheck ?_
  refine ow_ev (ev_field_addr 0) ?_
  refine ow_ev (ev_rload_own (b := b_r0)) ?_
  refine ow_ev ev_move ?_
  refine ow_nil (hK6 _ _ ?_); clear hK6
  refine cw_block ?_
  refine cw_imp (fun w hm => hm.row_nil (α := Int) 3 (fun _ => ())) ?_
  refine cw_loop (γ := Nat × ((List Bool) × (List Int) × Nat) × ((SR (GoRep.R Bool)) × (SR (GoRep.R Int)))) (env := fun (_, (lin_1_0, lqueue_1_0, t23_1), (rin_1_0, rqueue_1_0)) => [(0, .v (.pointer (some ⟨b_r0, 0, none⟩))), (3, .v (.pointer (some ⟨b4, 0, none⟩))), (4, .v (.pointer (some ⟨b5, 0, none⟩))), (5, .v (.func (.func 79) #[] #[.pointer (some ⟨b4, 0, none⟩), .pointer (some ⟨b5, 0, none⟩)])), (22, .v (.int .i64 r0.nodes)), (23, .v (.int .i64 (t23_1 : Int)))]) (mem := fun (_, (lin_1_0, lqueue_1_0, t23_1), (rin_1_0, rqueue_1_0)) => [imm (α := (List Int)) r_r0.1 r0.to, imm (α := (List Int)) r_r0.2.1 r0.left, imm (α := (List Int)) r_r0.2.2.1 r0.cost, imm (α := (List (List Int))) r_r0.2.2.2.1 r0.from_, imm (α := (List Int)) r_r0.2.2.2.2.1 r0.excess, imm (α := (List Int)) r_r0.2.2.2.2.2 r0.price, rbox b_r0 91 [.int .i64 r0.nodes, .int .i64 r0.arcs, .slice r_r0.1.a r0.to.length r_r0.1.cap, .slice r_r0.2.1.a r0.left.length r_r0.2.1.cap, .slice r_r0.2.2.1.a r0.cost.length r_r0.2.2.1.cap, .slice r_r0.2.2.2.1.a r0.from_.length r_r0.2.2.2.1.cap, .slice r_r0.2.2.2.2.1.a r0.excess.length r_r0.2.2.2.2.1.cap, .slice r_r0.2.2.2.2.2.a r0.price.length r_r0.2.2.2.2.2.cap], trow 4 rin_1_0 lin_1_0, own b4 96 [.slice rin_1_0.a lin_1_0.length rin_1_0.cap], trow 3 rqueue_1_0 lqueue_1_0, own b5 22 [.slice rqueue_1_0.a lqueue_1_0.length rqueue_1_0.cap]]) (R := fun g => iter (flow_residual_cut_b1 r0) g.1 g.2.1 = some y) (μ := fun g => g.1) (FUEL, (m1, ([] : List Int), 0), (r3, (⟨none, 0, (fun _ => ())⟩ : SR (GoRep.R Int) ))) hM ⟨rfl, rfl, rfl, rfl, rfl, rfl, trivial⟩ (fun w hm => hm.reord) ?_
  clear hM
  intro g hM KL1 hL1
  obtain ⟨nn1, ⟨lin_1_0, lqueue_1_0, t23_1⟩, ⟨rin_1_0, rqueue_1_0⟩⟩ := g
  dsimp only at hM ⊢
  obtain ⟨nn1, cont1, rfl, hcont1, hM⟩ := iter_open' hM
  dsimp only [flow_residual_cut_b1] at hM
  refine cw_seq fun K7 hK7 => ?_
  refine cw_region ?_
  refine ow_ev ev_lss ?_
  refine ow_nil (hK7 _ _ ?_); clear hK7
  refine cw_seq fun K8 hK8 => ?_
  refine cw_cond rfl (fun hc7 => ?_) (fun hc7 => ?_)
  ·
    replace hM := (ite_t hc7).symm.trans hM
    refine cw_skip (hK8 _ _ ?_); clear hK8
    refine cw_cut (γ := ((List Bool) × (List Int)) × ((SR (GoRep.R Bool)) × (SR (GoRep.R Int)))) (env := fun ((lin_j2_0, lqueue_j2_0), (rin_j2_0, rqueue_j2_0)) => [(0, .v (.pointer (some ⟨b_r0, 0, none⟩))), (3, .v (.pointer (some ⟨b4, 0, none⟩))), (4, .v (.pointer (some ⟨b5, 0, none⟩))), (5, .v (.func (.func 79) #[] #[.pointer (some ⟨b4, 0, none⟩), .pointer (some ⟨b5, 0, none⟩)])), (22, .v (.int .i64 r0.nodes)), (23, .v (.int .i64 (t23_1 : Int)))]) (mem := fun ((lin_j2_0, lqueue_j2_0), (rin_j2_0, rqueue_j2_0)) => [imm (α := (List Int)) r_r0.1 r0.to, imm (α := (List Int)) r_r0.2.1 r0.left, imm (α := (List Int)) r_r0.2.2.1 r0.cost, imm (α := (List (List Int))) r_r0.2.2.2.1 r0.from_, imm (α := (List Int)) r_r0.2.2.2.2.1 r0.excess, imm (α := (List Int)) r_r0.2.2.2.2.2 r0.price, rbox b_r0 91 [.int .i64 r0.nodes, .int .i64 r0.arcs, .slice r_r0.1.a r0.to.length r_r0.1.cap, .slice r_r0.2.1.a r0.left.length r_r0.2.1.cap, .slice r_r0.2.2.1.a r0.cost.length r_r0.2.2.1.cap, .slice r_r0.2.2.2.1.a r0.from_.length r_r0.2.2.2.1.cap, .slice r_r0.2.2.2.2.1.a r0.excess.length r_r0.2.2.2.2.1.cap, .slice r_r0.2.2.2.2.2.a r0.price.length r_r0.2.2.2.2.2.cap], trow 4 rin_j2_0 lin_j2_0, own b4 96 [.slice rin_j2_0.a lin_j2_0.length rin_j2_0.cap], trow 3 rqueue_j2_0 lqueue_j2_0, own b5 22 [.slice rqueue_j2_0.a lqueue_j2_0.length rqueue_j2_0.cap]]) (R := fun g => flow_residual_cut_k2 t23_1 cont1 g.1 = some y) ?_ ?_
    · intro KJ2 hJ2
      refine cw_block ?_
      refine cw_seq fun K9 hK9 => ?_
      refine cw_region ?_
      refine ow_ev ev_move ?_
      refine ow_ev ev_assign ?_
      refine ow_nil (hK9 _ _ ?_); clear hK9
      refine cw_seq fun K10 hK10 => ?_
      refine cw_region_any _ (List.Sublist.refl _) ?_
      refine aw_ev 0 rfl ev_move ?_
      refine aw_ev 1 rfl ev_nilcheck ?_
      refine aw_ev 2 rfl (ev_field_addr 3) ?_
      refine aw_ev 3 rfl (ev_rload_own (b := b_r0)) ?_
      refine aw_ev 4 rfl ev_move ?_
      refine aw_ev 5 rfl ev_nilcheck ?_
      refine aw_ev 6 rfl (ev_field_addr 1) ?_
      refine aw_ev 7 rfl (ev_rload_own (b := b_r0)) ?_
      refine aw_ev 8 rfl ev_move ?_
      obtain ⟨hI9, hM⟩ := chk_some hM
      refine aw_ev 9 rfl (ev_mul (hr := fun hg => i64b_I64 hI9)) ?_
      obtain ⟨hI10, hM⟩ := chk_some hM
      refine aw_ev 10 rfl (ev_add (hr := fun hg => i64b_I64 hI10)) ?_
      obtain ⟨hI11, hM⟩ := chk_some hM
      refine aw_ev 11 rfl (ev_mul (hr := fun hg => i64b_I64 hI11)) ?_
      obtain ⟨hI12, hM⟩ := chk_some hM
      refine aw_ev 12 rfl (ev_add (hr := fun hg => i64b_I64 hI12)) ?_
      obtain ⟨x13, hx14, hM⟩ := bind_some hM
      refine aw_ev 13 rfl (ev_idx (xs := r0.left) 1 (Kn.imm (α := List Int) (r := r_r0.2.1) (x := r0.left) (by repeat (first | exact Has.head | apply Has.tail))) (fun hg => let h := idx_some hx14; ⟨h.1, h.2.1⟩)) ?_
      refine aw_ev 14 rfl (ev_ld (i := ((2 * (r0.arcs + (2 * (t23_1 : Int)))) + 1)) (xs := r0.left) (y := x13) 0 (Kn.imm (α := List Int) (r := r_r0.2.1) (x := r0.left) (by repeat (first | exact Has.head | apply Has.tail))) (fun _ => hx14)) ?_
      refine aw_ev 15 rfl ev_gtr ?_
      refine aw_done (hK10 _ _ ?_); clear hK10
      refine cw_cond rfl (fun hc15 => ?_) (fun hc15 => ?_)
      ·
        replace hM := (ite_t hc15).symm.trans hM
        refine cw_region ?_
        refine ow_ev ev_move ?_
        refine ow_ev ev_move ?_
        obtain ⟨y16, hy17, hM⟩ := bind_some hM
        refine ow_cons (st_dynS (vs := [.int .i64 (t23_1 : Int)]) (cap := [.pointer (some ⟨b4, 0, none⟩), .pointer (some ⟨b5, 0, none⟩)]) (by repeat (first | exact SelL.nil | (apply SelL.cons; · (repeat (first | exact Sel.head | apply Sel.tail))))) (fun S w hs hP => flow_residual_cut_c1_spec _ w (t23_1 : Int) b4 lin_1_0 rin_1_0 b5 lqueue_1_0 rqueue_1_0 y16 hy17 hP )  (fun r18 => ?_))
        dsimp only [List.cons_append, List.nil_append]
        refine ow_nil (hJ2 ((y16.1, y16.2), (r18.1, r18.2)) _ _ hM ⟨rfl, rfl, rfl, rfl, rfl, rfl, trivial⟩ (fun w hm => hm.reord))
      ·
        replace hM := (ite_f hc15).symm.trans hM
        refine cw_skip (hJ2 ((lin_1_0, lqueue_1_0), (rin_1_0, rqueue_1_0)) _ _ hM ⟨rfl, rfl, rfl, rfl, rfl, rfl, trivial⟩ (fun w hm => hm.reord))
    ·
      clear hM
      intro g hM
      obtain ⟨⟨lin_j2_0, lqueue_j2_0⟩, ⟨rin_j2_0, rqueue_j2_0⟩⟩ := g
      dsimp only at hM ⊢
      dsimp only [flow_residual_cut_k2] at hM
      refine cw_region ?_
      obtain ⟨hI8, hM⟩ := chk_some hM
      refine ow_ev (ev_add (hr := fun hg => i64b_I64 hI8)) ?_
      refine ow_ev ev_move ?_
      refine ow_nil (hL1 (nn1, (lin_j2_0, lqueue_j2_0, t23_1 + 1), (rin_j2_0, rqueue_j2_0)) _ _ (eqc hcont1 hM) (Nat.lt_succ_self _) ⟨rfl, rfl, rfl, rfl, rfl, rfl, trivial⟩ (fun w hm => hm.reord))
  ·
    replace hM := (ite_f hc7).symm.trans hM
    refine cw_exit (hK5 _ _ ?_); clear hK5
    dsimp only [flow_residual_cut_k1] at hM
    refine cw_seq fun K11 hK11 => ?_
    refine cw_block ?_
    refine cw_loop (γ := Nat × ((List Bool) × (List Int)) × ((SR (GoRep.R Bool)) × (SR (GoRep.R Int)))) (env := fun (_, (lin_2_0, lqueue_2_0), (rin_2_0, rqueue_2_0)) => [(0, .v (.pointer (some ⟨b_r0, 0, none⟩))), (3, .v (.pointer (some ⟨b4, 0, none⟩))), (4, .v (.pointer (some ⟨b5, 0, none⟩))), (5, .v (.func (.func 79) #[] #[.pointer (some ⟨b4, 0, none⟩), .pointer (some ⟨b5, 0, none⟩)]))]) (mem := fun (_, (lin_2_0, lqueue_2_0), (rin_2_0, rqueue_2_0)) => [imm (α := (List Int)) r_r0.1 r0.to, imm (α := (List Int)) r_r0.2.1 r0.left, imm (α := (List Int)) r_r0.2.2.1 r0.cost, imm (α := (List (List Int))) r_r0.2.2.2.1 r0.from_, imm (α := (List Int)) r_r0.2.2.2.2.1 r0.excess, imm (α := (List Int)) r_r0.2.2.2.2.2 r0.price, rbox b_r0 91 [.int .i64 r0.nodes, .int .i64 r0.arcs, .slice r_r0.1.a r0.to.length r_r0.1.cap, .slice r_r0.2.1.a r0.left.length r_r0.2.1.cap, .slice r_r0.2.2.1.a r0.cost.length r_r0.2.2.1.cap, .slice r_r0.2.2.2.1.a r0.from_.length r_r0.2.2.2.1.cap, .slice r_r0.2.2.2.2.1.a r0.excess.length r_r0.2.2.2.2.1.cap, .slice r_r0.2.2.2.2.2.a r0.price.length r_r0.2.2.2.2.2.cap], trow 4 rin_2_0 lin_2_0, own b4 96 [.slice rin_2_0.a lin_2_0.length rin_2_0.cap], trow 3 rqueue_2_0 lqueue_2_0, own b5 22 [.slice rqueue_2_0.a lqueue_2_0.length rqueue_2_0.cap]]) (R := fun g => iter (flow_residual_cut_b2 r0) g.1 g.2.1 = some y) (μ := fun g => g.1) (FUEL, (lin_1_0, lqueue_1_0), (rin_1_0, rqueue_1_0)) hM ⟨rfl, rfl, rfl, rfl, trivial⟩ (fun w hm => hm.reord) ?_
    clear hM
    intro g hM KL2 hL2
    obtain ⟨nn2, ⟨lin_2_0, lqueue_2_0⟩, ⟨rin_2_0, rqueue_2_0⟩⟩ := g
    dsimp only at hM ⊢
    obtain ⟨nn2, cont2, rfl, hcont2, hM⟩ := iter_open' hM
    dsimp only [flow_residual_cut_b2] at hM
    refine cw_seq fun K12 hK12 => ?_
    refine cw_seq fun K13 hK13 => ?_
    refine cw_region ?_
    refine ow_ev (ev_load_own (b := b5)) ?_
    refine ow_ev ev_len ?_
    refine ow_ev ev_gtr ?_
    refine ow_nil (hK13 _ _ ?_); clear hK13
    refine cw_cond rfl (fun hc19 => ?_) (fun hc19 => ?_)
    ·
      replace hM := (ite_t hc19).symm.trans hM
      refine cw_skip (hK12 _ _ ?_); clear hK12
      refine cw_block ?_
      refine cw_seq fun K14 hK14 => ?_
      refine cw_region ?_
      refine ow_ev (ev_load_own (b := b5)) ?_
      obtain ⟨x20, hx21, hM⟩ := bind_some hM
      refine ow_ev (ev_idx (xs := lqueue_2_0) 1 (Kn.trow (e := 3) (r := rqueue_2_0) (by repeat (first | exact Has.head | apply Has.tail))) (fun hg => let h := idx_some hx21; ⟨h.1, h.2.1⟩)) ?_
      refine ow_ev (ev_ld (i := 0) (xs := lqueue_2_0) (y := x20) 0 (Kn.trow (e := 3) (r := rqueue_2_0) (by repeat (first | exact Has.head | apply Has.tail))) (fun _ => hx21)) ?_
      refine ow_ev ev_assign ?_
      refine ow_nil (hK14 _ _ ?_); clear hK14
      refine cw_seq fun K15 hK15 => ?_
      refine cw_region ?_
      refine ow_ev (ev_load_own (b := b5)) ?_
      obtain ⟨l22, hl23, hM⟩ := bind_some hM
      refine ow_cons (st_subrow (r := rqueue_2_0) (xs := lqueue_2_0) (ol := some (.i64, 1)) (oh := none) (by intro r'; repeat (first | exact Upd.head | apply Upd.tail)) hl23 (fun r24 => ?_))
      refine ow_cons (st_store_all (b := b5) (vs := [.slice r24.a l22.length r24.cap]) (k := ?_))
      refine ow_nil (hK15 _ _ ?_); clear hK15
      refine cw_seq fun K16 hK16 => ?_
      refine cw_region ?_
      refine ow_ev ev_move ?_
      refine ow_ev ev_nilcheck ?_
      refine ow_ev (ev_field_addr 5) ?_
      refine ow_ev (ev_rload_own (b := b_r0)) ?_
      refine ow_ev ev_move ?_
      obtain ⟨x25, hx26, hM⟩ := bind_some hM
      refine ow_ev (ev_idx (xs := r0.from_) 1 (Kn.imm (α := List (List Int)) (r := r_r0.2.2.2.1) (x := r0.from_) (by repeat (first | exact Has.head | apply Has.tail))) (fun hg => let h := idx_some hx26; ⟨h.1, h.2.1⟩)) ?_
      refine ow_ev (ev_ld (i := x20) (xs := r0.from_) (y := x25) 0 (Kn.imm (α := List (List Int)) (r := r_r0.2.2.2.1) (x := r0.from_) (by repeat (first | exact Has.head | apply Has.tail))) (fun _ => hx26)) ?_
      refine ow_have (fun w hm => Kn.len ((Sk.elem (Sk.imm (α := List (List Int)) (r := r_r0.2.2.2.1) (x := r0.from_) (by repeat (first | exact Has.head | apply Has.tail))) hx26)).kn hm) fun hl27 => ?_
      refine ow_ev ev_len ?_
      refine ow_ev ev_move ?_
      refine ow_nil (hK16 _ _ ?_); clear hK16
      refine cw_block ?_
      refine cw_loop (γ := Nat × ((List Bool) × (List Int) × Nat) × ((SR (GoRep.R Bool)) × (SR (GoRep.R Int)))) (env := fun (_, (lin_3_0, lqueue_3_0, t62_3), (rin_3_0, rqueue_3_0)) => [(0, .v (.pointer (some ⟨b_r0, 0, none⟩))), (3, .v (.pointer (some ⟨b4, 0, none⟩))), (4, .v (.pointer (some ⟨b5, 0, none⟩))), (5, .v (.func (.func 79) #[] #[.pointer (some ⟨b4, 0, none⟩), .pointer (some ⟨b5, 0, none⟩)])), (60, .v (.slice (r_r0.2.2.2.1.es x20.toNat).a x25.length (r_r0.2.2.2.1.es x20.toNat).cap)), (61, .v (.int .i64 (x25.length : Int))), (62, .v (.int .i64 (t62_3 : Int)))]) (mem := fun (_, (lin_3_0, lqueue_3_0, t62_3), (rin_3_0, rqueue_3_0)) => [imm (α := (List Int)) r_r0.1 r0.to, imm (α := (List Int)) r_r0.2.1 r0.left, imm (α := (List Int)) r_r0.2.2.1 r0.cost, imm (α := (List (List Int))) r_r0.2.2.2.1 r0.from_, imm (α := (List Int)) r_r0.2.2.2.2.1 r0.excess, imm (α := (List Int)) r_r0.2.2.2.2.2 r0.price, rbox b_r0 91 [.int .i64 r0.nodes, .int .i64 r0.arcs, .slice r_r0.1.a r0.to.length r_r0.1.cap, .slice r_r0.2.1.a r0.left.length r_r0.2.1.cap, .slice r_r0.2.2.1.a r0.cost.length r_r0.2.2.1.cap, .slice r_r0.2.2.2.1.a r0.from_.length r_r0.2.2.2.1.cap, .slice r_r0.2.2.2.2.1.a r0.excess.length r_r0.2.2.2.2.1.cap, .slice r_r0.2.2.2.2.2.a r0.price.length r_r0.2.2.2.2.2.cap], trow 4 rin_3_0 lin_3_0, own b4 96 [.slice rin_3_0.a lin_3_0.length rin_3_0.cap], trow 3 rqueue_3_0 lqueue_3_0, own b5 22 [.slice rqueue_3_0.a lqueue_3_0.length rqueue_3_0.cap]]) (R := fun g => iter (flow_residual_cut_b3 x25 r0 cont2) g.1 g.2.1 = some y) (μ := fun g => g.1) (FUEL, (lin_2_0, l22, 0), (rin_2_0, r24)) hM ⟨rfl, rfl, rfl, rfl, rfl, rfl, rfl, trivial⟩ (fun w hm => hm.reord) ?_
      clear hM
      intro g hM KL3 hL3
      obtain ⟨nn3, ⟨lin_3_0, lqueue_3_0, t62_3⟩, ⟨rin_3_0, rqueue_3_0⟩⟩ := g
      dsimp only at hM ⊢
      obtain ⟨nn3, cont3, rfl, hcont3, hM⟩ := iter_open' hM
      dsimp only [flow_residual_cut_b3] at hM
      refine cw_seq fun K17 hK17 => ?_
      refine cw_region ?_
      refine ow_ev ev_lss ?_
      refine ow_nil (hK17 _ _ ?_); clear hK17
      refine cw_seq fun K18 hK18 => ?_
      refine cw_cond rfl (fun hc28 => ?_) (fun hc28 => ?_)
      ·
        replace hM := (ite_t hc28).symm.trans hM
        have hc28d := of_decide_eq_true hc28
        refine cw_skip (hK18 _ _ ?_); clear hK18
        refine cw_cut (γ := ((List Bool) × (List Int)) × ((SR (GoRep.R Bool)) × (SR (GoRep.R Int)))) (env := fun ((lin_j4_0, lqueue_j4_0), (rin_j4_0, rqueue_j4_0)) => [(0, .v (.pointer (some ⟨b_r0, 0, none⟩))), (3, .v (.pointer (some ⟨b4, 0, none⟩))), (4, .v (.pointer (some ⟨b5, 0, none⟩))), (5, .v (.func (.func 79) #[] #[.pointer (some ⟨b4, 0, none⟩), .pointer (some ⟨b5, 0, none⟩)])), (60, .v (.slice (r_r0.2.2.2.1.es x20.toNat).a x25.length (r_r0.2.2.2.1.es x20.toNat).cap)), (61, .v (.int .i64 (x25.length : Int))), (62, .v (.int .i64 (t62_3 : Int)))]) (mem := fun ((lin_j4_0, lqueue_j4_0), (rin_j4_0, rqueue_j4_0)) => [imm (α := (List Int)) r_r0.1 r0.to, imm (α := (List Int)) r_r0.2.1 r0.left, imm (α := (List Int)) r_r0.2.2.1 r0.cost, imm (α := (List (List Int))) r_r0.2.2.2.1 r0.from_, imm (α := (List Int)) r_r0.2.2.2.2.1 r0.excess, imm (α := (List Int)) r_r0.2.2.2.2.2 r0.price, rbox b_r0 91 [.int .i64 r0.nodes, .int .i64 r0.arcs, .slice r_r0.1.a r0.to.length r_r0.1.cap, .slice r_r0.2.1.a r0.left.length r_r0.2.1.cap, .slice r_r0.2.2.1.a r0.cost.length r_r0.2.2.1.cap, .slice r_r0.2.2.2.1.a r0.from_.length r_r0.2.2.2.1.cap, .slice r_r0.2.2.2.2.1.a r0.excess.length r_r0.2.2.2.2.1.cap, .slice r_r0.2.2.2.2.2.a r0.price.length r_r0.2.2.2.2.2.cap], trow 4 rin_j4_0 lin_j4_0, own b4 96 [.slice rin_j4_0.a lin_j4_0.length rin_j4_0.cap], trow 3 rqueue_j4_0 lqueue_j4_0, own b5 22 [.slice rqueue_j4_0.a lqueue_j4_0.length rqueue_j4_0.cap]]) (R := fun g => flow_residual_cut_k4 cont3 t62_3 g.1 = some y) ?_ ?_
        · intro KJ4 hJ4
          refine cw_block ?_
          refine cw_seq fun K19 hK19 => ?_
          refine cw_region ?_
          obtain ⟨x29, hx30, hM⟩ := bind_some hM
          refine ow_ev (ev_idx (xs := x25) 1 ((Sk.elem (Sk.imm (α := List (List Int)) (r := r_r0.2.2.2.1) (x := r0.from_) (by repeat (first | exact Has.head | apply Has.tail))) hx26)).kn (fun hg => let h := idx_some hx30; ⟨h.1, h.2.1⟩)) ?_
          refine ow_ev (ev_ld (i := (t62_3 : Int)) (xs := x25) (y := x29) 0 ((Sk.elem (Sk.imm (α := List (List Int)) (r := r_r0.2.2.2.1) (x := r0.from_) (by repeat (first | exact Has.head | apply Has.tail))) hx26)).kn (fun _ => hx30)) ?_
          refine ow_ev ev_assign ?_
          refine ow_nil (hK19 _ _ ?_); clear hK19
          refine cw_seq fun K20 hK20 => ?_
          refine cw_region ?_
          refine ow_ev ev_move ?_
          refine ow_ev ev_move ?_
          refine ow_ev ev_nilcheck ?_
          refine ow_ev (ev_field_addr 1) ?_
          refine ow_ev (ev_rload_own (b := b_r0)) ?_
          obtain ⟨hI31, hM⟩ := chk_some hM
          refine ow_ev (ev_mul (hr := fun hg => i64b_I64 hI31)) ?_
          refine ow_ev ev_lss ?_
          refine ow_ev ev_move ?_
          refine ow_evg rfl ev_move ?_
          refine ow_evg rfl ev_nilcheck ?_
          refine ow_evg rfl (ev_field_addr 3) ?_
          refine ow_evg rfl (ev_rload_own (b := b_r0)) ?_
          refine ow_evg rfl ev_move ?_
          obtain ⟨x32, hx33, hM⟩ := bind_some hM
          refine ow_evg rfl (ev_idx (xs := r0.left) 1 (Kn.imm (α := List Int) (r := r_r0.2.1) (x := r0.left) (by repeat (first | exact Has.head | apply Has.tail))) (fun hg => let h := idx_some (whn_some hx33 hg); ⟨h.1, h.2.1⟩)) ?_
          refine ow_evg rfl (ev_ld (i := x29) (xs := r0.left) (y := x32) 0 (Kn.imm (α := List Int) (r := r_r0.2.1) (x := r0.left) (by repeat (first | exact Has.head | apply Has.tail))) (fun hg => whn_some hx33 hg)) ?_
          refine ow_evg rfl ev_gtr ?_
          refine ow_ev ev_and ?_
          refine ow_nil (hK20 _ _ ?_); clear hK20
          refine cw_cond rfl (fun hc34 => ?_) (fun hc34 => ?_)
          ·
            replace hM := (ite_t hc34).symm.trans hM
            refine cw_region ?_
            refine ow_ev ev_move ?_
            refine ow_ev ev_move ?_
            refine ow_ev ev_nilcheck ?_
            refine ow_ev (ev_field_addr 2) ?_
            refine ow_ev (ev_rload_own (b := b_r0)) ?_
            refine ow_ev ev_move ?_
            obtain ⟨x35, hx36, hM⟩ := bind_some hM
            refine ow_ev (ev_idx (xs := r0.to) 1 (Kn.imm (α := List Int) (r := r_r0.1) (x := r0.to) (by repeat (first | exact Has.head | apply Has.tail))) (fun hg => let h := idx_some hx36; ⟨h.1, h.2.1⟩)) ?_
            refine ow_ev (ev_ld (i := x29) (xs := r0.to) (y := x35) 0 (Kn.imm (α := List Int) (r := r_r0.1) (x := r0.to) (by repeat (first | exact Has.head | apply Has.tail))) (fun _ => hx36)) ?_
            obtain ⟨y37, hy38, hM⟩ := bind_some hM
            refine ow_cons (st_dynS (vs := [.int .i64 x35]) (cap := [.pointer (some ⟨b4, 0, none⟩), .pointer (some ⟨b5, 0, none⟩)]) (by repeat (first | exact SelL.nil | (apply SelL.cons; · (repeat (first | exact Sel.head | apply Sel.tail))))) (fun S w hs hP => flow_residual_cut_c1_spec _ w x35 b4 lin_3_0 rin_3_0 b5 lqueue_3_0 rqueue_3_0 y37 hy38 hP )  (fun r39 => ?_))
            dsimp only [List.cons_append, List.nil_append]
            refine ow_nil (hJ4 ((y37.1, y37.2), (r39.1, r39.2)) _ _ hM ⟨rfl, rfl, rfl, rfl, rfl, rfl, rfl, trivial⟩ (fun w hm => hm.reord))
          ·
            replace hM := (ite_f hc34).symm.trans hM
            refine cw_skip (hJ4 ((lin_3_0, lqueue_3_0), (rin_3_0, rqueue_3_0)) _ _ hM ⟨rfl, rfl, rfl, rfl, rfl, rfl, rfl, trivial⟩ (fun w hm => hm.reord))
        ·
          clear hM
          intro g hM
          obtain ⟨⟨lin_j4_0, lqueue_j4_0⟩, ⟨rin_j4_0, rqueue_j4_0⟩⟩ := g
          dsimp only at hM ⊢
          dsimp only [flow_residual_cut_k4] at hM
          refine cw_region ?_
          refine ow_ev (ev_add (hr := fun _ => by unfold I64; omega)) ?_
          refine ow_ev ev_move ?_
          refine ow_nil (hL3 (nn3, (lin_j4_0, lqueue_j4_0, t62_3 + 1), (rin_j4_0, rqueue_j4_0)) _ _ (eqc hcont3 hM) (Nat.lt_succ_self _) ⟨rfl, rfl, rfl, rfl, rfl, rfl, rfl, trivial⟩ (fun w hm => hm.reord))
      ·
        replace hM := (ite_f hc28).symm.trans hM
        refine cw_exit (hL2 (nn2, (lin_3_0, lqueue_3_0), (rin_3_0, rqueue_3_0)) _ _ (eqc hcont2 hM) (Nat.lt_succ_self _) ⟨rfl, rfl, rfl, rfl, trivial⟩ (fun w hm => hm.reord))
    ·
      replace hM := (ite_f hc19).symm.trans hM
      refine cw_exit (hK11 _ _ ?_); clear hK11
      dsimp only [flow_residual_cut_k3] at hM
      refine cw_seq fun K21 hK21 => ?_
      refine cw_region ?_
      refine ow_ev ev_assign ?_
      refine ow_nil (hK21 _ _ ?_); clear hK21
      refine cw_seq fun K22 hK22 => ?_
      refine cw_seq fun K23 hK23 => ?_
      refine cw_region ?_
      refine ow_ev (ev_load_own (b := b4)) ?_
      refine ow_have (fun w hm => Kn.len (Kn.trow (e := 4) (r := rin_2_0) (by repeat (first | exact Has.head | apply Has.tail))) hm) fun hl40 => ?_
      refine ow_ev ev_len ?_
      refine ow_ev ev_move ?_
      refine ow_nil (hK23 _ _ ?_); clear hK23
      refine cw_block ?_
      refine cw_imp (fun w hm => hm.row_nil (α := Int) 3 (fun _ => ())) ?_
      refine cw_loop (γ := Nat × ((List Int) × Nat) × (SR (GoRep.R Int))) (env := fun (_, (lset_4, t95_4), rset_4) => [(10, .v (.slice rset_4.a lset_4.length rset_4.cap)), (93, .v (.slice rin_2_0.a lin_2_0.length rin_2_0.cap)), (94, .v (.int .i64 (lin_2_0.length : Int))), (95, .v (.int .i64 (t95_4 : Int)))]) (mem := fun (_, (lset_4, t95_4), rset_4) => [trow 3 rset_4 lset_4, trow 4 rin_2_0 lin_2_0]) (R := fun g => iter (flow_residual_cut_b4 lin_2_0) g.1 g.2.1 = some y) (μ := fun g => g.1) (FUEL, (([] : List Int), 0), (⟨none, 0, (fun _ => ())⟩ : SR (GoRep.R Int)                )) hM ⟨rfl, rfl, rfl, rfl, trivial⟩ (fun w hm => hm.reord) ?_
      clear hM
      intro g hM KL4 hL4
      obtain ⟨nn4, ⟨lset_4, t95_4⟩, rset_4⟩ := g
      dsimp only at hM ⊢
      obtain ⟨nn4, cont4, rfl, hcont4, hM⟩ := iter_open' hM
      dsimp only [flow_residual_cut_b4] at hM
      refine cw_seq fun K24 hK24 => ?_
      refine cw_region ?_
      refine ow_ev ev_lss ?_
      refine ow_nil (hK24 _ _ ?_); clear hK24
      refine cw_seq fun K25 hK25 => ?_
      refine cw_cond rfl (fun hc42 => ?_) (fun hc42 => ?_)
      ·
        replace hM := (ite_t hc42).symm.trans hM
        have hc42d := of_decide_eq_true hc42
        refine cw_skip (hK25 _ _ ?_); clear hK25
        refine cw_cut (γ := (List Int) × (SR (GoRep.R Int))) (env := fun (lset_j6, rset_j6) => [(10, .v (.slice rset_j6.a lset_j6.length rset_j6.cap)), (93, .v (.slice rin_2_0.a lin_2_0.length rin_2_0.cap)), (94, .v (.int .i64 (lin_2_0.length : Int))), (95, .v (.int .i64 (t95_4 : Int)))]) (mem := fun (lset_j6, rset_j6) => [trow 3 rset_j6 lset_j6, trow 4 rin_2_0 lin_2_0]) (R := fun g => flow_residual_cut_k6 cont4 t95_4 g.1 = some y) ?_ ?_
        · intro KJ6 hJ6
          refine cw_block ?_
          refine cw_seq fun K26 hK26 => ?_
          refine cw_region ?_
          refine ow_ev ev_move ?_
          obtain ⟨x43, hx44, hM⟩ := bind_some hM
          refine ow_ev (ev_idx (xs := lin_2_0) 1 (Kn.trow (e := 4) (r := rin_2_0) (by repeat (first | exact Has.head | apply Has.tail))) (fun hg => let h := idx_some hx44; ⟨h.1, h.2.1⟩)) ?_
          refine ow_ev (ev_ld (i := (t95_4 : Int)) (xs := lin_2_0) (y := x43) 0 (Kn.trow (e := 4) (r := rin_2_0) (by repeat (first | exact Has.head | apply Has.tail))) (fun _ => hx44)) ?_
          refine ow_ev ev_assign ?_
          refine ow_ev ev_assign ?_
          refine ow_nil (hK26 _ _ ?_); clear hK26
          refine cw_seq fun K27 hK27 => ?_
          refine cw_region ?_
          refine ow_ev ev_move ?_
          refine ow_nil (hK27 _ _ ?_); clear hK27
          refine cw_cond rfl (fun hc45 => ?_) (fun hc45 => ?_)
          ·
            replace hM := (ite_t hc45).symm.trans hM
            refine cw_region ?_
            refine ow_ev ev_move ?_
            refine ow_ev ev_move ?_
            refine ow_cons (st_bslice (α := Int) 3 (fun _ => ()) ([(t95_4 : Int)] : List Int) (OkL.flat (fun _ _ _ _ => trivial)) (fun r46 => ?_))
            obtain ⟨hb47, hM⟩ := chk_some hM
            refine ow_cons (st_append (r := rset_4) (r2 := r46) (by intro r'; repeat (first | exact Upd.head | apply Upd.tail)) (Kn.trow (e := 3) (r := r46) (by repeat (first | exact Has.head | apply Has.tail))) (OkL.flat (fun _ _ _ _ => trivial)) (of_decide_eq_true hb47) (fun r48 => ?_))
            refine ow_ev ev_assign ?_
            refine ow_nil (hJ6 ((lset_4 ++ ([(t95_4 : Int)] : List Int)), r48) _ _ hM ⟨rfl, rfl, rfl, rfl, trivial⟩ (fun w hm => hm.reord))
          ·
            replace hM := (ite_f hc45).symm.trans hM
            refine cw_skip (hJ6 (lset_4, rset_4) _ _ hM ⟨rfl, rfl, rfl, rfl, trivial⟩ (fun w hm => hm.reord))
        ·
          clear hM
          intro g hM
          obtain ⟨lset_j6, rset_j6⟩ := g
          dsimp only at hM ⊢
          dsimp only [flow_residual_cut_k6] at hM
          refine cw_region ?_
          refine ow_ev (ev_add (hr := fun _ => by unfold I64; omega)) ?_
          refine ow_ev ev_move ?_
          refine ow_nil (hL4 (nn4, (lset_j6, t95_4 + 1), rset_j6) _ _ (eqc hcont4 hM) (Nat.lt_succ_self _) ⟨rfl, rfl, rfl, rfl, trivial⟩ (fun w hm => hm.reord))
      ·
        replace hM := (ite_f hc42).symm.trans hM
        refine cw_exit (hK22 _ _ ?_); clear hK22
        dsimp only [flow_residual_cut_k5] at hM
        refine cw_seq fun K28 hK28 => ?_
        refine cw_region ?_
        refine ow_ev ev_move ?_
        refine ow_ev ev_assign ?_
        refine ow_nil (hK28 _ _ ?_); clear hK28
        obtain rfl := some_inj hM
        refine cw_ret (kw_retc1 (fun w hm => post_of rset_4 hm rfl))

def flow_Cut_m (g0 : Graph) : Option ((List Int) × Bool) :=
  (flow_Check_m g0).bind fun y2 =>
  if (!y2) then
    (some (([] : List Int), false))
  else
    ((flow_newResidual_m g0).bind fun y6 =>
    (flow_residual_solve_m y6).bind fun y9 =>
    (flow_residual_feasible_m (Flow_residual.mk y6.nodes y6.arcs y6.to y9.1 y6.cost y6.from_ y9.2.1 y9.2.2)).bind fun y12 =>
    if y12 then
      (some (([] : List Int), false))
    else
      ((flow_residual_cut_m (Flow_residual.mk y6.nodes y6.arcs y6.to y9.1 y6.cost y6.from_ y9.2.1 y9.2.2)).bind fun y16 =>
      some (y16, true)))
theorem flow_Cut_spec (S : Soup) (w : World) (g0 : Graph) (r_g0 : GoRep.R Graph) (y : (List Int) × Bool) (hM : flow_Cut_m g0 = some y) (hS : ∀ k, S k → k < w.heap.size) (h_g0 : GoRep.ok S w r_g0 g0) :
    Calls Try.prog 32 #[.agg #[.slice r_g0.1.a g0.Supply.length r_g0.1.cap, .slice r_g0.2.a g0.Arcs.length r_g0.2.cap]] w (Post (β := (GoRep.R (List Int))) S [] (fun g => .tuple #[.slice g.a y.1.length g.cap, .bool y.2]) (fun g => [trow 3 g y.1]) w) := by
  refine calls_cw (args := [_]) Try.func32 rfl ((pre_nil hS).start |>.immP (α := List Int) (r := r_g0.1) (x := g0.Supply) h_g0.1|>.immP (α := List Arc) (r := r_g0.2) (x := g0.Arcs) h_g0.2) rfl ?_
  unfold flow_Cut_m at hM
  refine cw_seq fun K1 hK1 => ?_
  refine cw_region ?_
  refine ow_cons (st_box (l := [.slice r_g0.1.a g0.Supply.length r_g0.1.cap, .slice r_g0.2.a g0.Arcs.length r_g0.2.cap]) (k := fun b1 => ?_))
  refine ow_ev ev_assign ?_
  refine ow_ev ev_assign ?_
  refine ow_nil (hK1 _ _ ?_); clear hK1
  refine cw_seq fun K2 hK2 => ?_
  refine cw_seq fun K3 hK3 => ?_
  refine cw_region ?_
  refine ow_ev (ev_load_all (b := b1)) ?_
  obtain ⟨y2, hy3, hM⟩ := bind_some hM
  refine ow_cons (st_callv (fun w hm => let ⟨S, hs⟩ := hm; flow_Check_spec _ w g0 r_g0 y2 hy3 (lend_lt hs) ⟨(Kn.lend (Kn.imm (α := List Int) (r := r_g0.1) (x := g0.Supply) (by repeat (first | exact Has.head | apply Has.tail))) hs), (Kn.lend (Kn.imm (α := List Arc) (r := r_g0.2) (x := g0.Arcs) (by repeat (first | exact Has.head | apply Has.tail))) hs)⟩) ?_)
  refine ow_ev ev_not ?_
  refine ow_nil (hK3 _ _ ?_); clear hK3
  refine cw_cond rfl (fun hc4 => ?_) (fun hc4 => ?_)
  ·
    replace hM := (ite_t hc4).symm.trans hM
    refine cw_seq fun K4 hK4 => ?_
    refine cw_region ?_
    refine ow_ev ev_assign ?_
    refine ow_ev ev_assign ?_
    refine ow_nil (hK4 _ _ ?_); clear hK4
    refine cw_imp (fun w hm => hm.row_nil (α := Int) 3 (fun _ => ())) ?_
    obtain rfl := some_inj hM
    refine cw_ret (kw_retc2 (fun w hm => post_of (⟨none, 0, (fun _ => ())⟩ : SR (GoRep.R Int) ) hm rfl))
  ·
    replace hM := (ite_f hc4).symm.trans hM
    refine cw_skip (hK2 _ _ ?_); clear hK2
    refine cw_seq fun K5 hK5 => ?_
    refine cw_region ?_
    refine ow_ev (ev_load_all (b := b1)) ?_
    obtain ⟨y6, hy7, hM⟩ := bind_some hM
    refine ow_cons (st_callS SelL.nil (fun S w hs hP => flow_newResidual_spec _ w g0 r_g0 y6 hy7 hs.lt ⟨((Sk.imm (α := List Int) (r := r_g0.1) (x := g0.Supply) (by repeat (first | exact Has.head | apply Has.tail))) S w hs), ((Sk.imm (α := List Arc) (r := r_g0.2) (x := g0.Arcs) (by repeat (first | exact Has.head | apply Has.tail))) S w hs)⟩)  (fun r8 => ?_))
    dsimp only [List.cons_append, List.nil_append]
    refine ow_ev ev_assign ?_
    refine ow_nil (hK5 _ _ ?_); clear hK5
    refine cw_seq fun K6 hK6 => ?_
    refine cw_region ?_
    refine ow_ev ev_move ?_
    obtain ⟨y9, hy10, hM⟩ := bind_some hM
    refine ow_cons (st_callS (by repeat (first | exact SelL.nil | (apply SelL.cons; · (repeat (first | exact Sel.head | apply Sel.tail))))) (fun S w hs hP => flow_residual_solve_spec _ w r8.1 y6 r8.2 y9 hy10 hP )  (fun r11 => ?_))
    dsimp only [List.cons_append, List.nil_append]
    refine ow_nil (hK6 _ _ ?_); clear hK6
    refine cw_seq fun K7 hK7 => ?_
    refine cw_seq fun K8 hK8 => ?_
    refine cw_region ?_
    refine ow_ev ev_move ?_
    obtain ⟨y12, hy13, hM⟩ := bind_some hM
    refine ow_cons (st_callv (fun w hm => let ⟨S, hs⟩ := hm; flow_residual_feasible_spec _ w r8.1 (Flow_residual.mk y6.nodes y6.arcs y6.to y9.1 y6.cost y6.from_ y9.2.1 y9.2.2) (r8.2.1, r11.1, r8.2.2.2.1, r8.2.2.2.2.1, r11.2.1, r11.2.2) y12 hy13 (lend_lt hs) (own_lend (by repeat (first | exact Has.head | apply Has.tail)) hs) ⟨(Kn.lend (Kn.trow (e := 3) (r := r8.2.1) (by repeat (first | exact Has.head | apply Has.tail))) hs), (Kn.lend (Kn.trow (e := 3) (r := r11.1) (by repeat (first | exact Has.head | apply Has.tail))) hs), (Kn.lend (Kn.trow (e := 3) (r := r8.2.2.2.1) (by repeat (first | exact Has.head | apply Has.tail))) hs), (Kn.lend (Kn.trow2 (e := 22) (r := r8.2.2.2.2.1) (by repeat (first | exact Has.head | apply Has.tail))) hs), (Kn.lend (Kn.trow (e := 3) (r := r11.2.1) (by repeat (first | exact Has.head | apply Has.tail))) hs), (Kn.lend (Kn.trow (e := 3) (r := r11.2.2) (by repeat (first | exact Has.head | apply Has.tail))) hs)⟩) ?_)
    refine ow_nil (hK8 _ _ ?_); clear hK8
    refine cw_cond rfl (fun hc14 => ?_) (fun hc14 => ?_)
    ·
      replace hM := (ite_t hc14).symm.trans hM
      refine cw_seq fun K9 hK9 => ?_
      refine cw_region ?_
      refine ow_ev ev_assign ?_
      refine ow_ev ev_assign ?_
      refine ow_nil (hK9 _ _ ?_); clear hK9
      refine cw_imp (fun w hm => hm.row_nil (α := Int) 3 (fun _ => ())) ?_
      obtain rfl := some_inj hM
      refine cw_ret (kw_retc2 (fun w hm => post_of (⟨none, 0, (fun _ => ())⟩ : SR (GoRep.R Int)  ) hm rfl))
    ·
      replace hM := (ite_f hc14).symm.trans hM
      refine cw_skip (hK7 _ _ ?_); clear hK7
      refine cw_seq fun K10 hK10 => ?_
      refine cw_region ?_
      refine ow_ev ev_move ?_
      obtain ⟨y16, hy17, hM⟩ := bind_some hM
      refine ow_cons (st_callF SelL.nil (fun S w hs hP => flow_residual_cut_spec _ w r8.1 (Flow_residual.mk y6.nodes y6.arcs y6.to y9.1 y6.cost y6.from_ y9.2.1 y9.2.2) (r8.2.1, r11.1, r8.2.2.2.1, r8.2.2.2.2.1, r11.2.1, r11.2.2) y16 hy17 (lend_lt hs) (own_lend (by repeat (first | exact Has.head | apply Has.tail)) hs) ⟨(Kn.lend (Kn.trow (e := 3) (r := r8.2.1) (by repeat (first | exact Has.head | apply Has.tail))) hs), (Kn.lend (Kn.trow (e := 3) (r := r11.1) (by repeat (first | exact Has.head | apply Has.tail))) hs), (Kn.lend (Kn.trow (e := 3) (r := r8.2.2.2.1) (by repeat (first | exact Has.head | apply Has.tail))) hs), (Kn.lend (Kn.trow2 (e := 22) (r := r8.2.2.2.2.1) (by repeat (first | exact Has.head | apply Has.tail))) hs), (Kn.lend (Kn.trow (e := 3) (r := r11.2.1) (by repeat (first | exact Has.head | apply Has.tail))) hs), (Kn.lend (Kn.trow (e := 3) (r := r11.2.2) (by repeat (first | exact Has.head | apply Has.tail))) hs)⟩) (by intro r c hc; simp only [List.mem_cons, List.not_mem_nil, or_false] at hc; rcases hc with rfl <;> first | exact flatC_own | exact flatC_trow (fun _ _ _ _ => trivial)) (fun r18 => ?_))
      dsimp only [List.cons_append, List.nil_append]
      refine ow_ev ev_assign ?_
      refine ow_ev ev_assign ?_
      refine ow_nil (hK10 _ _ ?_); clear hK10
      obtain rfl := some_inj hM
      refine cw_ret (kw_retc2 (fun w hm => post_of r18 hm rfl))

def law27_awake_m  : Option Bool :=
  (law27_example_m).bind fun y1 =>
  (flow_Solve_m y1).bind fun y4 =>
  if (decide (y4.2 = 0) && decide (y4.1.Cost = 4)) then
  ((keep_Same_int_m y4.1.X ([0, 2, 2] : List Int)).bind fun y10 =>
  if ((decide (y4.2 = 0) && decide (y4.1.Cost = 4)) && y10) then
  ((law27_example_m).bind fun y13 =>
  (ref24_VerifyFlow_m y13 y4.1).bind fun y16 =>
  if (((decide (y4.2 = 0) && decide (y4.1.Cost = 4)) && y10) && y16) then
  ((law27_example_m).bind fun y19 =>
  (flow_Verify_m y19 y4.1).bind fun y22 =>
  if ((((decide (y4.2 = 0) && decide (y4.1.Cost = 4)) && y10) && y16) && y22) then
  ((law27_example_m).bind fun y25 =>
  (flow_Check_m y25).bind fun y28 =>
  some (((((decide (y4.2 = 0) && decide (y4.1.Cost = 4)) && y10) && y16) && y22) && y28))
  else
  (some false))
  else
  (if false then
  ((law27_example_m).bind fun y31 =>
  (flow_Check_m y31).bind fun y34 =>
  some (false && y34))
  else
  (some false)))
  else
  (if false then
  ((law27_example_m).bind fun y37 =>
  (flow_Verify_m y37 y4.1).bind fun y40 =>
  if (false && y40) then
  ((law27_example_m).bind fun y43 =>
  (flow_Check_m y43).bind fun y46 =>
  some ((false && y40) && y46))
  else
  (some false))
  else
  (some false)))
  else
  (if false then
  ((law27_example_m).bind fun y49 =>
  (ref24_VerifyFlow_m y49 y4.1).bind fun y52 =>
  if (false && y52) then
  ((law27_example_m).bind fun y55 =>
  (flow_Verify_m y55 y4.1).bind fun y58 =>
  if ((false && y52) && y58) then
  ((law27_example_m).bind fun y61 =>
  (flow_Check_m y61).bind fun y64 =>
  some (((false && y52) && y58) && y64))
  else
  (some false))
  else
  ((law27_example_m).bind fun y66 =>
  (flow_Check_m y66).bind fun y69 =>
  some (false && y69)))
  else
  (some false))
theorem law27_awake_spec (S : Soup) (w : World)  (y : Bool) (hM : law27_awake_m  = some y) (hS : ∀ k, S k → k < w.heap.size)  :
    Calls Try.prog 23 #[] w (Ret w (.bool y)) := by
  refine calls_cw (args := []) Try.func23 rfl ((pre_nil hS).start) rfl ?_
  unfold law27_awake_m at hM
  refine cw_seq fun K1 hK1 => ?_
  refine cw_region ?_
  refine ow_ev ev_assign ?_
  refine ow_nil (hK1 _ _ ?_); clear hK1
  refine cw_seq fun K2 hK2 => ?_
  refine cw_region ?_
  obtain ⟨y1, hy2, hM⟩ := bind_some hM
  refine ow_cons (st_callF SelL.nil (fun S w hs hP => law27_example_spec _ w  y1 hy2 (lend_lt hs) ) (by intro r c hc; simp only [List.mem_cons, List.not_mem_nil, or_false] at hc; rcases hc with rfl | rfl <;> first | exact flatC_own | exact flatC_trow (fun _ _ _ _ => trivial)) (fun r3 => ?_))
  dsimp only [List.cons_append, List.nil_append]
  obtain ⟨y4, hy5, hM⟩ := bind_some hM
  refine ow_cons (st_callF SelL.nil (fun S w hs hP => flow_Solve_spec _ w y1 r3 y4 hy5 (lend_lt hs) ⟨(Kn.lend (Kn.trow (e := 3) (r := r3.1) (by repeat (first | exact Has.head | apply Has.tail))) hs), (Kn.lend (Kn.trow (e := 40) (r := r3.2) (by repeat (first | exact Has.head | apply Has.tail))) hs)⟩) (by intro r c hc; simp only [List.mem_cons, List.not_mem_nil, or_false] at hc; rcases hc with rfl | rfl <;> first | exact flatC_own | exact flatC_trow (fun _ _ _ _ => trivial)) (fun r6 => ?_))
  dsimp only [List.cons_append, List.nil_append]
  refine ow_ev ev_move ?_
  refine ow_ev (ev_extract (vs := [.agg #[.slice r6.1.a y4.1.X.length r6.1.cap, .slice r6.2.a y4.1.Price.length r6.2.cap, .int .i64 y4.1.Cost], .int .i64 y4.2])) ?_
  refine ow_ev (ev_extract (vs := [.agg #[.slice r6.1.a y4.1.X.length r6.1.cap, .slice r6.2.a y4.1.Price.length r6.2.cap, .int .i64 y4.1.Cost], .int .i64 y4.2])) ?_
  refine ow_cons (st_alloc rfl (k := fun b7 => ?_))
  refine ow_cons (st_store_all (b := b7) (vs := [.slice r6.1.a y4.1.X.length r6.1.cap, .slice r6.2.a y4.1.Price.length r6.2.cap, .int .i64 y4.1.Cost]) (k := ?_))
  refine ow_ev ev_assign ?_
  refine ow_nil (hK2 _ _ ?_); clear hK2
  refine cw_seq fun K3 hK3 => ?_
  refine cw_region_any _ (List.Sublist.refl _) ?_
  refine aw_ev 0 rfl ev_move ?_
  refine aw_ev 1 rfl ev_eql ?_
  refine aw_ev 2 rfl ev_move ?_
  refine aw_evg 3 rfl rfl (ev_field_addr 2) ?_
  refine aw_evg 4 rfl rfl (ev_load_own (b := b7)) ?_
  refine aw_evg 5 rfl rfl ev_eql ?_
  refine aw_ev 6 rfl ev_and ?_
  refine aw_ev 7 rfl ev_move ?_
  refine aw_evg 8 rfl rfl (ev_field_addr 0) ?_
  refine aw_evg 9 rfl rfl (ev_load_own (b := b7)) ?_
  refine aw_cases (decide (y4.2 = 0) && decide (y4.1.Cost = 4)) (fun hg8 => ?_) (fun hg8 => ?_)
  ·
    replace hM := (ite_t hg8).symm.trans hM
    refine aw_know 16 hg8 rfl ?_
    refine aw_know 17 hg8 rfl ?_
    refine aw_gtrue 10 rfl rfl hg8 (st_bslice (α := Int) 3 (fun _ => ()) ([0, 2, 2] : List Int) (OkL.flat (fun _ _ _ _ => trivial)) (fun r9 => ⟨fun w hm => hm.sub (by repeat (first | exact List.Sublist.refl _ | apply List.Sublist.cons_cons | apply List.Sublist.cons)), ?_⟩))
    obtain ⟨y10, hy11, hM⟩ := bind_some hM
    refine aw_gtrue 11 rfl rfl hg8 (st_callv (fun w hm => let ⟨S, hs⟩ := hm; keep_Same_int_spec _ w y4.1.X r6.1 ([0, 2, 2] : List Int) r9 y10 hy11 (lend_lt hs) (Kn.lend (Kn.trow (e := 3) (r := r6.1) (by repeat (first | exact Has.head | apply Has.tail))) hs) (Kn.lend (Kn.trow (e := 3) (r := r9) (by repeat (first | exact Has.head | apply Has.tail))) hs)) ⟨fun w hm => hm.sub (by repeat (first | exact List.Sublist.refl _ | apply List.Sublist.cons_cons | apply List.Sublist.cons)), ?_⟩)
    refine aw_ev 12 rfl ev_and ?_
    refine aw_ev 13 rfl ev_move ?_
    refine aw_evg 15 rfl rfl (ev_load_all (b := b7)) ?_
    refine aw_cases ((decide (y4.2 = 0) && decide (y4.1.Cost = 4)) && y10) (fun hg12 => ?_) (fun hg12 => ?_)
    ·
      replace hM := (ite_t hg12).symm.trans hM
      refine aw_know 23 hg12 rfl ?_
      obtain ⟨y13, hy14, hM⟩ := bind_some hM
      refine aw_gtrue 14 rfl rfl hg12 (st_callF SelL.nil (fun S w hs hP => law27_example_spec _ w  y13 hy14 (lend_lt hs) ) (by intro r c hc; simp only [List.mem_cons, List.not_mem_nil, or_false] at hc; rcases hc with rfl | rfl <;> first | exact flatC_own | exact flatC_trow (fun _ _ _ _ => trivial)) (fun r15 => ⟨fun w hm => hm.sub (by repeat (first | exact List.Sublist.refl _ | apply List.Sublist.cons_cons | apply List.Sublist.cons)), ?_⟩))
      dsimp only [List.cons_append, List.nil_append]
      obtain ⟨y16, hy17, hM⟩ := bind_some hM
      refine aw_gtrue 16 rfl rfl hg12 (st_callv (fun w hm => let ⟨S, hs⟩ := hm; ref24_VerifyFlow_spec _ w y13 r15 y4.1 r6 y16 hy17 (lend_lt hs) ⟨(Kn.lend (Kn.trow (e := 3) (r := r15.1) (by repeat (first | exact Has.head | apply Has.tail))) hs), (Kn.lend (Kn.trow (e := 40) (r := r15.2) (by repeat (first | exact Has.head | apply Has.tail))) hs)⟩ ⟨(Kn.lend (Kn.trow (e := 3) (r := r6.1) (by repeat (first | exact Has.head | apply Has.tail))) hs), (Kn.lend (Kn.trow (e := 3) (r := r6.2) (by repeat (first | exact Has.head | apply Has.tail))) hs)⟩) ⟨fun w hm => hm.sub (by repeat (first | exact List.Sublist.refl _ | apply List.Sublist.cons_cons | apply List.Sublist.cons)), ?_⟩)
      refine aw_ev 17 rfl ev_and ?_
      refine aw_ev 18 rfl ev_move ?_
      refine aw_evg 20 rfl rfl (ev_load_all (b := b7)) ?_
      refine aw_cases (((decide (y4.2 = 0) && decide (y4.1.Cost = 4)) && y10) && y16) (fun hg18 => ?_) (fun hg18 => ?_)
      ·
        replace hM := (ite_t hg18).symm.trans hM
        refine aw_know 28 hg18 rfl ?_
        obtain ⟨y19, hy20, hM⟩ := bind_some hM
        refine aw_gtrue 19 rfl rfl hg18 (st_callF SelL.nil (fun S w hs hP => law27_example_spec _ w  y19 hy20 (lend_lt hs) ) (by intro r c hc; simp only [List.mem_cons, List.not_mem_nil, or_false] at hc; rcases hc with rfl | rfl <;> first | exact flatC_own | exact flatC_trow (fun _ _ _ _ => trivial)) (fun r21 => ⟨fun w hm => hm.sub (by repeat (first | exact List.Sublist.refl _ | apply List.Sublist.cons_cons | apply List.Sublist.cons)), ?_⟩))
        dsimp only [List.cons_append, List.nil_append]
        obtain ⟨y22, hy23, hM⟩ := bind_some hM
        refine aw_gtrue 21 rfl rfl hg18 (st_callv (fun w hm => let ⟨S, hs⟩ := hm; flow_Verify_spec _ w y19 r21 y4.1 r6 y22 hy23 (lend_lt hs) ⟨(Kn.lend (Kn.trow (e := 3) (r := r21.1) (by repeat (first | exact Has.head | apply Has.tail))) hs), (Kn.lend (Kn.trow (e := 40) (r := r21.2) (by repeat (first | exact Has.head | apply Has.tail))) hs)⟩ ⟨(Kn.lend (Kn.trow (e := 3) (r := r6.1) (by repeat (first | exact Has.head | apply Has.tail))) hs), (Kn.lend (Kn.trow (e := 3) (r := r6.2) (by repeat (first | exact Has.head | apply Has.tail))) hs)⟩) ⟨fun w hm => hm.sub (by repeat (first | exact List.Sublist.refl _ | apply List.Sublist.cons_cons | apply List.Sublist.cons)), ?_⟩)
        refine aw_ev 22 rfl ev_and ?_
        refine aw_ev 23 rfl ev_move ?_
        refine aw_cases ((((decide (y4.2 = 0) && decide (y4.1.Cost = 4)) && y10) && y16) && y22) (fun hg24 => ?_) (fun hg24 => ?_)
        ·
          replace hM := (ite_t hg24).symm.trans hM
          obtain ⟨y25, hy26, hM⟩ := bind_some hM
          refine aw_gtrue 24 rfl rfl hg24 (st_callF SelL.nil (fun S w hs hP => law27_example_spec _ w  y25 hy26 (lend_lt hs) ) (by intro r c hc; simp only [List.mem_cons, List.not_mem_nil, or_false] at hc; rcases hc with rfl | rfl <;> first | exact flatC_own | exact flatC_trow (fun _ _ _ _ => trivial)) (fun r27 => ⟨fun w hm => hm.sub (by repeat (first | exact List.Sublist.refl _ | apply List.Sublist.cons_cons | apply List.Sublist.cons)), ?_⟩))
          dsimp only [List.cons_append, List.nil_append]
          obtain ⟨y28, hy29, hM⟩ := bind_some hM
          refine aw_gtrue 25 rfl rfl hg24 (st_callv (fun w hm => let ⟨S, hs⟩ := hm; flow_Check_spec _ w y25 r27 y28 hy29 (lend_lt hs) ⟨(Kn.lend (Kn.trow (e := 3) (r := r27.1) (by repeat (first | exact Has.head | apply Has.tail))) hs), (Kn.lend (Kn.trow (e := 40) (r := r27.2) (by repeat (first | exact Has.head | apply Has.tail))) hs)⟩) ⟨fun w hm => hm.sub (by repeat (first | exact List.Sublist.refl _ | apply List.Sublist.cons_cons | apply List.Sublist.cons)), ?_⟩)
          refine aw_ev 26 rfl ev_and ?_
          refine aw_ev 27 rfl ev_assign ?_
          refine aw_done (hK3 _ _ ?_); clear hK3
          obtain rfl := some_inj hM
          refine cw_ret (kw_retc1 (fun w hm => ret_of hm rfl))
        ·
          replace hM := (ite_f hg24).symm.trans hM
          refine aw_gskip 24 rfl rfl hg24 ?_
          refine aw_gskip 25 rfl rfl hg24 ?_
          refine aw_ev 26 rfl (ev_andF hg24) ?_
          refine aw_ev 27 rfl ev_assign ?_
          refine aw_done (hK3 _ _ ?_); clear hK3
          obtain rfl := some_inj hM
          refine cw_ret (kw_retc1 (fun w hm => ret_of hm rfl))
      ·
        replace hM := (ite_f hg18).symm.trans hM
        refine aw_gskip 19 rfl rfl hg18 ?_
        refine aw_gskip 21 rfl rfl hg18 ?_
        refine aw_ev 22 rfl (ev_andF hg18) ?_
        refine aw_ev 23 rfl ev_move ?_
        refine aw_cases false (fun hg30 => ?_) (fun hg30 => ?_)
        ·
          replace hM := (ite_t hg30).symm.trans hM
          obtain ⟨y31, hy32, hM⟩ := bind_some hM
          refine aw_gtrue 24 rfl rfl hg30 (st_callF SelL.nil (fun S w hs hP => law27_example_spec _ w  y31 hy32 (lend_lt hs) ) (by intro r c hc; simp only [List.mem_cons, List.not_mem_nil, or_false] at hc; rcases hc with rfl | rfl <;> first | exact flatC_own | exact flatC_trow (fun _ _ _ _ => trivial)) (fun r33 => ⟨fun w hm => hm.sub (by repeat (first | exact List.Sublist.refl _ | apply List.Sublist.cons_cons | apply List.Sublist.cons)), ?_⟩))
          dsimp only [List.cons_append, List.nil_append]
          obtain ⟨y34, hy35, hM⟩ := bind_some hM
          refine aw_gtrue 25 rfl rfl hg30 (st_callv (fun w hm => let ⟨S, hs⟩ := hm; flow_Check_spec _ w y31 r33 y34 hy35 (lend_lt hs) ⟨(Kn.lend (Kn.trow (e := 3) (r := r33.1) (by repeat (first | exact Has.head | apply Has.tail))) hs), (Kn.lend (Kn.trow (e := 40) (r := r33.2) (by repeat (first | exact Has.head | apply Has.tail))) hs)⟩) ⟨fun w hm => hm.sub (by repeat (first | exact List.Sublist.refl _ | apply List.Sublist.cons_cons | apply List.Sublist.cons)), ?_⟩)
          refine aw_ev 26 rfl ev_and ?_
          refine aw_ev 27 rfl ev_assign ?_
          refine aw_done (hK3 _ _ ?_); clear hK3
          obtain rfl := some_inj hM
          refine cw_ret (kw_retc1 (fun w hm => ret_of hm rfl))
        ·
          replace hM := (ite_f hg30).symm.trans hM
          refine aw_gskip 24 rfl rfl hg30 ?_
          refine aw_gskip 25 rfl rfl hg30 ?_
          refine aw_ev 26 rfl (ev_andF hg30) ?_
          refine aw_ev 27 rfl ev_assign ?_
          refine aw_done (hK3 _ _ ?_); clear hK3
          obtain rfl := some_inj hM
          refine cw_ret (kw_retc1 (fun w hm => ret_of hm rfl))
    ·
      replace hM := (ite_f hg12).symm.trans hM
      refine aw_gskip 14 rfl rfl hg12 ?_
      refine aw_gskip 16 rfl rfl hg12 ?_
      refine aw_ev 17 rfl (ev_andF hg12) ?_
      refine aw_ev 18 rfl ev_move ?_
      refine aw_evg 20 rfl rfl (ev_load_all (b := b7)) ?_
      refine aw_cases false (fun hg36 => ?_) (fun hg36 => ?_)
      ·
        replace hM := (ite_t hg36).symm.trans hM
        refine aw_know 28 hg36 rfl ?_
        obtain ⟨y37, hy38, hM⟩ := bind_some hM
        refine aw_gtrue 19 rfl rfl hg36 (st_callF SelL.nil (fun S w hs hP => law27_example_spec _ w  y37 hy38 (lend_lt hs) ) (by intro r c hc; simp only [List.mem_cons, List.not_mem_nil, or_false] at hc; rcases hc with rfl | rfl <;> first | exact flatC_own | exact flatC_trow (fun _ _ _ _ => trivial)) (fun r39 => ⟨fun w hm => hm.sub (by repeat (first | exact List.Sublist.refl _ | apply List.Sublist.cons_cons | apply List.Sublist.cons)), ?_⟩))
        dsimp only [List.cons_append, List.nil_append]
        obtain ⟨y40, hy41, hM⟩ := bind_some hM
        refine aw_gtrue 21 rfl rfl hg36 (st_callv (fun w hm => let ⟨S, hs⟩ := hm; flow_Verify_spec _ w y37 r39 y4.1 r6 y40 hy41 (lend_lt hs) ⟨(Kn.lend (Kn.trow (e := 3) (r := r39.1) (by repeat (first | exact Has.head | apply Has.tail))) hs), (Kn.lend (Kn.trow (e := 40) (r := r39.2) (by repeat (first | exact Has.head | apply Has.tail))) hs)⟩ ⟨(Kn.lend (Kn.trow (e := 3) (r := r6.1) (by repeat (first | exact Has.head | apply Has.tail))) hs), (Kn.lend (Kn.trow (e := 3) (r := r6.2) (by repeat (first | exact Has.head | apply Has.tail))) hs)⟩) ⟨fun w hm => hm.sub (by repeat (first | exact List.Sublist.refl _ | apply List.Sublist.cons_cons | apply List.Sublist.cons)), ?_⟩)
        refine aw_ev 22 rfl ev_and ?_
        refine aw_ev 23 rfl ev_move ?_
        refine aw_cases (false && y40) (fun hg42 => ?_) (fun hg42 => ?_)
        ·
          replace hM := (ite_t hg42).symm.trans hM
          obtain ⟨y43, hy44, hM⟩ := bind_some hM
          refine aw_gtrue 24 rfl rfl hg42 (st_callF SelL.nil (fun S w hs hP => law27_example_spec _ w  y43 hy44 (lend_lt hs) ) (by intro r c hc; simp only [List.mem_cons, List.not_mem_nil, or_false] at hc; rcases hc with rfl | rfl <;> first | exact flatC_own | exact flatC_trow (fun _ _ _ _ => trivial)) (fun r45 => ⟨fun w hm => hm.sub (by repeat (first | exact List.Sublist.refl _ | apply List.Sublist.cons_cons | apply List.Sublist.cons)), ?_⟩))
          dsimp only [List.cons_append, List.nil_append]
          obtain ⟨y46, hy47, hM⟩ := bind_some hM
          refine aw_gtrue 25 rfl rfl hg42 (st_callv (fun w hm => let ⟨S, hs⟩ := hm; flow_Check_spec _ w y43 r45 y46 hy47 (lend_lt hs) ⟨(Kn.lend (Kn.trow (e := 3) (r := r45.1) (by repeat (first | exact Has.head | apply Has.tail))) hs), (Kn.lend (Kn.trow (e := 40) (r := r45.2) (by repeat (first | exact Has.head | apply Has.tail))) hs)⟩) ⟨fun w hm => hm.sub (by repeat (first | exact List.Sublist.refl _ | apply List.Sublist.cons_cons | apply List.Sublist.cons)), ?_⟩)
          refine aw_ev 26 rfl ev_and ?_
          refine aw_ev 27 rfl ev_assign ?_
          refine aw_done (hK3 _ _ ?_); clear hK3
          obtain rfl := some_inj hM
          refine cw_ret (kw_retc1 (fun w hm => ret_of hm rfl))
        ·
          replace hM := (ite_f hg42).symm.trans hM
          refine aw_gskip 24 rfl rfl hg42 ?_
          refine aw_gskip 25 rfl rfl hg42 ?_
          refine aw_ev 26 rfl (ev_andF hg42) ?_
          refine aw_ev 27 rfl ev_assign ?_
          refine aw_done (hK3 _ _ ?_); clear hK3
          obtain rfl := some_inj hM
          refine cw_ret (kw_retc1 (fun w hm => ret_of hm rfl))
      ·
        replace hM := (ite_f hg36).symm.trans hM
        refine aw_gskip 19 rfl rfl hg36 ?_
        refine aw_gskip 21 rfl rfl hg36 ?_
        refine aw_ev 22 rfl (ev_andF hg36) ?_
        refine aw_ev 23 rfl ev_move ?_
        refine aw_gskip 24 rfl rfl hg36 ?_
        refine aw_gskip 25 rfl rfl hg36 ?_
        refine aw_ev 26 rfl (ev_andF hg36) ?_
        refine aw_ev 27 rfl ev_assign ?_
        refine aw_done (hK3 _ _ ?_); clear hK3
        obtain rfl := some_inj hM
        refine cw_ret (kw_retc1 (fun w hm => ret_of hm rfl))
  ·
    replace hM := (ite_f hg8).symm.trans hM
    refine aw_gskip 10 rfl rfl hg8 ?_
    refine aw_gskip 11 rfl rfl hg8 ?_
    refine aw_ev 12 rfl (ev_andF hg8) ?_
    refine aw_ev 13 rfl ev_move ?_
    refine aw_evg 15 rfl rfl (ev_load_all (b := b7)) ?_
    refine aw_cases false (fun hg48 => ?_) (fun hg48 => ?_)
    ·
      replace hM := (ite_t hg48).symm.trans hM
      refine aw_know 23 hg48 rfl ?_
      obtain ⟨y49, hy50, hM⟩ := bind_some hM
      refine aw_gtrue 14 rfl rfl hg48 (st_callF SelL.nil (fun S w hs hP => law27_example_spec _ w  y49 hy50 (lend_lt hs) ) (by intro r c hc; simp only [List.mem_cons, List.not_mem_nil, or_false] at hc; rcases hc with rfl | rfl <;> first | exact flatC_own | exact flatC_trow (fun _ _ _ _ => trivial)) (fun r51 => ⟨fun w hm => hm.sub (by repeat (first | exact List.Sublist.refl _ | apply List.Sublist.cons_cons | apply List.Sublist.cons)), ?_⟩))
      dsimp only [List.cons_append, List.nil_append]
      obtain ⟨y52, hy53, hM⟩ := bind_some hM
      refine aw_gtrue 16 rfl rfl hg48 (st_callv (fun w hm => let ⟨S, hs⟩ := hm; ref24_VerifyFlow_spec _ w y49 r51 y4.1 r6 y52 hy53 (lend_lt hs) ⟨(Kn.lend (Kn.trow (e := 3) (r := r51.1) (by repeat (first | exact Has.head | apply Has.tail))) hs), (Kn.lend (Kn.trow (e := 40) (r := r51.2) (by repeat (first | exact Has.head | apply Has.tail))) hs)⟩ ⟨(Kn.lend (Kn.trow (e := 3) (r := r6.1) (by repeat (first | exact Has.head | apply Has.tail))) hs), (Kn.lend (Kn.trow (e := 3) (r := r6.2) (by repeat (first | exact Has.head | apply Has.tail))) hs)⟩) ⟨fun w hm => hm.sub (by repeat (first | exact List.Sublist.refl _ | apply List.Sublist.cons_cons | apply List.Sublist.cons)), ?_⟩)
      refine aw_ev 17 rfl ev_and ?_
      refine aw_ev 18 rfl ev_move ?_
      refine aw_evg 20 rfl rfl (ev_load_all (b := b7)) ?_
      refine aw_cases (false && y52) (fun hg54 => ?_) (fun hg54 => ?_)
      ·
        replace hM := (ite_t hg54).symm.trans hM
        refine aw_know 28 hg54 rfl ?_
        obtain ⟨y55, hy56, hM⟩ := bind_some hM
        refine aw_gtrue 19 rfl rfl hg54 (st_callF SelL.nil (fun S w hs hP => law27_example_spec _ w  y55 hy56 (lend_lt hs) ) (by intro r c hc; simp only [List.mem_cons, List.not_mem_nil, or_false] at hc; rcases hc with rfl | rfl <;> first | exact flatC_own | exact flatC_trow (fun _ _ _ _ => trivial)) (fun r57 => ⟨fun w hm => hm.sub (by repeat (first | exact List.Sublist.refl _ | apply List.Sublist.cons_cons | apply List.Sublist.cons)), ?_⟩))
        dsimp only [List.cons_append, List.nil_append]
        obtain ⟨y58, hy59, hM⟩ := bind_some hM
        refine aw_gtrue 21 rfl rfl hg54 (st_callv (fun w hm => let ⟨S, hs⟩ := hm; flow_Verify_spec _ w y55 r57 y4.1 r6 y58 hy59 (lend_lt hs) ⟨(Kn.lend (Kn.trow (e := 3) (r := r57.1) (by repeat (first | exact Has.head | apply Has.tail))) hs), (Kn.lend (Kn.trow (e := 40) (r := r57.2) (by repeat (first | exact Has.head | apply Has.tail))) hs)⟩ ⟨(Kn.lend (Kn.trow (e := 3) (r := r6.1) (by repeat (first | exact Has.head | apply Has.tail))) hs), (Kn.lend (Kn.trow (e := 3) (r := r6.2) (by repeat (first | exact Has.head | apply Has.tail))) hs)⟩) ⟨fun w hm => hm.sub (by repeat (first | exact List.Sublist.refl _ | apply List.Sublist.cons_cons | apply List.Sublist.cons)), ?_⟩)
        refine aw_ev 22 rfl ev_and ?_
        refine aw_ev 23 rfl ev_move ?_
        refine aw_cases ((false && y52) && y58) (fun hg60 => ?_) (fun hg60 => ?_)
        ·
          replace hM := (ite_t hg60).symm.trans hM
          obtain ⟨y61, hy62, hM⟩ := bind_some hM
          refine aw_gtrue 24 rfl rfl hg60 (st_callF SelL.nil (fun S w hs hP => law27_example_spec _ w  y61 hy62 (lend_lt hs) ) (by intro r c hc; simp only [List.mem_cons, List.not_mem_nil, or_false] at hc; rcases hc with rfl | rfl <;> first | exact flatC_own | exact flatC_trow (fun _ _ _ _ => trivial)) (fun r63 => ⟨fun w hm => hm.sub (by repeat (first | exact List.Sublist.refl _ | apply List.Sublist.cons_cons | apply List.Sublist.cons)), ?_⟩))
          dsimp only [List.cons_append, List.nil_append]
          obtain ⟨y64, hy65, hM⟩ := bind_some hM
          refine aw_gtrue 25 rfl rfl hg60 (st_callv (fun w hm => let ⟨S, hs⟩ := hm; flow_Check_spec _ w y61 r63 y64 hy65 (lend_lt hs) ⟨(Kn.lend (Kn.trow (e := 3) (r := r63.1) (by repeat (first | exact Has.head | apply Has.tail))) hs), (Kn.lend (Kn.trow (e := 40) (r := r63.2) (by repeat (first | exact Has.head | apply Has.tail))) hs)⟩) ⟨fun w hm => hm.sub (by repeat (first | exact List.Sublist.refl _ | apply List.Sublist.cons_cons | apply List.Sublist.cons)), ?_⟩)
          refine aw_ev 26 rfl ev_and ?_
          refine aw_ev 27 rfl ev_assign ?_
          refine aw_done (hK3 _ _ ?_); clear hK3
          obtain rfl := some_inj hM
          refine cw_ret (kw_retc1 (fun w hm => ret_of hm rfl))
        ·
          replace hM := (ite_f hg60).symm.trans hM
          refine aw_gskip 24 rfl rfl hg60 ?_
          refine aw_gskip 25 rfl rfl hg60 ?_
          refine aw_ev 26 rfl (ev_andF hg60) ?_
          refine aw_ev 27 rfl ev_assign ?_
          refine aw_done (hK3 _ _ ?_); clear hK3
          obtain rfl := some_inj hM
          refine cw_ret (kw_retc1 (fun w hm => ret_of hm rfl))
      ·
        replace hM := (ite_f hg54).symm.trans hM
        refine aw_gskip 19 rfl rfl hg54 ?_
        refine aw_gskip 21 rfl rfl hg54 ?_
        refine aw_ev 22 rfl (ev_andF hg54) ?_
        refine aw_ev 23 rfl ev_move ?_
        obtain ⟨y66, hy67, hM⟩ := bind_some hM
        refine aw_gtrue 24 rfl rfl hg48 (st_callF SelL.nil (fun S w hs hP => law27_example_spec _ w  y66 hy67 (lend_lt hs) ) (by intro r c hc; simp only [List.mem_cons, List.not_mem_nil, or_false] at hc; rcases hc with rfl | rfl <;> first | exact flatC_own | exact flatC_trow (fun _ _ _ _ => trivial)) (fun r68 => ⟨fun w hm => hm.sub (by repeat (first | exact List.Sublist.refl _ | apply List.Sublist.cons_cons | apply List.Sublist.cons)), ?_⟩))
        dsimp only [List.cons_append, List.nil_append]
        obtain ⟨y69, hy70, hM⟩ := bind_some hM
        refine aw_gtrue 25 rfl rfl hg48 (st_callv (fun w hm => let ⟨S, hs⟩ := hm; flow_Check_spec _ w y66 r68 y69 hy70 (lend_lt hs) ⟨(Kn.lend (Kn.trow (e := 3) (r := r68.1) (by repeat (first | exact Has.head | apply Has.tail))) hs), (Kn.lend (Kn.trow (e := 40) (r := r68.2) (by repeat (first | exact Has.head | apply Has.tail))) hs)⟩) ⟨fun w hm => hm.sub (by repeat (first | exact List.Sublist.refl _ | apply List.Sublist.cons_cons | apply List.Sublist.cons)), ?_⟩)
        refine aw_ev 26 rfl ev_and ?_
        refine aw_ev 27 rfl ev_assign ?_
        refine aw_done (hK3 _ _ ?_); clear hK3
        obtain rfl := some_inj hM
        refine cw_ret (kw_retc1 (fun w hm => ret_of hm rfl))
    ·
      replace hM := (ite_f hg48).symm.trans hM
      refine aw_gskip 14 rfl rfl hg48 ?_
      refine aw_gskip 16 rfl rfl hg48 ?_
      refine aw_ev 17 rfl (ev_andF hg48) ?_
      refine aw_ev 18 rfl ev_move ?_
      refine aw_gskip 19 rfl rfl hg48 ?_
      refine aw_gskip 20 rfl rfl hg48 ?_
      refine aw_gskip 21 rfl rfl hg48 ?_
      refine aw_ev 22 rfl (ev_andF hg48) ?_
      refine aw_ev 23 rfl ev_move ?_
      refine aw_gskip 24 rfl rfl hg48 ?_
      refine aw_gskip 25 rfl rfl hg48 ?_
      refine aw_ev 26 rfl (ev_andF hg48) ?_
      refine aw_ev 27 rfl ev_assign ?_
      refine aw_done (hK3 _ _ ?_); clear hK3
      obtain rfl := some_inj hM
      refine cw_ret (kw_retc1 (fun w hm => ret_of hm rfl))

end Go.Proofs.Ytedocibniankjaa
