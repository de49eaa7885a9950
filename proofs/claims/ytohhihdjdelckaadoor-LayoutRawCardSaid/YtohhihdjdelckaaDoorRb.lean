/- Models of functions, and that the code computes them. -/
import Derived.Test.YtohhihdjdelckaaDoorRa
set_option linter.all false
namespace Go.Proofs.YtohhihdjdelckaaDoor
open Go.Dc Go.RowKit
set_option maxRecDepth 10000
def ref1_names_k1 : Unit → Option Int := fun _ =>
  some 0
def ref1_names_b1 (i0 : Int) (l0 : List Str) (cont1 : Nat → Option Int) : Nat → Option Int := fun k_1 =>
  if decide ((k_1 : Int) < i0) then
    ((idx l0 (k_1 : Int)).bind fun x7 =>
    (idx l0 i0).bind fun x9 =>
    if decide (x7 = x9) then
      (some 5)
    else
      (chk (i64b ((k_1 : Int) + 1)) <|
      cont1 (k_1 + 1)))
  else
    (ref1_names_k1 ())
def ref1_names_m (l0 : List Str) (i0 : Int) : Option Int :=
  (idx l0 i0).bind fun x1 =>
  (ref1_Name_m x1).bind fun y3 =>
  if (!y3) then
    (some 3)
  else
    (iter (ref1_names_b1 i0 l0) FUEL 0)
theorem ref1_names_spec (S : Soup) (w : World) (l0 : List Str) (r_l0 : GoRep.R (List Str)) (i0 : Int) (y : Int) (hM : ref1_names_m l0 i0 = some y) (hS : ∀ k, S k → k < w.heap.size) (h_l0 : GoRep.ok S w r_l0 l0) :
    Calls Tryd.prog 49 #[.slice r_l0.a l0.length r_l0.cap, .int .i64 i0] w (Ret w (.int .i64 y)) := by
  refine calls_cw (args := [_, _]) Tryd.func49 rfl ((pre_nil hS).start |>.immP (α := List Str) (r := r_l0) (x := l0) h_l0) rfl ?_
  unfold ref1_names_m at hM
  refine cw_seq fun K1 hK1 => ?_
  refine cw_region ?_
  refine ow_ev ev_assign ?_
  refine ow_nil (hK1 _ _ ?_); clear hK1
  refine cw_seq fun K2 hK2 => ?_
  refine cw_seq fun K3 hK3 => ?_
  refine cw_region ?_
  refine ow_ev ev_move ?_
  refine ow_ev ev_move ?_
  obtain ⟨x1, hx2, hM⟩ := bind_some hM
  refine ow_ev (ev_idx (xs := l0) 1 (Kn.imm (α := List Str) (r := r_l0) (x := l0) (by repeat (first | exact Has.head | apply Has.tail))) (fun hg => let h := idx_some hx2; ⟨h.1, h.2.1⟩)) ?_
  refine ow_ev (ev_ld (i := i0) (xs := l0) (y := x1) 0 (Kn.imm (α := List Str) (r := r_l0) (x := l0) (by repeat (first | exact Has.head | apply Has.tail))) (fun _ => hx2)) ?_
  obtain ⟨y3, hy4, hM⟩ := bind_some hM
  refine ow_cons (st_callv (fun w hm => let ⟨S, hs⟩ := hm; ref1_Name_spec _ w x1 y3 hy4 (lend_lt hs) ) ?_)
  refine ow_ev ev_not ?_
  refine ow_nil (hK3 _ _ ?_); clear hK3
  refine cw_cond rfl (fun hc5 => ?_) (fun hc5 => ?_)
  ·
    replace hM := (ite_t hc5).symm.trans hM
    refine cw_seq fun K4 hK4 => ?_
    refine cw_region ?_
    refine ow_ev ev_assign ?_
    refine ow_nil (hK4 _ _ ?_); clear hK4
    obtain rfl := some_inj hM
    refine cw_ret (kw_retc1 (fun w hm => ret_of hm rfl))
  ·
    replace hM := (ite_f hc5).symm.trans hM
    refine cw_skip (hK2 _ _ ?_); clear hK2
    refine cw_seq fun K5 hK5 => ?_
    refine cw_seq fun K6 hK6 => ?_
    refine cw_region ?_
    refine ow_ev ev_assign ?_
    refine ow_nil (hK6 _ _ ?_); clear hK6
    refine cw_block ?_
    refine cw_loop (γ := Nat × Nat × Unit) (env := fun (_, k_1, _) => [(0, .v (.slice r_l0.a l0.length r_l0.cap)), (1, .v (.int .i64 i0)), (5, .v (.int .i64 (k_1 : Int)))]) (mem := fun (_, k_1, _) => [imm (α := (List Str)) r_l0 l0]) (R := fun g => iter (ref1_names_b1 i0 l0) g.1 g.2.1 = some y) (μ := fun g => g.1) (FUEL, 0, ()) hM ⟨rfl, rfl, rfl, trivial⟩ (fun w hm => hm.reord) ?_
    clear hM
    intro g hM KL1 hL1
    obtain ⟨nn1, k_1, ⟨⟩⟩ := g
    dsimp only at hM ⊢
    obtain ⟨nn1, cont1, rfl, hcont1, hM⟩ := iter_open' hM
    dsimp only [ref1_names_b1] at hM
    refine cw_seq fun K7 hK7 => ?_
    refine cw_seq fun K8 hK8 => ?_
    refine cw_region ?_
    refine ow_ev ev_move ?_
    refine ow_ev ev_move ?_
    refine ow_ev ev_lss ?_
    refine ow_nil (hK8 _ _ ?_); clear hK8
    refine cw_cond rfl (fun hc6 => ?_) (fun hc6 => ?_)
    ·
      replace hM := (ite_t hc6).symm.trans hM
      refine cw_skip (hK7 _ _ ?_); clear hK7
      refine cw_seq fun K9 hK9 => ?_
      refine cw_block ?_
      refine cw_seq fun K10 hK10 => ?_
      refine cw_region_any _ (List.Sublist.refl _) ?_
      refine aw_ev 0 rfl ev_move ?_
      refine aw_ev 1 rfl ev_move ?_
      obtain ⟨x7, hx8, hM⟩ := bind_some hM
      refine aw_ev 2 rfl (ev_idx (xs := l0) 1 (Kn.imm (α := List Str) (r := r_l0) (x := l0) (by repeat (first | exact Has.head | apply Has.tail))) (fun hg => let h := idx_some hx8; ⟨h.1, h.2.1⟩)) ?_
      refine aw_ev 3 rfl (ev_ld (i := (k_1 : Int)) (xs := l0) (y := x7) 0 (Kn.imm (α := List Str) (r := r_l0) (x := l0) (by repeat (first | exact Has.head | apply Has.tail))) (fun _ => hx8)) ?_
      refine aw_ev 4 rfl ev_move ?_
      refine aw_ev 5 rfl ev_move ?_
      obtain ⟨x9, hx10, hM⟩ := bind_some hM
      refine aw_ev 6 rfl (ev_idx (xs := l0) 1 (Kn.imm (α := List Str) (r := r_l0) (x := l0) (by repeat (first | exact Has.head | apply Has.tail))) (fun hg => let h := idx_some hx10; ⟨h.1, h.2.1⟩)) ?_
      refine aw_ev 7 rfl (ev_ld (i := i0) (xs := l0) (y := x9) 0 (Kn.imm (α := List Str) (r := r_l0) (x := l0) (by repeat (first | exact Has.head | apply Has.tail))) (fun _ => hx10)) ?_
      refine aw_ev 8 rfl ev_str_eql ?_
      refine aw_done (hK10 _ _ ?_); clear hK10
      refine cw_cond rfl (fun hc11 => ?_) (fun hc11 => ?_)
      ·
        replace hM := (ite_t hc11).symm.trans hM
        refine cw_seq fun K11 hK11 => ?_
        refine cw_region ?_
        refine ow_ev ev_assign ?_
        refine ow_nil (hK11 _ _ ?_); clear hK11
        obtain rfl := some_inj hM
        refine cw_ret (kw_retc1 (fun w hm => ret_of hm rfl))
      ·
        replace hM := (ite_f hc11).symm.trans hM
        refine cw_skip (hK9 _ _ ?_); clear hK9
        refine cw_region ?_
        refine ow_ev ev_move ?_
        obtain ⟨hI12, hM⟩ := chk_some hM
        refine ow_ev (ev_add (hr := fun hg => i64b_I64 hI12)) ?_
        refine ow_ev ev_assign ?_
        refine ow_nil (hL1 (nn1, (k_1 + 1), ()) _ _ (eqc hcont1 hM) (Nat.lt_succ_self _) ⟨rfl, rfl, rfl, trivial⟩ (fun w hm => hm.reord))
    ·
      replace hM := (ite_f hc6).symm.trans hM
      refine cw_exit (hK5 _ _ ?_); clear hK5
      dsimp only [ref1_names_k1] at hM
      refine cw_seq fun K12 hK12 => ?_
      refine cw_region ?_
      refine ow_ev ev_assign ?_
      refine ow_nil (hK12 _ _ ?_); clear hK12
      obtain rfl := some_inj hM
      refine cw_ret (kw_retc1 (fun w hm => ret_of hm rfl))

def ref1_in_m (n0 : Int) (lo0 : Int) (hi0 : Int) : Option Bool :=
  some (decide (lo0 ≤ n0) && decide (n0 ≤ hi0))
theorem ref1_in_spec (S : Soup) (w : World) (n0 : Int) (lo0 : Int) (hi0 : Int) (y : Bool) (hM : ref1_in_m n0 lo0 hi0 = some y) (hS : ∀ k, S k → k < w.heap.size)  :
    Calls Tryd.prog 51 #[.int .i64 n0, .int .i64 lo0, .int .i64 hi0] w (Ret w (.bool y)) := by
  refine calls_cw (args := [_, _, _]) Tryd.func51 rfl ((pre_nil hS).start) rfl ?_
  unfold ref1_in_m at hM
  refine cw_seq fun K1 hK1 => ?_
  refine cw_region ?_
  refine ow_ev ev_assign ?_
  refine ow_nil (hK1 _ _ ?_); clear hK1
  refine cw_seq fun K2 hK2 => ?_
  refine cw_region ?_
  refine ow_ev ev_move ?_
  refine ow_ev ev_move ?_
  refine ow_ev ev_geq ?_
  refine ow_ev ev_move ?_
  refine ow_evg rfl ev_move ?_
  refine ow_evg rfl ev_move ?_
  refine ow_evg rfl ev_leq ?_
  refine ow_ev ev_and ?_
  refine ow_ev ev_assign ?_
  refine ow_nil (hK2 _ _ ?_); clear hK2
  obtain rfl := some_inj hM
  refine cw_ret (kw_retc1 (fun w hm => ret_of hm rfl))

def ref1_has_m (k0 : Link) (x0 : Ref1_end) : Option Bool :=
  some ((decide (k0.A = x0.section_) && decide (k0.AEnd = x0.end_)) || (decide (k0.B = x0.section_) && decide (k0.BEnd = x0.end_)))
theorem ref1_has_spec (S : Soup) (w : World) (k0 : Link) (x0 : Ref1_end) (y : Bool) (hM : ref1_has_m k0 x0 = some y) (hS : ∀ k, S k → k < w.heap.size)  :
    Calls Tryd.prog 78 #[.agg #[.int .i64 k0.A, .int .i64 k0.AEnd, .int .i64 k0.B, .int .i64 k0.BEnd, .int .i64 k0.Point, .int .i64 k0.Pos], .agg #[.int .i64 x0.section_, .int .i64 x0.end_]] w (Ret w (.bool y)) := by
  refine calls_cw (args := [_, _]) Tryd.func78 rfl ((pre_nil hS).start) rfl ?_
  unfold ref1_has_m at hM
  refine cw_seq fun K1 hK1 => ?_
  refine cw_region ?_
  refine ow_cons (st_box (l := [.int .i64 k0.A, .int .i64 k0.AEnd, .int .i64 k0.B, .int .i64 k0.BEnd, .int .i64 k0.Point, .int .i64 k0.Pos]) (k := fun b1 => ?_))
  refine ow_cons (st_box (l := [.int .i64 x0.section_, .int .i64 x0.end_]) (k := fun b2 => ?_))
  refine ow_ev ev_assign ?_
  refine ow_nil (hK1 _ _ ?_); clear hK1
  refine cw_seq fun K2 hK2 => ?_
  refine cw_region ?_
  refine ow_ev (ev_field_addr 0) ?_
  refine ow_ev (ev_load_own (b := b1)) ?_
  refine ow_ev (ev_field_addr 0) ?_
  refine ow_ev (ev_load_own (b := b2)) ?_
  refine ow_ev ev_eql ?_
  refine ow_ev ev_move ?_
  refine ow_evg rfl (ev_field_addr 1) ?_
  refine ow_evg rfl (ev_load_own (b := b1)) ?_
  refine ow_evg rfl (ev_field_addr 1) ?_
  refine ow_evg rfl (ev_load_own (b := b2)) ?_
  refine ow_evg rfl ev_eql ?_
  refine ow_ev ev_and ?_
  refine ow_ev ev_move ?_
  refine ow_evg rfl (ev_field_addr 2) ?_
  refine ow_evg rfl (ev_load_own (b := b1)) ?_
  refine ow_evg rfl (ev_field_addr 0) ?_
  refine ow_evg rfl (ev_load_own (b := b2)) ?_
  refine ow_evg rfl ev_eql ?_
  refine ow_evg rfl ev_move ?_
  refine ow_evg rfl (ev_field_addr 3) ?_
  refine ow_evg rfl (ev_load_own (b := b1)) ?_
  refine ow_evg rfl (ev_field_addr 1) ?_
  refine ow_evg rfl (ev_load_own (b := b2)) ?_
  refine ow_evg rfl ev_eql ?_
  refine ow_evg rfl ev_and ?_
  refine ow_ev ev_or ?_
  refine ow_ev ev_assign ?_
  refine ow_nil (hK2 _ _ ?_); clear hK2
  obtain rfl := some_inj hM
  refine cw_ret (kw_retc1 (fun w hm => ret_of hm rfl))

def ref1_free_k2 (j_1 : Nat) (cont1 : (Int × Int × Int × Int × Int × Int × Int × Nat) → Option Bool) : (Int × Int × Int × Int × Int × Int × Int) → Option Bool := fun (many_j2, other_j2_0, other_j2_1, other_j2_2, other_j2_3, other_j2_4, other_j2_5) =>
  chk (i64b ((j_1 : Int) + 1)) <|
  cont1 (many_j2, other_j2_0, other_j2_1, other_j2_2, other_j2_3, other_j2_4, other_j2_5, j_1 + 1)
def ref1_free_k1 (many_1 : Int) (x3 : Link) (other_1_4 : Int) (other_1_5 : Int) : Unit → Option Bool := fun _ =>
  some (decide (many_1 = 0) || (((decide (many_1 = 1) && decide (0 ≤ x3.Point)) && decide (other_1_4 = x3.Point)) && decide (other_1_5 ≠ x3.Pos)))
def ref1_free_b1 (i0 : Int) (l0 : Layout) (x0 : Ref1_end) (x3 : Link) (cont1 : (Int × Int × Int × Int × Int × Int × Int × Nat) → Option Bool) : (Int × Int × Int × Int × Int × Int × Int × Nat) → Option Bool := fun (many_1, other_1_0, other_1_1, other_1_2, other_1_3, other_1_4, other_1_5, j_1) =>
  if decide ((j_1 : Int) < i0) then
    ((idx l0.Links (j_1 : Int)).bind fun x9 =>
    (ref1_has_m x9 x0).bind fun y11 =>
    if y11 then
      (chk (i64b (many_1 + 1)) <|
      (idx l0.Links (j_1 : Int)).bind fun x15 =>
      ref1_free_k2 j_1 cont1 ((many_1 + 1), x15.A, x15.AEnd, x15.B, x15.BEnd, x15.Point, x15.Pos))
    else
      (ref1_free_k2 j_1 cont1 (many_1, other_1_0, other_1_1, other_1_2, other_1_3, other_1_4, other_1_5)))
  else
    (ref1_free_k1 many_1 x3 other_1_4 other_1_5 ())
def ref1_free_m (l0 : Layout) (i0 : Int) (x0 : Ref1_end) : Option Bool :=
  (idx l0.Links i0).bind fun x3 =>
  iter (ref1_free_b1 i0 l0 x0 x3) FUEL (0, 0, 0, 0, 0, 0, 0, 0)
theorem ref1_free_spec (S : Soup) (w : World) (l0 : Layout) (r_l0 : GoRep.R Layout) (i0 : Int) (x0 : Ref1_end) (y : Bool) (hM : ref1_free_m l0 i0 x0 = some y) (hS : ∀ k, S k → k < w.heap.size) (h_l0 : GoRep.ok S w r_l0 l0) :
    Calls Tryd.prog 79 #[.agg #[.slice r_l0.1.a l0.Stations.length r_l0.1.cap, .slice r_l0.2.1.a l0.Points.length r_l0.2.1.cap, .slice r_l0.2.2.1.a l0.Sections.length r_l0.2.2.1.cap, .slice r_l0.2.2.2.a l0.Links.length r_l0.2.2.2.cap], .int .i64 i0, .agg #[.int .i64 x0.section_, .int .i64 x0.end_]] w (Ret w (.bool y)) := by
  refine calls_cw (args := [_, _, _]) Tryd.func79 rfl ((pre_nil hS).start |>.immP (α := List Str) (r := r_l0.1) (x := l0.Stations) h_l0.1|>.immP (α := List Str) (r := r_l0.2.1) (x := l0.Points) h_l0.2.1|>.immP (α := List Section) (r := r_l0.2.2.1) (x := l0.Sections) h_l0.2.2.1|>.immP (α := List Link) (r := r_l0.2.2.2) (x := l0.Links) h_l0.2.2.2) rfl ?_
  unfold ref1_free_m at hM
  refine cw_seq fun K1 hK1 => ?_
  refine cw_region ?_
  refine ow_cons (st_box (l := [.slice r_l0.1.a l0.Stations.length r_l0.1.cap, .slice r_l0.2.1.a l0.Points.length r_l0.2.1.cap, .slice r_l0.2.2.1.a l0.Sections.length r_l0.2.2.1.cap, .slice r_l0.2.2.2.a l0.Links.length r_l0.2.2.2.cap]) (k := fun b1 => ?_))
  refine ow_cons (st_box (l := [.int .i64 x0.section_, .int .i64 x0.end_]) (k := fun b2 => ?_))
  refine ow_ev ev_assign ?_
  refine ow_nil (hK1 _ _ ?_); clear hK1
  refine cw_seq fun K2 hK2 => ?_
  refine cw_region ?_
  refine ow_ev (ev_field_addr 3) ?_
  refine ow_ev (ev_load_own (b := b1)) ?_
  refine ow_ev ev_move ?_
  obtain ⟨x3, hx4, hM⟩ := bind_some hM
  refine ow_ev (ev_idx (xs := l0.Links) 6 (Kn.imm (α := List Link) (r := r_l0.2.2.2) (x := l0.Links) (by repeat (first | exact Has.head | apply Has.tail))) (fun hg => let h := idx_some hx4; ⟨h.1, h.2.1⟩)) ?_
  refine ow_ev (ev_lds (m := 6) (i := i0) (xs := l0.Links) (y := x3) (l := [.int .i64 x3.A, .int .i64 x3.AEnd, .int .i64 x3.B, .int .i64 x3.BEnd, .int .i64 x3.Point, .int .i64 x3.Pos]) 0 (Kn.imm (α := List Link) (r := r_l0.2.2.2) (x := l0.Links) (by repeat (first | exact Has.head | apply Has.tail))) (fun _ => hx4)) ?_
  refine ow_cons (st_alloc rfl (k := fun b5 => ?_))
  refine ow_cons (st_store_all (b := b5) (vs := [.int .i64 x3.A, .int .i64 x3.AEnd, .int .i64 x3.B, .int .i64 x3.BEnd, .int .i64 x3.Point, .int .i64 x3.Pos]) (k := ?_))
  refine ow_nil (hK2 _ _ ?_); clear hK2
  refine cw_seq fun K3 hK3 => ?_
  refine cw_region ?_
  refine ow_ev (ev_build [.int .i64 0, .int .i64 0, .int .i64 0, .int .i64 0, .int .i64 0, .int .i64 0]) ?_
  refine ow_cons (st_alloc rfl (k := fun b6 => ?_))
  refine ow_ev ev_assign ?_
  refine ow_cons (st_store_all (b := b6) (vs := [.int .i64 0, .int .i64 0, .int .i64 0, .int .i64 0, .int .i64 0, .int .i64 0]) (k := ?_))
  refine ow_nil (hK3 _ _ ?_); clear hK3
  refine cw_seq fun K4 hK4 => ?_
  refine cw_seq fun K5 hK5 => ?_
  refine cw_region ?_
  refine ow_ev ev_assign ?_
  refine ow_nil (hK5 _ _ ?_); clear hK5
  refine cw_block ?_
  refine cw_loop (γ := Nat × (Int × Int × Int × Int × Int × Int × Int × Nat) × Unit) (env := fun (_, (many_1, other_1_0, other_1_1, other_1_2, other_1_3, other_1_4, other_1_5, j_1), _) => [(1, .v (.int .i64 i0)), (3, .v (.pointer (some ⟨b1, 0, none⟩))), (5, .v (.pointer (some ⟨b2, 0, none⟩))), (7, .v (.pointer (some ⟨b5, 0, none⟩))), (8, .v (.int .i64 many_1)), (9, .v (.pointer (some ⟨b6, 0, none⟩))), (10, .v (.int .i64 (j_1 : Int)))]) (mem := fun (_, (many_1, other_1_0, other_1_1, other_1_2, other_1_3, other_1_4, other_1_5, j_1), _) => [imm (α := (List Str)) r_l0.1 l0.Stations, imm (α := (List Str)) r_l0.2.1 l0.Points, imm (α := (List Section)) r_l0.2.2.1 l0.Sections, imm (α := (List Link)) r_l0.2.2.2 l0.Links, own b1 26 [.slice r_l0.1.a l0.Stations.length r_l0.1.cap, .slice r_l0.2.1.a l0.Points.length r_l0.2.1.cap, .slice r_l0.2.2.1.a l0.Sections.length r_l0.2.2.1.cap, .slice r_l0.2.2.2.a l0.Links.length r_l0.2.2.2.cap], own b2 128 [.int .i64 x0.section_, .int .i64 x0.end_], own b5 72 [.int .i64 x3.A, .int .i64 x3.AEnd, .int .i64 x3.B, .int .i64 x3.BEnd, .int .i64 x3.Point, .int .i64 x3.Pos], own b6 72 [.int .i64 other_1_0, .int .i64 other_1_1, .int .i64 other_1_2, .int .i64 other_1_3, .int .i64 other_1_4, .int .i64 other_1_5]]) (R := fun g => iter (ref1_free_b1 i0 l0 x0 x3) g.1 g.2.1 = some y) (μ := fun g => g.1) (FUEL, (0, 0, 0, 0, 0, 0, 0, 0), ()) hM ⟨rfl, rfl, rfl, rfl, rfl, rfl, rfl, trivial⟩ (fun w hm => hm.reord) ?_
  clear hM
  intro g hM KL1 hL1
  obtain ⟨nn1, ⟨many_1, other_1_0, other_1_1, other_1_2, other_1_3, other_1_4, other_1_5, j_1⟩, ⟨⟩⟩ := g
  dsimp only at hM ⊢
  obtain ⟨nn1, cont1, rfl, hcont1, hM⟩ := iter_open' hM
  dsimp only [ref1_free_b1] at hM
  refine cw_seq fun K6 hK6 => ?_
  refine cw_seq fun K7 hK7 => ?_
  refine cw_region ?_
  refine ow_ev ev_move ?_
  refine ow_ev ev_move ?_
  refine ow_ev ev_lss ?_
  refine ow_nil (hK7 _ _ ?_); clear hK7
  refine cw_cond rfl (fun hc7 => ?_) (fun hc7 => ?_)
  ·
    replace hM := (ite_t hc7).symm.trans hM
    refine cw_skip (hK6 _ _ ?_); clear hK6
    refine cw_cut (γ := (Int × Int × Int × Int × Int × Int × Int) × Unit) (env := fun ((many_j2, other_j2_0, other_j2_1, other_j2_2, other_j2_3, other_j2_4, other_j2_5), _) => [(1, .v (.int .i64 i0)), (3, .v (.pointer (some ⟨b1, 0, none⟩))), (5, .v (.pointer (some ⟨b2, 0, none⟩))), (7, .v (.pointer (some ⟨b5, 0, none⟩))), (8, .v (.int .i64 many_j2)), (9, .v (.pointer (some ⟨b6, 0, none⟩))), (10, .v (.int .i64 (j_1 : Int)))]) (mem := fun ((many_j2, other_j2_0, other_j2_1, other_j2_2, other_j2_3, other_j2_4, other_j2_5), _) => [imm (α := (List Str)) r_l0.1 l0.Stations, imm (α := (List Str)) r_l0.2.1 l0.Points, imm (α := (List Section)) r_l0.2.2.1 l0.Sections, imm (α := (List Link)) r_l0.2.2.2 l0.Links, own b1 26 [.slice r_l0.1.a l0.Stations.length r_l0.1.cap, .slice r_l0.2.1.a l0.Points.length r_l0.2.1.cap, .slice r_l0.2.2.1.a l0.Sections.length r_l0.2.2.1.cap, .slice r_l0.2.2.2.a l0.Links.length r_l0.2.2.2.cap], own b2 128 [.int .i64 x0.section_, .int .i64 x0.end_], own b5 72 [.int .i64 x3.A, .int .i64 x3.AEnd, .int .i64 x3.B, .int .i64 x3.BEnd, .int .i64 x3.Point, .int .i64 x3.Pos], own b6 72 [.int .i64 other_j2_0, .int .i64 other_j2_1, .int .i64 other_j2_2, .int .i64 other_j2_3, .int .i64 other_j2_4, .int .i64 other_j2_5]]) (R := fun g => ref1_free_k2 j_1 cont1 g.1 = some y) ?_ ?_
    · intro KJ2 hJ2
      refine cw_block ?_
      refine cw_seq fun K8 hK8 => ?_
      refine cw_region_any _ (List.Sublist.refl _) ?_
      refine aw_ev 0 rfl (ev_field_addr 3) ?_
      refine aw_ev 1 rfl (ev_load_own (b := b1)) ?_
      refine aw_ev 2 rfl ev_move ?_
      obtain ⟨x9, hx10, hM⟩ := bind_some hM
      refine aw_ev 3 rfl (ev_idx (xs := l0.Links) 6 (Kn.imm (α := List Link) (r := r_l0.2.2.2) (x := l0.Links) (by repeat (first | exact Has.head | apply Has.tail))) (fun hg => let h := idx_some hx10; ⟨h.1, h.2.1⟩)) ?_
      refine aw_ev 4 rfl (ev_lds (m := 6) (i := (j_1 : Int)) (xs := l0.Links) (y := x9) (l := [.int .i64 x9.A, .int .i64 x9.AEnd, .int .i64 x9.B, .int .i64 x9.BEnd, .int .i64 x9.Point, .int .i64 x9.Pos]) 0 (Kn.imm (α := List Link) (r := r_l0.2.2.2) (x := l0.Links) (by repeat (first | exact Has.head | apply Has.tail))) (fun _ => hx10)) ?_
      refine aw_ev 5 rfl (ev_load_all (b := b2)) ?_
      obtain ⟨y11, hy12, hM⟩ := bind_some hM
      refine aw_one 6 rfl (st_callv (fun w hm => let ⟨S, hs⟩ := hm; ref1_has_spec _ w x9 x0 y11 hy12 (lend_lt hs) ) ⟨fun w hm => hm.sub (by repeat (first | exact List.Sublist.refl _ | apply List.Sublist.cons_cons | apply List.Sublist.cons)), ?_⟩)
      refine aw_done (hK8 _ _ ?_); clear hK8
      refine cw_cond rfl (fun hc13 => ?_) (fun hc13 => ?_)
      ·
        replace hM := (ite_t hc13).symm.trans hM
        refine cw_seq fun K9 hK9 => ?_
        refine cw_region ?_
        refine ow_ev ev_move ?_
        obtain ⟨hI14, hM⟩ := chk_some hM
        refine ow_ev (ev_add (hr := fun hg => i64b_I64 hI14)) ?_
        refine ow_ev ev_assign ?_
        refine ow_nil (hK9 _ _ ?_); clear hK9
        refine cw_region ?_
        refine ow_ev (ev_field_addr 3) ?_
        refine ow_ev (ev_load_own (b := b1)) ?_
        refine ow_ev ev_move ?_
        obtain ⟨x15, hx16, hM⟩ := bind_some hM
        refine ow_ev (ev_idx (xs := l0.Links) 6 (Kn.imm (α := List Link) (r := r_l0.2.2.2) (x := l0.Links) (by repeat (first | exact Has.head | apply Has.tail))) (fun hg => let h := idx_some hx16; ⟨h.1, h.2.1⟩)) ?_
        refine ow_ev (ev_lds (m := 6) (i := (j_1 : Int)) (xs := l0.Links) (y := x15) (l := [.int .i64 x15.A, .int .i64 x15.AEnd, .int .i64 x15.B, .int .i64 x15.BEnd, .int .i64 x15.Point, .int .i64 x15.Pos]) 0 (Kn.imm (α := List Link) (r := r_l0.2.2.2) (x := l0.Links) (by repeat (first | exact Has.head | apply Has.tail))) (fun _ => hx16)) ?_
        refine ow_cons (st_store_all (b := b6) (vs := [.int .i64 x15.A, .int .i64 x15.AEnd, .int .i64 x15.B, .int .i64 x15.BEnd, .int .i64 x15.Point, .int .i64 x15.Pos]) (k := ?_))
        refine ow_nil (hJ2 (((many_1 + 1), x15.A, x15.AEnd, x15.B, x15.BEnd, x15.Point, x15.Pos), ()) _ _ hM ⟨rfl, rfl, rfl, rfl, rfl, rfl, rfl, trivial⟩ (fun w hm => hm.reord))
      ·
        replace hM := (ite_f hc13).symm.trans hM
        refine cw_skip (hJ2 ((many_1, other_1_0, other_1_1, other_1_2, other_1_3, other_1_4, other_1_5), ()) _ _ hM ⟨rfl, rfl, rfl, rfl, rfl, rfl, rfl, trivial⟩ (fun w hm => hm.reord))
    ·
      clear hM
      intro g hM
      obtain ⟨⟨many_j2, other_j2_0, other_j2_1, other_j2_2, other_j2_3, other_j2_4, other_j2_5⟩, ⟨⟩⟩ := g
      dsimp only at hM ⊢
      dsimp only [ref1_free_k2] at hM
      refine cw_region ?_
      refine ow_ev ev_move ?_
      obtain ⟨hI8, hM⟩ := chk_some hM
      refine ow_ev (ev_add (hr := fun hg => i64b_I64 hI8)) ?_
      refine ow_ev ev_assign ?_
      refine ow_nil (hL1 (nn1, (many_j2, other_j2_0, other_j2_1, other_j2_2, other_j2_3, other_j2_4, other_j2_5, j_1 + 1), ()) _ _ (eqc hcont1 hM) (Nat.lt_succ_self _) ⟨rfl, rfl, rfl, rfl, rfl, rfl, rfl, trivial⟩ (fun w hm => hm.reord))
  ·
    replace hM := (ite_f hc7).symm.trans hM
    refine cw_exit (hK4 _ _ ?_); clear hK4
    dsimp only [ref1_free_k1] at hM
    refine cw_seq fun K10 hK10 => ?_
    refine cw_region ?_
    refine ow_ev ev_move ?_
    refine ow_ev ev_eql ?_
    refine ow_ev ev_move ?_
    refine ow_evg rfl ev_move ?_
    refine ow_evg rfl ev_eql ?_
    refine ow_evg rfl ev_move ?_
    refine ow_evg rfl (ev_field_addr 4) ?_
    refine ow_evg rfl (ev_load_own (b := b5)) ?_
    refine ow_evg rfl ev_geq ?_
    refine ow_evg rfl ev_and ?_
    refine ow_evg rfl ev_move ?_
    refine ow_evg rfl (ev_field_addr 4) ?_
    refine ow_evg rfl (ev_load_own (b := b6)) ?_
    refine ow_evg rfl (ev_field_addr 4) ?_
    refine ow_evg rfl (ev_load_own (b := b5)) ?_
    refine ow_evg rfl ev_eql ?_
    refine ow_evg rfl ev_and ?_
    refine ow_evg rfl ev_move ?_
    refine ow_evg rfl (ev_field_addr 5) ?_
    refine ow_evg rfl (ev_load_own (b := b6)) ?_
    refine ow_evg rfl (ev_field_addr 5) ?_
    refine ow_evg rfl (ev_load_own (b := b5)) ?_
    refine ow_evg rfl ev_neq ?_
    refine ow_evg rfl ev_and ?_
    refine ow_ev ev_or ?_
    refine ow_ev ev_assign ?_
    refine ow_nil (hK10 _ _ ?_); clear hK10
    obtain rfl := some_inj hM
    refine cw_ret (kw_retc1 (fun w hm => ret_of hm rfl))

def ref1_linkError_k2 (l0 : Layout) (i0 : Int) (x2 : Link) : Unit → Option Int := fun _ =>
  (ref1_free_m l0 i0 (Ref1_end.mk x2.A x2.AEnd)).bind fun y33 =>
  (whn (!(!y33)) default (ref1_free_m l0 i0 (Ref1_end.mk x2.B x2.BEnd))).bind fun y35 =>
  if ((!y33) || (!y35)) then
    (some 11)
  else
    (some 0)
def ref1_linkError_b1 (i0 : Int) (l0 : Layout) (x2 : Link) (cont1 : Nat → Option Int) : Nat → Option Int := fun j_1 =>
  if decide ((j_1 : Int) < i0) then
    ((idx l0.Links (j_1 : Int)).bind fun x23 =>
    (ref1_has_m x23 (Ref1_end.mk x2.A x2.AEnd)).bind fun y25 =>
    (whn y25 default (idx l0.Links (j_1 : Int))).bind fun x27 =>
    (whn y25 default (ref1_has_m x27 (Ref1_end.mk x2.B x2.BEnd))).bind fun y29 =>
    if (y25 && y29) then
      (some 5)
    else
      (chk (i64b ((j_1 : Int) + 1)) <|
      cont1 (j_1 + 1)))
  else
    (ref1_linkError_k2 l0 i0 x2 ())
def ref1_linkError_k1 (x2 : Link) (i0 : Int) (l0 : Layout) : Unit → Option Int := fun _ =>
  if decide ((Ref1_end.mk x2.A x2.AEnd) = (Ref1_end.mk x2.B x2.BEnd)) then
    (some 1)
  else
    (iter (ref1_linkError_b1 i0 l0 x2) FUEL 0)
def ref1_linkError_m (l0 : Layout) (i0 : Int) : Option Int :=
  (idx l0.Links i0).bind fun x2 =>
  chk (i64b ((l0.Sections.length : Int) - 1)) <|
  (ref1_in_m x2.A 0 ((l0.Sections.length : Int) - 1)).bind fun y6 =>
  chk (!(!(!y6)) || i64b ((l0.Sections.length : Int) - 1)) <|
  (whn (!(!y6)) default (ref1_in_m x2.B 0 ((l0.Sections.length : Int) - 1))).bind fun y9 =>
  (whn (!((!y6) || (!y9))) default (ref1_in_m x2.AEnd 0 1)).bind fun y11 =>
  (whn (!(((!y6) || (!y9)) || (!y11))) default (ref1_in_m x2.BEnd 0 1)).bind fun y13 =>
  chk (!(!((((!y6) || (!y9)) || (!y11)) || (!y13))) || i64b ((l0.Points.length : Int) - 1)) <|
  (whn (!((((!y6) || (!y9)) || (!y11)) || (!y13))) default (ref1_in_m x2.Point (-1) ((l0.Points.length : Int) - 1))).bind fun y16 =>
  (whn (!(((((!y6) || (!y9)) || (!y11)) || (!y13)) || (!y16))) default (ref1_in_m x2.Pos 0 1)).bind fun y18 =>
  if (((((((!y6) || (!y9)) || (!y11)) || (!y13)) || (!y16)) || (!y18)) || (decide (x2.Point < 0) && decide (x2.Pos ≠ 0))) then
    (some 4)
  else
    (ref1_linkError_k1 x2 i0 l0 ())
theorem ref1_linkError_spec (S : Soup) (w : World) (l0 : Layout) (r_l0 : GoRep.R Layout) (i0 : Int) (y : Int) (hM : ref1_linkError_m l0 i0 = some y) (hS : ∀ k, S k → k < w.heap.size) (h_l0 : GoRep.ok S w r_l0 l0) :
    Calls Tryd.prog 52 #[.agg #[.slice r_l0.1.a l0.Stations.length r_l0.1.cap, .slice r_l0.2.1.a l0.Points.length r_l0.2.1.cap, .slice r_l0.2.2.1.a l0.Sections.length r_l0.2.2.1.cap, .slice r_l0.2.2.2.a l0.Links.length r_l0.2.2.2.cap], .int .i64 i0] w (Ret w (.int .i64 y)) := by
  refine calls_cw (args := [_, _]) Tryd.func52 rfl ((pre_nil hS).start |>.immP (α := List Str) (r := r_l0.1) (x := l0.Stations) h_l0.1|>.immP (α := List Str) (r := r_l0.2.1) (x := l0.Points) h_l0.2.1|>.immP (α := List Section) (r := r_l0.2.2.1) (x := l0.Sections) h_l0.2.2.1|>.immP (α := List Link) (r := r_l0.2.2.2) (x := l0.Links) h_l0.2.2.2) rfl ?_
  unfold ref1_linkError_m at hM
  refine cw_seq fun K1 hK1 => ?_
  refine cw_region ?_
  refine ow_cons (st_box (l := [.slice r_l0.1.a l0.Stations.length r_l0.1.cap, .slice r_l0.2.1.a l0.Points.length r_l0.2.1.cap, .slice r_l0.2.2.1.a l0.Sections.length r_l0.2.2.1.cap, .slice r_l0.2.2.2.a l0.Links.length r_l0.2.2.2.cap]) (k := fun b1 => ?_))
  refine ow_ev ev_assign ?_
  refine ow_nil (hK1 _ _ ?_); clear hK1
  refine cw_seq fun K2 hK2 => ?_
  refine cw_region ?_
  refine ow_ev (ev_field_addr 3) ?_
  refine ow_ev (ev_load_own (b := b1)) ?_
  refine ow_ev ev_move ?_
  obtain ⟨x2, hx3, hM⟩ := bind_some hM
  refine ow_ev (ev_idx (xs := l0.Links) 6 (Kn.imm (α := List Link) (r := r_l0.2.2.2) (x := l0.Links) (by repeat (first | exact Has.head | apply Has.tail))) (fun hg => let h := idx_some hx3; ⟨h.1, h.2.1⟩)) ?_
  refine ow_ev (ev_lds (m := 6) (i := i0) (xs := l0.Links) (y := x2) (l := [.int .i64 x2.A, .int .i64 x2.AEnd, .int .i64 x2.B, .int .i64 x2.BEnd, .int .i64 x2.Point, .int .i64 x2.Pos]) 0 (Kn.imm (α := List Link) (r := r_l0.2.2.2) (x := l0.Links) (by repeat (first | exact Has.head | apply Has.tail))) (fun _ => hx3)) ?_
  refine ow_cons (st_alloc rfl (k := fun b4 => ?_))
  refine ow_cons (st_store_all (b := b4) (vs := [.int .i64 x2.A, .int .i64 x2.AEnd, .int .i64 x2.B, .int .i64 x2.BEnd, .int .i64 x2.Point, .int .i64 x2.Pos]) (k := ?_))
  refine ow_nil (hK2 _ _ ?_); clear hK2
  refine cw_seq fun K3 hK3 => ?_
  refine cw_region ?_
  refine ow_ev (ev_field_addr 2) ?_
  refine ow_ev (ev_load_own (b := b1)) ?_
  refine ow_ev ev_len ?_
  refine ow_ev ev_assign ?_
  refine ow_nil (hK3 _ _ ?_); clear hK3
  refine cw_seq fun K4 hK4 => ?_
  refine cw_seq fun K5 hK5 => ?_
  refine cw_region ?_
  refine ow_ev (ev_field_addr 0) ?_
  refine ow_ev (ev_load_own (b := b4)) ?_
  refine ow_ev ev_move ?_
  obtain ⟨hI5, hM⟩ := chk_some hM
  refine ow_ev (ev_sub (hr := fun hg => i64b_I64 hI5)) ?_
  obtain ⟨y6, hy7, hM⟩ := bind_some hM
  refine ow_cons (st_callv (fun w hm => let ⟨S, hs⟩ := hm; ref1_in_spec _ w x2.A 0 ((l0.Sections.length : Int) - 1) y6 hy7 (lend_lt hs) ) ?_)
  refine ow_ev ev_not ?_
  refine ow_ev ev_move ?_
  refine ow_evg rfl (ev_field_addr 2) ?_
  refine ow_evg rfl (ev_load_own (b := b4)) ?_
  refine ow_evg rfl ev_move ?_
  obtain ⟨hI8, hM⟩ := chk_some hM
  refine ow_evg rfl (ev_sub (hr := fun hg => i64b_I64 (gor hI8 hg))) ?_
  obtain ⟨y9, hy10, hM⟩ := bind_some hM
  refine ow_callg rfl (fun hg w hm => let ⟨S, hs⟩ := hm; ref1_in_spec _ w x2.B 0 ((l0.Sections.length : Int) - 1) y9 (whn_some hy10 hg) (lend_lt hs) ) ?_
  refine ow_evg rfl ev_not ?_
  refine ow_ev ev_or ?_
  refine ow_ev ev_move ?_
  refine ow_evg rfl (ev_field_addr 1) ?_
  refine ow_evg rfl (ev_load_own (b := b4)) ?_
  obtain ⟨y11, hy12, hM⟩ := bind_some hM
  refine ow_callg rfl (fun hg w hm => let ⟨S, hs⟩ := hm; ref1_in_spec _ w x2.AEnd 0 1 y11 (whn_some hy12 hg) (lend_lt hs) ) ?_
  refine ow_evg rfl ev_not ?_
  refine ow_ev ev_or ?_
  refine ow_ev ev_move ?_
  refine ow_evg rfl (ev_field_addr 3) ?_
  refine ow_evg rfl (ev_load_own (b := b4)) ?_
  obtain ⟨y13, hy14, hM⟩ := bind_some hM
  refine ow_callg rfl (fun hg w hm => let ⟨S, hs⟩ := hm; ref1_in_spec _ w x2.BEnd 0 1 y13 (whn_some hy14 hg) (lend_lt hs) ) ?_
  refine ow_evg rfl ev_not ?_
  refine ow_ev ev_or ?_
  refine ow_ev ev_move ?_
  refine ow_evg rfl (ev_field_addr 4) ?_
  refine ow_evg rfl (ev_load_own (b := b4)) ?_
  refine ow_evg rfl (ev_field_addr 1) ?_
  refine ow_evg rfl (ev_load_own (b := b1)) ?_
  refine ow_evg rfl ev_len ?_
  obtain ⟨hI15, hM⟩ := chk_some hM
  refine ow_evg rfl (ev_sub (hr := fun hg => i64b_I64 (gor hI15 hg))) ?_
  obtain ⟨y16, hy17, hM⟩ := bind_some hM
  refine ow_callg rfl (fun hg w hm => let ⟨S, hs⟩ := hm; ref1_in_spec _ w x2.Point (-1) ((l0.Points.length : Int) - 1) y16 (whn_some hy17 hg) (lend_lt hs) ) ?_
  refine ow_evg rfl ev_not ?_
  refine ow_ev ev_or ?_
  refine ow_ev ev_move ?_
  refine ow_evg rfl (ev_field_addr 5) ?_
  refine ow_evg rfl (ev_load_own (b := b4)) ?_
  obtain ⟨y18, hy19, hM⟩ := bind_some hM
  refine ow_callg rfl (fun hg w hm => let ⟨S, hs⟩ := hm; ref1_in_spec _ w x2.Pos 0 1 y18 (whn_some hy19 hg) (lend_lt hs) ) ?_
  refine ow_evg rfl ev_not ?_
  refine ow_ev ev_or ?_
  refine ow_ev ev_move ?_
  refine ow_evg rfl (ev_field_addr 4) ?_
  refine ow_evg rfl (ev_load_own (b := b4)) ?_
  refine ow_evg rfl ev_lss ?_
  refine ow_evg rfl ev_move ?_
  refine ow_evg rfl (ev_field_addr 5) ?_
  refine ow_evg rfl (ev_load_own (b := b4)) ?_
  refine ow_evg rfl ev_neq ?_
  refine ow_evg rfl ev_and ?_
  refine ow_ev ev_or ?_
  refine ow_nil (hK5 _ _ ?_); clear hK5
  refine cw_cond rfl (fun hc20 => ?_) (fun hc20 => ?_)
  ·
    replace hM := (ite_t hc20).symm.trans hM
    refine cw_seq fun K6 hK6 => ?_
    refine cw_region ?_
    refine ow_ev ev_assign ?_
    refine ow_nil (hK6 _ _ ?_); clear hK6
    obtain rfl := some_inj hM
    refine cw_ret (kw_retc1 (fun w hm => ret_of hm rfl))
  ·
    replace hM := (ite_f hc20).symm.trans hM
    refine cw_skip (hK4 _ _ ?_); clear hK4
    refine cw_cut (γ := Unit × (Nat × Nat)) (env := fun (_, (ba_j1, bb_j1)) => [(1, .v (.int .i64 i0)), (2, .v (.pointer (some ⟨b1, 0, none⟩))), (7, .v (.pointer (some ⟨ba_j1, 0, none⟩))), (8, .v (.pointer (some ⟨bb_j1, 0, none⟩)))]) (mem := fun (_, (ba_j1, bb_j1)) => [imm (α := (List Str)) r_l0.1 l0.Stations, imm (α := (List Str)) r_l0.2.1 l0.Points, imm (α := (List Section)) r_l0.2.2.1 l0.Sections, imm (α := (List Link)) r_l0.2.2.2 l0.Links, own b1 26 [.slice r_l0.1.a l0.Stations.length r_l0.1.cap, .slice r_l0.2.1.a l0.Points.length r_l0.2.1.cap, .slice r_l0.2.2.1.a l0.Sections.length r_l0.2.2.1.cap, .slice r_l0.2.2.2.a l0.Links.length r_l0.2.2.2.cap], own ba_j1 128 [.int .i64 x2.A, .int .i64 x2.AEnd], own bb_j1 128 [.int .i64 x2.B, .int .i64 x2.BEnd]]) (R := fun g => ref1_linkError_k1 x2 i0 l0 g.1 = some y) ?_ ?_
    · intro KJ1 hJ1
      refine cw_region_any _ (List.Sublist.refl _) ?_
      refine aw_ev 0 rfl (ev_field_addr 0) ?_
      refine aw_ev 1 rfl (ev_load_own (b := b4)) ?_
      refine aw_ev 2 rfl (ev_field_addr 1) ?_
      refine aw_ev 3 rfl (ev_load_own (b := b4)) ?_
      refine aw_ev 4 rfl (ev_build [.int .i64 x2.A, .int .i64 x2.AEnd]) ?_
      refine aw_ev 5 rfl (ev_field_addr 2) ?_
      refine aw_ev 6 rfl (ev_load_own (b := b4)) ?_
      refine aw_ev 7 rfl (ev_field_addr 3) ?_
      refine aw_ev 8 rfl (ev_load_own (b := b4)) ?_
      refine aw_ev 9 rfl (ev_build [.int .i64 x2.B, .int .i64 x2.BEnd]) ?_
      refine aw_two 10 11 (⟨_, rfl, rfl, st_alloc rfl (k := fun b38 => ⟨fun w hm => hm.sub (by repeat (first | exact List.Sublist.refl _ | apply List.Sublist.cons_cons | apply List.Sublist.cons)), ?_⟩)⟩) (⟨_, rfl, rfl, st_alloc rfl (k := fun b39 => ⟨fun w hm => hm.sub (by repeat (first | exact List.Sublist.refl _ | apply List.Sublist.cons_cons | apply List.Sublist.cons)), ?_⟩)⟩)
      ·
        refine aw_one 11 rfl (st_alloc rfl (k := fun b40 => ⟨fun w hm => hm.sub (by repeat (first | exact List.Sublist.refl _ | apply List.Sublist.cons_cons | apply List.Sublist.cons)), ?_⟩))
        refine aw_one 12 rfl (st_store_all (b := b38) (vs := [.int .i64 x2.A, .int .i64 x2.AEnd]) (k := ⟨fun w hm => hm.sub (by repeat (first | exact List.Sublist.refl _ | apply List.Sublist.cons_cons | apply List.Sublist.cons)), ?_⟩))
        refine aw_one 13 rfl (st_store_all (b := b40) (vs := [.int .i64 x2.B, .int .i64 x2.BEnd]) (k := ⟨fun w hm => hm.sub (by repeat (first | exact List.Sublist.refl _ | apply List.Sublist.cons_cons | apply List.Sublist.cons)), ?_⟩))
        refine aw_done (hJ1 ((), (b38, b40)) _ _ hM ⟨rfl, rfl, rfl, rfl, trivial⟩ (fun w hm => hm.reord))
      ·
        refine aw_one 10 rfl (st_alloc rfl (k := fun b41 => ⟨fun w hm => hm.sub (by repeat (first | exact List.Sublist.refl _ | apply List.Sublist.cons_cons | apply List.Sublist.cons)), ?_⟩))
        refine aw_one 12 rfl (st_store_all (b := b41) (vs := [.int .i64 x2.A, .int .i64 x2.AEnd]) (k := ⟨fun w hm => hm.sub (by repeat (first | exact List.Sublist.refl _ | apply List.Sublist.cons_cons | apply List.Sublist.cons)), ?_⟩))
        refine aw_one 13 rfl (st_store_all (b := b39) (vs := [.int .i64 x2.B, .int .i64 x2.BEnd]) (k := ⟨fun w hm => hm.sub (by repeat (first | exact List.Sublist.refl _ | apply List.Sublist.cons_cons | apply List.Sublist.cons)), ?_⟩))
        refine aw_done (hJ1 ((), (b41, b39)) _ _ hM ⟨rfl, rfl, rfl, rfl, trivial⟩ (fun w hm => hm.reord))
    ·
      clear hM
      intro g hM
      obtain ⟨⟨⟩, ⟨ba_j1, bb_j1⟩⟩ := g
      dsimp only at hM ⊢
      dsimp only [ref1_linkError_k1] at hM
      refine cw_seq fun K7 hK7 => ?_
      refine cw_seq fun K8 hK8 => ?_
      refine cw_region ?_
      refine ow_ev (ev_load_all (b := ba_j1)) ?_
      refine ow_ev (ev_load_all (b := bb_j1)) ?_
      refine ow_ev (ev_eqlF [.int .i64, .int .i64] (decide ((Ref1_end.mk x2.A x2.AEnd) = (Ref1_end.mk x2.B x2.BEnd))) (Ref1_end_eqv _ _)) ?_
      refine ow_nil (hK8 _ _ ?_); clear hK8
      refine cw_cond rfl (fun hc21 => ?_) (fun hc21 => ?_)
      ·
        replace hM := (ite_t hc21).symm.trans hM
        refine cw_seq fun K9 hK9 => ?_
        refine cw_region ?_
        refine ow_ev ev_assign ?_
        refine ow_nil (hK9 _ _ ?_); clear hK9
        obtain rfl := some_inj hM
        refine cw_ret (kw_retc1 (fun w hm => ret_of hm rfl))
      ·
        replace hM := (ite_f hc21).symm.trans hM
        refine cw_skip (hK7 _ _ ?_); clear hK7
        refine cw_seq fun K10 hK10 => ?_
        refine cw_seq fun K11 hK11 => ?_
        refine cw_region ?_
        refine ow_ev ev_assign ?_
        refine ow_nil (hK11 _ _ ?_); clear hK11
        refine cw_block ?_
        refine cw_loop (γ := Nat × Nat × Unit) (env := fun (_, j_1, _) => [(1, .v (.int .i64 i0)), (2, .v (.pointer (some ⟨b1, 0, none⟩))), (7, .v (.pointer (some ⟨ba_j1, 0, none⟩))), (8, .v (.pointer (some ⟨bb_j1, 0, none⟩))), (9, .v (.int .i64 (j_1 : Int)))]) (mem := fun (_, j_1, _) => [imm (α := (List Str)) r_l0.1 l0.Stations, imm (α := (List Str)) r_l0.2.1 l0.Points, imm (α := (List Section)) r_l0.2.2.1 l0.Sections, imm (α := (List Link)) r_l0.2.2.2 l0.Links, own b1 26 [.slice r_l0.1.a l0.Stations.length r_l0.1.cap, .slice r_l0.2.1.a l0.Points.length r_l0.2.1.cap, .slice r_l0.2.2.1.a l0.Sections.length r_l0.2.2.1.cap, .slice r_l0.2.2.2.a l0.Links.length r_l0.2.2.2.cap], own ba_j1 128 [.int .i64 x2.A, .int .i64 x2.AEnd], own bb_j1 128 [.int .i64 x2.B, .int .i64 x2.BEnd]]) (R := fun g => iter (ref1_linkError_b1 i0 l0 x2) g.1 g.2.1 = some y) (μ := fun g => g.1) (FUEL, 0, ()) hM ⟨rfl, rfl, rfl, rfl, rfl, trivial⟩ (fun w hm => hm.reord) ?_
        clear hM
        intro g hM KL1 hL1
        obtain ⟨nn1, j_1, ⟨⟩⟩ := g
        dsimp only at hM ⊢
        obtain ⟨nn1, cont1, rfl, hcont1, hM⟩ := iter_open' hM
        dsimp only [ref1_linkError_b1] at hM
        refine cw_seq fun K12 hK12 => ?_
        refine cw_seq fun K13 hK13 => ?_
        refine cw_region ?_
        refine ow_ev ev_move ?_
        refine ow_ev ev_move ?_
        refine ow_ev ev_lss ?_
        refine ow_nil (hK13 _ _ ?_); clear hK13
        refine cw_cond rfl (fun hc22 => ?_) (fun hc22 => ?_)
        ·
          replace hM := (ite_t hc22).symm.trans hM
          refine cw_skip (hK12 _ _ ?_); clear hK12
          refine cw_seq fun K14 hK14 => ?_
          refine cw_block ?_
          refine cw_seq fun K15 hK15 => ?_
          refine cw_region_any _ (List.Sublist.refl _) ?_
          refine aw_ev 0 rfl (ev_field_addr 3) ?_
          refine aw_ev 1 rfl (ev_load_own (b := b1)) ?_
          refine aw_ev 2 rfl ev_move ?_
          obtain ⟨x23, hx24, hM⟩ := bind_some hM
          refine aw_ev 3 rfl (ev_idx (xs := l0.Links) 6 (Kn.imm (α := List Link) (r := r_l0.2.2.2) (x := l0.Links) (by repeat (first | exact Has.head | apply Has.tail))) (fun hg => let h := idx_some hx24; ⟨h.1, h.2.1⟩)) ?_
          refine aw_ev 4 rfl (ev_lds (m := 6) (i := (j_1 : Int)) (xs := l0.Links) (y := x23) (l := [.int .i64 x23.A, .int .i64 x23.AEnd, .int .i64 x23.B, .int .i64 x23.BEnd, .int .i64 x23.Point, .int .i64 x23.Pos]) 0 (Kn.imm (α := List Link) (r := r_l0.2.2.2) (x := l0.Links) (by repeat (first | exact Has.head | apply Has.tail))) (fun _ => hx24)) ?_
          refine aw_ev 5 rfl (ev_load_all (b := ba_j1)) ?_
          obtain ⟨y25, hy26, hM⟩ := bind_some hM
          refine aw_one 6 rfl (st_callv (fun w hm => let ⟨S, hs⟩ := hm; ref1_has_spec _ w x23 (Ref1_end.mk x2.A x2.AEnd) y25 hy26 (lend_lt hs) ) ⟨fun w hm => hm.sub (by repeat (first | exact List.Sublist.refl _ | apply List.Sublist.cons_cons | apply List.Sublist.cons)), ?_⟩)
          refine aw_ev 7 rfl ev_move ?_
          refine aw_evg 8 rfl rfl (ev_field_addr 3) ?_
          refine aw_evg 9 rfl rfl (ev_load_own (b := b1)) ?_
          refine aw_evg 10 rfl rfl ev_move ?_
          obtain ⟨x27, hx28, hM⟩ := bind_some hM
          refine aw_evg 11 rfl rfl (ev_idx (xs := l0.Links) 6 (Kn.imm (α := List Link) (r := r_l0.2.2.2) (x := l0.Links) (by repeat (first | exact Has.head | apply Has.tail))) (fun hg => let h := idx_some (whn_some hx28 hg); ⟨h.1, h.2.1⟩)) ?_
          refine aw_evg 12 rfl rfl (ev_lds (m := 6) (i := (j_1 : Int)) (xs := l0.Links) (y := x27) (l := [.int .i64 x27.A, .int .i64 x27.AEnd, .int .i64 x27.B, .int .i64 x27.BEnd, .int .i64 x27.Point, .int .i64 x27.Pos]) 0 (Kn.imm (α := List Link) (r := r_l0.2.2.2) (x := l0.Links) (by repeat (first | exact Has.head | apply Has.tail))) (fun hg => whn_some hx28 hg)) ?_
          refine aw_evg 13 rfl rfl (ev_load_all (b := bb_j1)) ?_
          obtain ⟨y29, hy30, hM⟩ := bind_some hM
          refine aw_callg 14 rfl rfl (fun hg w hm => let ⟨S, hs⟩ := hm; ref1_has_spec _ w x27 (Ref1_end.mk x2.B x2.BEnd) y29 (whn_some hy30 hg) (lend_lt hs) ) ?_
          refine aw_ev 15 rfl ev_and ?_
          refine aw_done (hK15 _ _ ?_); clear hK15
          refine cw_cond rfl (fun hc31 => ?_) (fun hc31 => ?_)
          ·
            replace hM := (ite_t hc31).symm.trans hM
            refine cw_seq fun K16 hK16 => ?_
            refine cw_region ?_
            refine ow_ev ev_assign ?_
            refine ow_nil (hK16 _ _ ?_); clear hK16
            obtain rfl := some_inj hM
            refine cw_ret (kw_retc1 (fun w hm => ret_of hm rfl))
          ·
            replace hM := (ite_f hc31).symm.trans hM
            refine cw_skip (hK14 _ _ ?_); clear hK14
            refine cw_region ?_
            refine ow_ev ev_move ?_
            obtain ⟨hI32, hM⟩ := chk_some hM
            refine ow_ev (ev_add (hr := fun hg => i64b_I64 hI32)) ?_
            refine ow_ev ev_assign ?_
            refine ow_nil (hL1 (nn1, (j_1 + 1), ()) _ _ (eqc hcont1 hM) (Nat.lt_succ_self _) ⟨rfl, rfl, rfl, rfl, rfl, trivial⟩ (fun w hm => hm.reord))
        ·
          replace hM := (ite_f hc22).symm.trans hM
          refine cw_exit (hK10 _ _ ?_); clear hK10
          dsimp only [ref1_linkError_k2] at hM
          refine cw_seq fun K17 hK17 => ?_
          refine cw_seq fun K18 hK18 => ?_
          refine cw_region ?_
          refine ow_ev (ev_load_all (b := b1)) ?_
          refine ow_ev ev_move ?_
          refine ow_ev (ev_load_all (b := ba_j1)) ?_
          obtain ⟨y33, hy34, hM⟩ := bind_some hM
          refine ow_cons (st_callv (fun w hm => let ⟨S, hs⟩ := hm; ref1_free_spec _ w l0 r_l0 i0 (Ref1_end.mk x2.A x2.AEnd) y33 hy34 (lend_lt hs) ⟨(Kn.lend (Kn.imm (α := List Str) (r := r_l0.1) (x := l0.Stations) (by repeat (first | exact Has.head | apply Has.tail))) hs), (Kn.lend (Kn.imm (α := List Str) (r := r_l0.2.1) (x := l0.Points) (by repeat (first | exact Has.head | apply Has.tail))) hs), (Kn.lend (Kn.imm (α := List Section) (r := r_l0.2.2.1) (x := l0.Sections) (by repeat (first | exact Has.head | apply Has.tail))) hs), (Kn.lend (Kn.imm (α := List Link) (r := r_l0.2.2.2) (x := l0.Links) (by repeat (first | exact Has.head | apply Has.tail))) hs)⟩) ?_)
          refine ow_ev ev_not ?_
          refine ow_ev ev_move ?_
          refine ow_evg rfl (ev_load_all (b := b1)) ?_
          refine ow_evg rfl ev_move ?_
          refine ow_evg rfl (ev_load_all (b := bb_j1)) ?_
          obtain ⟨y35, hy36, hM⟩ := bind_some hM
          refine ow_callg rfl (fun hg w hm => let ⟨S, hs⟩ := hm; ref1_free_spec _ w l0 r_l0 i0 (Ref1_end.mk x2.B x2.BEnd) y35 (whn_some hy36 hg) (lend_lt hs) ⟨(Kn.lend (Kn.imm (α := List Str) (r := r_l0.1) (x := l0.Stations) (by repeat (first | exact Has.head | apply Has.tail))) hs), (Kn.lend (Kn.imm (α := List Str) (r := r_l0.2.1) (x := l0.Points) (by repeat (first | exact Has.head | apply Has.tail))) hs), (Kn.lend (Kn.imm (α := List Section) (r := r_l0.2.2.1) (x := l0.Sections) (by repeat (first | exact Has.head | apply Has.tail))) hs), (Kn.lend (Kn.imm (α := List Link) (r := r_l0.2.2.2) (x := l0.Links) (by repeat (first | exact Has.head | apply Has.tail))) hs)⟩) ?_
          refine ow_evg rfl ev_not ?_
          refine ow_ev ev_or ?_
          refine ow_nil (hK18 _ _ ?_); clear hK18
          refine cw_cond rfl (fun hc37 => ?_) (fun hc37 => ?_)
          ·
            replace hM := (ite_t hc37).symm.trans hM
            refine cw_seq fun K19 hK19 => ?_
            refine cw_region ?_
            refine ow_ev ev_assign ?_
            refine ow_nil (hK19 _ _ ?_); clear hK19
            obtain rfl := some_inj hM
            refine cw_ret (kw_retc1 (fun w hm => ret_of hm rfl))
          ·
            replace hM := (ite_f hc37).symm.trans hM
            refine cw_skip (hK17 _ _ ?_); clear hK17
            refine cw_seq fun K20 hK20 => ?_
            refine cw_region ?_
            refine ow_ev ev_assign ?_
            refine ow_nil (hK20 _ _ ?_); clear hK20
            obtain rfl := some_inj hM
            refine cw_ret (kw_retc1 (fun w hm => ret_of hm rfl))

def ref1_Check_k4 : Unit → Option Int := fun _ =>
  some 0
def ref1_Check_b4 (l0 : Layout) (cont4 : Nat → Option Int) : Nat → Option Int := fun i_4 =>
  if decide ((i_4 : Int) < (l0.Links.length : Int)) then
    ((ref1_linkError_m l0 (i_4 : Int)).bind fun y36 =>
    if decide (y36 ≠ 0) then
      (some y36)
    else
      (chk (i64b ((i_4 : Int) + 1)) <|
      cont4 (i_4 + 1)))
  else
    (ref1_Check_k4 ())
def ref1_Check_k3 (l0 : Layout) : Unit → Option Int := fun _ =>
  iter (ref1_Check_b4 l0) FUEL 0
def ref1_Check_b3 (l0 : Layout) (y14 : (List Str)) (cont3 : Nat → Option Int) : Nat → Option Int := fun i_3 =>
  if decide ((i_3 : Int) < (l0.Sections.length : Int)) then
    ((ref1_names_m y14 (i_3 : Int)).bind fun y18 =>
    if decide (y18 ≠ 0) then
      (some y18)
    else
      ((idx l0.Sections (i_3 : Int)).bind fun x21 =>
      (ref1_in_m x21.Length 1 400).bind fun y24 =>
      (whn (!(!y24)) default (ref1_in_m x21.Limit 1000 100000)).bind fun y26 =>
      (whn (!((!y24) || (!y26))) default (ref1_in_m x21.Grade (-40) 40)).bind fun y28 =>
      chk (!(!(((!y24) || (!y26)) || (!y28))) || i64b ((l0.Stations.length : Int) - 1)) <|
      (whn (!(((!y24) || (!y26)) || (!y28))) default (ref1_in_m x21.Station (-1) ((l0.Stations.length : Int) - 1))).bind fun y31 =>
      if ((((!y24) || (!y26)) || (!y28)) || (!y31)) then
        (some 4)
      else
        (chk (i64b ((i_3 : Int) + 1)) <|
        cont3 (i_3 + 1))))
  else
    (ref1_Check_k3 l0 ())
def ref1_Check_k2 (l0 : Layout) : Unit → Option Int := fun _ =>
  (ref1_sectionNames_m l0).bind fun y14 =>
  iter (ref1_Check_b3 l0 y14) FUEL 0
def ref1_Check_b2 (l0 : Layout) (cont2 : Nat → Option Int) : Nat → Option Int := fun i_2 =>
  if decide ((i_2 : Int) < (l0.Points.length : Int)) then
    ((ref1_names_m l0.Points (i_2 : Int)).bind fun y10 =>
    if decide (y10 ≠ 0) then
      (some y10)
    else
      (chk (i64b ((i_2 : Int) + 1)) <|
      cont2 (i_2 + 1)))
  else
    (ref1_Check_k2 l0 ())
def ref1_Check_k1 (l0 : Layout) : Unit → Option Int := fun _ =>
  iter (ref1_Check_b2 l0) FUEL 0
def ref1_Check_b1 (l0 : Layout) (cont1 : Nat → Option Int) : Nat → Option Int := fun i_1 =>
  if decide ((i_1 : Int) < (l0.Stations.length : Int)) then
    ((ref1_names_m l0.Stations (i_1 : Int)).bind fun y5 =>
    if decide (y5 ≠ 0) then
      (some y5)
    else
      (chk (i64b ((i_1 : Int) + 1)) <|
      cont1 (i_1 + 1)))
  else
    (ref1_Check_k1 l0 ())
def ref1_Check_m (l0 : Layout) : Option Int :=
  if (((decide (24 < (l0.Stations.length : Int)) || decide (48 < (l0.Points.length : Int))) || decide (96 < (l0.Sections.length : Int))) || decide (192 < (l0.Links.length : Int))) then
    (some 7)
  else
    (if decide ((l0.Sections.length : Int) = 0) then
      (some 1)
    else
      (iter (ref1_Check_b1 l0) FUEL 0))
theorem ref1_Check_spec (S : Soup) (w : World) (l0 : Layout) (r_l0 : GoRep.R Layout) (y : Int) (hM : ref1_Check_m l0 = some y) (hS : ∀ k, S k → k < w.heap.size) (h_l0 : GoRep.ok S w r_l0 l0) :
    Calls Tryd.prog 27 #[.agg #[.slice r_l0.1.a l0.Stations.length r_l0.1.cap, .slice r_l0.2.1.a l0.Points.length r_l0.2.1.cap, .slice r_l0.2.2.1.a l0.Sections.length r_l0.2.2.1.cap, .slice r_l0.2.2.2.a l0.Links.length r_l0.2.2.2.cap]] w (Ret w (.int .i64 y)) := by
  refine calls_cw (args := [_]) Tryd.func27 rfl ((pre_nil hS).start |>.immP (α := List Str) (r := r_l0.1) (x := l0.Stations) h_l0.1|>.immP (α := List Str) (r := r_l0.2.1) (x := l0.Points) h_l0.2.1|>.immP (α := List Section) (r := r_l0.2.2.1) (x := l0.Sections) h_l0.2.2.1|>.immP (α := List Link) (r := r_l0.2.2.2) (x := l0.Links) h_l0.2.2.2) rfl ?_
  unfold ref1_Check_m at hM
  refine cw_seq fun K1 hK1 => ?_
  refine cw_region ?_
  refine ow_cons (st_box (l := [.slice r_l0.1.a l0.Stations.length r_l0.1.cap, .slice r_l0.2.1.a l0.Points.length r_l0.2.1.cap, .slice r_l0.2.2.1.a l0.Sections.length r_l0.2.2.1.cap, .slice r_l0.2.2.2.a l0.Links.length r_l0.2.2.2.cap]) (k := fun b1 => ?_))
  refine ow_ev ev_assign ?_
  refine ow_nil (hK1 _ _ ?_); clear hK1
  refine cw_seq fun K2 hK2 => ?_
  refine cw_seq fun K3 hK3 => ?_
  refine cw_region ?_
  refine ow_ev (ev_field_addr 0) ?_
  refine ow_ev (ev_load_own (b := b1)) ?_
  refine ow_ev ev_len ?_
  refine ow_ev ev_gtr ?_
  refine ow_ev ev_move ?_
  refine ow_evg rfl (ev_field_addr 1) ?_
  refine ow_evg rfl (ev_load_own (b := b1)) ?_
  refine ow_evg rfl ev_len ?_
  refine ow_evg rfl ev_gtr ?_
  refine ow_ev ev_or ?_
  refine ow_ev ev_move ?_
  refine ow_evg rfl (ev_field_addr 2) ?_
  refine ow_evg rfl (ev_load_own (b := b1)) ?_
  refine ow_evg rfl ev_len ?_
  refine ow_evg rfl ev_gtr ?_
  refine ow_ev ev_or ?_
  refine ow_ev ev_move ?_
  refine ow_evg rfl (ev_field_addr 3) ?_
  refine ow_evg rfl (ev_load_own (b := b1)) ?_
  refine ow_evg rfl ev_len ?_
  refine ow_evg rfl ev_gtr ?_
  refine ow_ev ev_or ?_
  refine ow_nil (hK3 _ _ ?_); clear hK3
  refine cw_cond rfl (fun hc2 => ?_) (fun hc2 => ?_)
  ·
    replace hM := (ite_t hc2).symm.trans hM
    refine cw_seq fun K4 hK4 => ?_
    refine cw_region ?_
    refine ow_ev ev_assign ?_
    refine ow_nil (hK4 _ _ ?_); clear hK4
    obtain rfl := some_inj hM
    refine cw_ret (kw_retc1 (fun w hm => ret_of hm rfl))
  ·
    replace hM := (ite_f hc2).symm.trans hM
    refine cw_skip (hK2 _ _ ?_); clear hK2
    refine cw_seq fun K5 hK5 => ?_
    refine cw_seq fun K6 hK6 => ?_
    refine cw_region ?_
    refine ow_ev (ev_field_addr 2) ?_
    refine ow_ev (ev_load_own (b := b1)) ?_
    refine ow_ev ev_len ?_
    refine ow_ev ev_eql ?_
    refine ow_nil (hK6 _ _ ?_); clear hK6
    refine cw_cond rfl (fun hc3 => ?_) (fun hc3 => ?_)
    ·
      replace hM := (ite_t hc3).symm.trans hM
      refine cw_seq fun K7 hK7 => ?_
      refine cw_region ?_
      refine ow_ev ev_assign ?_
      refine ow_nil (hK7 _ _ ?_); clear hK7
      obtain rfl := some_inj hM
      refine cw_ret (kw_retc1 (fun w hm => ret_of hm rfl))
    ·
      replace hM := (ite_f hc3).symm.trans hM
      refine cw_skip (hK5 _ _ ?_); clear hK5
      refine cw_seq fun K8 hK8 => ?_
      refine cw_seq fun K9 hK9 => ?_
      refine cw_region ?_
      refine ow_ev ev_assign ?_
      refine ow_nil (hK9 _ _ ?_); clear hK9
      refine cw_block ?_
      refine cw_loop (γ := Nat × Nat × Unit) (env := fun (_, i_1, _) => [(1, .v (.pointer (some ⟨b1, 0, none⟩))), (3, .v (.int .i64 (i_1 : Int)))]) (mem := fun (_, i_1, _) => [imm (α := (List Str)) r_l0.1 l0.Stations, imm (α := (List Str)) r_l0.2.1 l0.Points, imm (α := (List Section)) r_l0.2.2.1 l0.Sections, imm (α := (List Link)) r_l0.2.2.2 l0.Links, own b1 26 [.slice r_l0.1.a l0.Stations.length r_l0.1.cap, .slice r_l0.2.1.a l0.Points.length r_l0.2.1.cap, .slice r_l0.2.2.1.a l0.Sections.length r_l0.2.2.1.cap, .slice r_l0.2.2.2.a l0.Links.length r_l0.2.2.2.cap]]) (R := fun g => iter (ref1_Check_b1 l0) g.1 g.2.1 = some y) (μ := fun g => g.1) (FUEL, 0, ()) hM ⟨rfl, rfl, trivial⟩ (fun w hm => hm.reord) ?_
      clear hM
      intro g hM KL1 hL1
      obtain ⟨nn1, i_1, ⟨⟩⟩ := g
      dsimp only at hM ⊢
      obtain ⟨nn1, cont1, rfl, hcont1, hM⟩ := iter_open' hM
      dsimp only [ref1_Check_b1] at hM
      refine cw_seq fun K10 hK10 => ?_
      refine cw_seq fun K11 hK11 => ?_
      refine cw_region ?_
      refine ow_ev ev_move ?_
      refine ow_ev (ev_field_addr 0) ?_
      refine ow_ev (ev_load_own (b := b1)) ?_
      refine ow_ev ev_len ?_
      refine ow_ev ev_lss ?_
      refine ow_nil (hK11 _ _ ?_); clear hK11
      refine cw_cond rfl (fun hc4 => ?_) (fun hc4 => ?_)
      ·
        replace hM := (ite_t hc4).symm.trans hM
        refine cw_skip (hK10 _ _ ?_); clear hK10
        refine cw_seq fun K12 hK12 => ?_
        refine cw_block ?_
        refine cw_seq fun K13 hK13 => ?_
        refine cw_region ?_
        refine ow_ev (ev_field_addr 0) ?_
        refine ow_ev (ev_load_own (b := b1)) ?_
        refine ow_ev ev_move ?_
        obtain ⟨y5, hy6, hM⟩ := bind_some hM
        refine ow_cons (st_callv (fun w hm => let ⟨S, hs⟩ := hm; ref1_names_spec _ w l0.Stations r_l0.1 (i_1 : Int) y5 hy6 (lend_lt hs) (Kn.lend (Kn.imm (α := List Str) (r := r_l0.1) (x := l0.Stations) (by repeat (first | exact Has.head | apply Has.tail))) hs)) ?_)
        refine ow_ev ev_assign ?_
        refine ow_nil (hK13 _ _ ?_); clear hK13
        refine cw_seq fun K14 hK14 => ?_
        refine cw_region ?_
        refine ow_ev ev_move ?_
        refine ow_ev ev_neq ?_
        refine ow_nil (hK14 _ _ ?_); clear hK14
        refine cw_cond rfl (fun hc7 => ?_) (fun hc7 => ?_)
        ·
          replace hM := (ite_t hc7).symm.trans hM
          refine cw_seq fun K15 hK15 => ?_
          refine cw_region ?_
          refine ow_ev ev_move ?_
          refine ow_ev ev_assign ?_
          refine ow_nil (hK15 _ _ ?_); clear hK15
          obtain rfl := some_inj hM
          refine cw_ret (kw_retc1 (fun w hm => ret_of hm rfl))
        ·
          replace hM := (ite_f hc7).symm.trans hM
          refine cw_skip (hK12 _ _ ?_); clear hK12
          refine cw_region ?_
          refine ow_ev ev_move ?_
          obtain ⟨hI8, hM⟩ := chk_some hM
          refine ow_ev (ev_add (hr := fun hg => i64b_I64 hI8)) ?_
          refine ow_ev ev_assign ?_
          refine ow_nil (hL1 (nn1, (i_1 + 1), ()) _ _ (eqc hcont1 hM) (Nat.lt_succ_self _) ⟨rfl, rfl, trivial⟩ (fun w hm => hm.reord))
      ·
        replace hM := (ite_f hc4).symm.trans hM
        refine cw_exit (hK8 _ _ ?_); clear hK8
        dsimp only [ref1_Check_k1] at hM
        refine cw_seq fun K16 hK16 => ?_
        refine cw_seq fun K17 hK17 => ?_
        refine cw_region ?_
        refine ow_ev ev_assign ?_
        refine ow_nil (hK17 _ _ ?_); clear hK17
        refine cw_block ?_
        refine cw_loop (γ := Nat × Nat × Unit) (env := fun (_, i_2, _) => [(1, .v (.pointer (some ⟨b1, 0, none⟩))), (5, .v (.int .i64 (i_2 : Int)))]) (mem := fun (_, i_2, _) => [imm (α := (List Str)) r_l0.1 l0.Stations, imm (α := (List Str)) r_l0.2.1 l0.Points, imm (α := (List Section)) r_l0.2.2.1 l0.Sections, imm (α := (List Link)) r_l0.2.2.2 l0.Links, own b1 26 [.slice r_l0.1.a l0.Stations.length r_l0.1.cap, .slice r_l0.2.1.a l0.Points.length r_l0.2.1.cap, .slice r_l0.2.2.1.a l0.Sections.length r_l0.2.2.1.cap, .slice r_l0.2.2.2.a l0.Links.length r_l0.2.2.2.cap]]) (R := fun g => iter (ref1_Check_b2 l0) g.1 g.2.1 = some y) (μ := fun g => g.1) (FUEL, 0, ()) hM ⟨rfl, rfl, trivial⟩ (fun w hm => hm.reord) ?_
        clear hM
        intro g hM KL2 hL2
        obtain ⟨nn2, i_2, ⟨⟩⟩ := g
        dsimp only at hM ⊢
        obtain ⟨nn2, cont2, rfl, hcont2, hM⟩ := iter_open' hM
        dsimp only [ref1_Check_b2] at hM
        refine cw_seq fun K18 hK18 => ?_
        refine cw_seq fun K19 hK19 => ?_
        refine cw_region ?_
        refine ow_ev ev_move ?_
        refine ow_ev (ev_field_addr 1) ?_
        refine ow_ev (ev_load_own (b := b1)) ?_
        refine ow_ev ev_len ?_
        refine ow_ev ev_lss ?_
        refine ow_nil (hK19 _ _ ?_); clear hK19
        refine cw_cond rfl (fun hc9 => ?_) (fun hc9 => ?_)
        ·
          replace hM := (ite_t hc9).symm.trans hM
          refine cw_skip (hK18 _ _ ?_); clear hK18
          refine cw_seq fun K20 hK20 => ?_
          refine cw_block ?_
          refine cw_seq fun K21 hK21 => ?_
          refine cw_region ?_
          refine ow_ev (ev_field_addr 1) ?_
          refine ow_ev (ev_load_own (b := b1)) ?_
          refine ow_ev ev_move ?_
          obtain ⟨y10, hy11, hM⟩ := bind_some hM
          refine ow_cons (st_callv (fun w hm => let ⟨S, hs⟩ := hm; ref1_names_spec _ w l0.Points r_l0.2.1 (i_2 : Int) y10 hy11 (lend_lt hs) (Kn.lend (Kn.imm (α := List Str) (r := r_l0.2.1) (x := l0.Points) (by repeat (first | exact Has.head | apply Has.tail))) hs)) ?_)
          refine ow_ev ev_assign ?_
          refine ow_nil (hK21 _ _ ?_); clear hK21
          refine cw_seq fun K22 hK22 => ?_
          refine cw_region ?_
          refine ow_ev ev_move ?_
          refine ow_ev ev_neq ?_
          refine ow_nil (hK22 _ _ ?_); clear hK22
          refine cw_cond rfl (fun hc12 => ?_) (fun hc12 => ?_)
          ·
            replace hM := (ite_t hc12).symm.trans hM
            refine cw_seq fun K23 hK23 => ?_
            refine cw_region ?_
            refine ow_ev ev_move ?_
            refine ow_ev ev_assign ?_
            refine ow_nil (hK23 _ _ ?_); clear hK23
            obtain rfl := some_inj hM
            refine cw_ret (kw_retc1 (fun w hm => ret_of hm rfl))
          ·
            replace hM := (ite_f hc12).symm.trans hM
            refine cw_skip (hK20 _ _ ?_); clear hK20
            refine cw_region ?_
            refine ow_ev ev_move ?_
            obtain ⟨hI13, hM⟩ := chk_some hM
            refine ow_ev (ev_add (hr := fun hg => i64b_I64 hI13)) ?_
            refine ow_ev ev_assign ?_
            refine ow_nil (hL2 (nn2, (i_2 + 1), ()) _ _ (eqc hcont2 hM) (Nat.lt_succ_self _) ⟨rfl, rfl, trivial⟩ (fun w hm => hm.reord))
        ·
          replace hM := (ite_f hc9).symm.trans hM
          refine cw_exit (hK16 _ _ ?_); clear hK16
          dsimp only [ref1_Check_k2] at hM
          refine cw_seq fun K24 hK24 => ?_
          refine cw_region ?_
          refine ow_ev (ev_load_all (b := b1)) ?_
          obtain ⟨y14, hy15, hM⟩ := bind_some hM
          refine ow_cons (st_callF SelL.nil (fun S w hs hP => ref1_sectionNames_spec _ w l0 r_l0 y14 hy15 (lend_lt hs) ⟨(Kn.lend (Kn.imm (α := List Str) (r := r_l0.1) (x := l0.Stations) (by repeat (first | exact Has.head | apply Has.tail))) hs), (Kn.lend (Kn.imm (α := List Str) (r := r_l0.2.1) (x := l0.Points) (by repeat (first | exact Has.head | apply Has.tail))) hs), (Kn.lend (Kn.imm (α := List Section) (r := r_l0.2.2.1) (x := l0.Sections) (by repeat (first | exact Has.head | apply Has.tail))) hs), (Kn.lend (Kn.imm (α := List Link) (r := r_l0.2.2.2) (x := l0.Links) (by repeat (first | exact Has.head | apply Has.tail))) hs)⟩) (by intro r c hc; simp only [List.mem_cons, List.not_mem_nil, or_false] at hc; rcases hc with rfl <;> first | exact flatC_own | exact flatC_trow (fun _ _ _ _ => trivial)) (fun r16 => ?_))
          dsimp only [List.cons_append, List.nil_append]
          refine ow_ev ev_assign ?_
          refine ow_nil (hK24 _ _ ?_); clear hK24
          refine cw_seq fun K25 hK25 => ?_
          refine cw_seq fun K26 hK26 => ?_
          refine cw_region ?_
          refine ow_ev ev_assign ?_
          refine ow_nil (hK26 _ _ ?_); clear hK26
          refine cw_block ?_
          refine cw_loop (γ := Nat × Nat × Unit) (env := fun (_, i_3, _) => [(1, .v (.pointer (some ⟨b1, 0, none⟩))), (7, .v (.slice r16.a y14.length r16.cap)), (8, .v (.int .i64 (i_3 : Int)))]) (mem := fun (_, i_3, _) => [imm (α := (List Str)) r_l0.1 l0.Stations, imm (α := (List Str)) r_l0.2.1 l0.Points, imm (α := (List Section)) r_l0.2.2.1 l0.Sections, imm (α := (List Link)) r_l0.2.2.2 l0.Links, own b1 26 [.slice r_l0.1.a l0.Stations.length r_l0.1.cap, .slice r_l0.2.1.a l0.Points.length r_l0.2.1.cap, .slice r_l0.2.2.1.a l0.Sections.length r_l0.2.2.1.cap, .slice r_l0.2.2.2.a l0.Links.length r_l0.2.2.2.cap], trow 9 r16 y14]) (R := fun g => iter (ref1_Check_b3 l0 y14) g.1 g.2.1 = some y) (μ := fun g => g.1) (FUEL, 0, ()) hM ⟨rfl, rfl, rfl, trivial⟩ (fun w hm => hm.reord) ?_
          clear hM
          intro g hM KL3 hL3
          obtain ⟨nn3, i_3, ⟨⟩⟩ := g
          dsimp only at hM ⊢
          obtain ⟨nn3, cont3, rfl, hcont3, hM⟩ := iter_open' hM
          dsimp only [ref1_Check_b3] at hM
          refine cw_seq fun K27 hK27 => ?_
          refine cw_seq fun K28 hK28 => ?_
          refine cw_region ?_
          refine ow_ev ev_move ?_
          refine ow_ev (ev_field_addr 2) ?_
          refine ow_ev (ev_load_own (b := b1)) ?_
          refine ow_ev ev_len ?_
          refine ow_ev ev_lss ?_
          refine ow_nil (hK28 _ _ ?_); clear hK28
          refine cw_cond rfl (fun hc17 => ?_) (fun hc17 => ?_)
          ·
            replace hM := (ite_t hc17).symm.trans hM
            refine cw_skip (hK27 _ _ ?_); clear hK27
            refine cw_seq fun K29 hK29 => ?_
            refine cw_block ?_
            refine cw_seq fun K30 hK30 => ?_
            refine cw_seq fun K31 hK31 => ?_
            refine cw_region ?_
            refine ow_ev ev_move ?_
            refine ow_ev ev_move ?_
            obtain ⟨y18, hy19, hM⟩ := bind_some hM
            refine ow_cons (st_callv (fun w hm => let ⟨S, hs⟩ := hm; ref1_names_spec _ w y14 r16 (i_3 : Int) y18 hy19 (lend_lt hs) (Kn.lend (Kn.trow (e := 9) (r := r16) (by repeat (first | exact Has.head | apply Has.tail))) hs)) ?_)
            refine ow_ev ev_assign ?_
            refine ow_nil (hK31 _ _ ?_); clear hK31
            refine cw_seq fun K32 hK32 => ?_
            refine cw_region ?_
            refine ow_ev ev_move ?_
            refine ow_ev ev_neq ?_
            refine ow_nil (hK32 _ _ ?_); clear hK32
            refine cw_cond rfl (fun hc20 => ?_) (fun hc20 => ?_)
            ·
              replace hM := (ite_t hc20).symm.trans hM
              refine cw_seq fun K33 hK33 => ?_
              refine cw_region ?_
              refine ow_ev ev_move ?_
              refine ow_ev ev_assign ?_
              refine ow_nil (hK33 _ _ ?_); clear hK33
              obtain rfl := some_inj hM
              refine cw_ret (kw_retc1 (fun w hm => ret_of hm rfl))
            ·
              replace hM := (ite_f hc20).symm.trans hM
              refine cw_skip (hK30 _ _ ?_); clear hK30
              refine cw_seq fun K34 hK34 => ?_
              refine cw_region ?_
              refine ow_ev (ev_field_addr 2) ?_
              refine ow_ev (ev_load_own (b := b1)) ?_
              refine ow_ev ev_move ?_
              obtain ⟨x21, hx22, hM⟩ := bind_some hM
              refine ow_ev (ev_idx (xs := l0.Sections) 5 (Kn.imm (α := List Section) (r := r_l0.2.2.1) (x := l0.Sections) (by repeat (first | exact Has.head | apply Has.tail))) (fun hg => let h := idx_some hx22; ⟨h.1, h.2.1⟩)) ?_
              refine ow_ev (ev_lds (m := 5) (i := (i_3 : Int)) (xs := l0.Sections) (y := x21) (l := [.string x21.Name.ba, .int .i64 x21.Length, .int .i64 x21.Limit, .int .i64 x21.Grade, .int .i64 x21.Station]) 0 (Kn.imm (α := List Section) (r := r_l0.2.2.1) (x := l0.Sections) (by repeat (first | exact Has.head | apply Has.tail))) (fun _ => hx22)) ?_
              refine ow_cons (st_alloc rfl (k := fun b23 => ?_))
              refine ow_cons (st_store_all (b := b23) (vs := [.string x21.Name.ba, .int .i64 x21.Length, .int .i64 x21.Limit, .int .i64 x21.Grade, .int .i64 x21.Station]) (k := ?_))
              refine ow_nil (hK34 _ _ ?_); clear hK34
              refine cw_seq fun K35 hK35 => ?_
              refine cw_region ?_
              refine ow_ev (ev_field_addr 1) ?_
              refine ow_ev (ev_load_own (b := b23)) ?_
              obtain ⟨y24, hy25, hM⟩ := bind_some hM
              refine ow_cons (st_callv (fun w hm => let ⟨S, hs⟩ := hm; ref1_in_spec _ w x21.Length 1 400 y24 hy25 (lend_lt hs) ) ?_)
              refine ow_ev ev_not ?_
              refine ow_ev ev_move ?_
              refine ow_evg rfl (ev_field_addr 2) ?_
              refine ow_evg rfl (ev_load_own (b := b23)) ?_
              obtain ⟨y26, hy27, hM⟩ := bind_some hM
              refine ow_callg rfl (fun hg w hm => let ⟨S, hs⟩ := hm; ref1_in_spec _ w x21.Limit 1000 100000 y26 (whn_some hy27 hg) (lend_lt hs) ) ?_
              refine ow_evg rfl ev_not ?_
              refine ow_ev ev_or ?_
              refine ow_ev ev_move ?_
              refine ow_evg rfl (ev_field_addr 3) ?_
              refine ow_evg rfl (ev_load_own (b := b23)) ?_
              obtain ⟨y28, hy29, hM⟩ := bind_some hM
              refine ow_callg rfl (fun hg w hm => let ⟨S, hs⟩ := hm; ref1_in_spec _ w x21.Grade (-40) 40 y28 (whn_some hy29 hg) (lend_lt hs) ) ?_
              refine ow_evg rfl ev_not ?_
              refine ow_ev ev_or ?_
              refine ow_ev ev_move ?_
              refine ow_evg rfl (ev_field_addr 4) ?_
              refine ow_evg rfl (ev_load_own (b := b23)) ?_
              refine ow_evg rfl (ev_field_addr 0) ?_
              refine ow_evg rfl (ev_load_own (b := b1)) ?_
              refine ow_evg rfl ev_len ?_
              obtain ⟨hI30, hM⟩ := chk_some hM
              refine ow_evg rfl (ev_sub (hr := fun hg => i64b_I64 (gor hI30 hg))) ?_
              obtain ⟨y31, hy32, hM⟩ := bind_some hM
              refine ow_callg rfl (fun hg w hm => let ⟨S, hs⟩ := hm; ref1_in_spec _ w x21.Station (-1) ((l0.Stations.length : Int) - 1) y31 (whn_some hy32 hg) (lend_lt hs) ) ?_
              refine ow_evg rfl ev_not ?_
              refine ow_ev ev_or ?_
              refine ow_nil (hK35 _ _ ?_); clear hK35
              refine cw_cond rfl (fun hc33 => ?_) (fun hc33 => ?_)
              ·
                replace hM := (ite_t hc33).symm.trans hM
                refine cw_seq fun K36 hK36 => ?_
                refine cw_region ?_
                refine ow_ev ev_assign ?_
                refine ow_nil (hK36 _ _ ?_); clear hK36
                obtain rfl := some_inj hM
                refine cw_ret (kw_retc1 (fun w hm => ret_of hm rfl))
              ·
                replace hM := (ite_f hc33).symm.trans hM
                refine cw_skip (hK29 _ _ ?_); clear hK29
                refine cw_region ?_
                refine ow_ev ev_move ?_
                obtain ⟨hI34, hM⟩ := chk_some hM
                refine ow_ev (ev_add (hr := fun hg => i64b_I64 hI34)) ?_
                refine ow_ev ev_assign ?_
                refine ow_nil (hL3 (nn3, (i_3 + 1), ()) _ _ (eqc hcont3 hM) (Nat.lt_succ_self _) ⟨rfl, rfl, rfl, trivial⟩ (fun w hm => hm.reord))
          ·
            replace hM := (ite_f hc17).symm.trans hM
            refine cw_exit (hK25 _ _ ?_); clear hK25
            dsimp only [ref1_Check_k3] at hM
            refine cw_seq fun K37 hK37 => ?_
            refine cw_seq fun K38 hK38 => ?_
            refine cw_region ?_
            refine ow_ev ev_assign ?_
            refine ow_nil (hK38 _ _ ?_); clear hK38
            refine cw_block ?_
            refine cw_loop (γ := Nat × Nat × Unit) (env := fun (_, i_4, _) => [(1, .v (.pointer (some ⟨b1, 0, none⟩))), (11, .v (.int .i64 (i_4 : Int)))]) (mem := fun (_, i_4, _) => [imm (α := (List Str)) r_l0.1 l0.Stations, imm (α := (List Str)) r_l0.2.1 l0.Points, imm (α := (List Section)) r_l0.2.2.1 l0.Sections, imm (α := (List Link)) r_l0.2.2.2 l0.Links, own b1 26 [.slice r_l0.1.a l0.Stations.length r_l0.1.cap, .slice r_l0.2.1.a l0.Points.length r_l0.2.1.cap, .slice r_l0.2.2.1.a l0.Sections.length r_l0.2.2.1.cap, .slice r_l0.2.2.2.a l0.Links.length r_l0.2.2.2.cap]]) (R := fun g => iter (ref1_Check_b4 l0) g.1 g.2.1 = some y) (μ := fun g => g.1) (FUEL, 0, ()) hM ⟨rfl, rfl, trivial⟩ (fun w hm => hm.reord) ?_
            clear hM
            intro g hM KL4 hL4
            obtain ⟨nn4, i_4, ⟨⟩⟩ := g
            dsimp only at hM ⊢
            obtain ⟨nn4, cont4, rfl, hcont4, hM⟩ := iter_open' hM
            dsimp only [ref1_Check_b4] at hM
            refine cw_seq fun K39 hK39 => ?_
            refine cw_seq fun K40 hK40 => ?_
            refine cw_region ?_
            refine ow_ev ev_move ?_
            refine ow_ev (ev_field_addr 3) ?_
            refine ow_ev (ev_load_own (b := b1)) ?_
            refine ow_ev ev_len ?_
            refine ow_ev ev_lss ?_
            refine ow_nil (hK40 _ _ ?_); clear hK40
            refine cw_cond rfl (fun hc35 => ?_) (fun hc35 => ?_)
            ·
              replace hM := (ite_t hc35).symm.trans hM
              refine cw_skip (hK39 _ _ ?_); clear hK39
              refine cw_seq fun K41 hK41 => ?_
              refine cw_block ?_
              refine cw_seq fun K42 hK42 => ?_
              refine cw_region ?_
              refine ow_ev (ev_load_all (b := b1)) ?_
              refine ow_ev ev_move ?_
              obtain ⟨y36, hy37, hM⟩ := bind_some hM
              refine ow_cons (st_callv (fun w hm => let ⟨S, hs⟩ := hm; ref1_linkError_spec _ w l0 r_l0 (i_4 : Int) y36 hy37 (lend_lt hs) ⟨(Kn.lend (Kn.imm (α := List Str) (r := r_l0.1) (x := l0.Stations) (by repeat (first | exact Has.head | apply Has.tail))) hs), (Kn.lend (Kn.imm (α := List Str) (r := r_l0.2.1) (x := l0.Points) (by repeat (first | exact Has.head | apply Has.tail))) hs), (Kn.lend (Kn.imm (α := List Section) (r := r_l0.2.2.1) (x := l0.Sections) (by repeat (first | exact Has.head | apply Has.tail))) hs), (Kn.lend (Kn.imm (α := List Link) (r := r_l0.2.2.2) (x := l0.Links) (by repeat (first | exact Has.head | apply Has.tail))) hs)⟩) ?_)
              refine ow_ev ev_assign ?_
              refine ow_nil (hK42 _ _ ?_); clear hK42
              refine cw_seq fun K43 hK43 => ?_
              refine cw_region ?_
              refine ow_ev ev_move ?_
              refine ow_ev ev_neq ?_
              refine ow_nil (hK43 _ _ ?_); clear hK43
              refine cw_cond rfl (fun hc38 => ?_) (fun hc38 => ?_)
              ·
                replace hM := (ite_t hc38).symm.trans hM
                refine cw_seq fun K44 hK44 => ?_
                refine cw_region ?_
                refine ow_ev ev_move ?_
                refine ow_ev ev_assign ?_
                refine ow_nil (hK44 _ _ ?_); clear hK44
                obtain rfl := some_inj hM
                refine cw_ret (kw_retc1 (fun w hm => ret_of hm rfl))
              ·
                replace hM := (ite_f hc38).symm.trans hM
                refine cw_skip (hK41 _ _ ?_); clear hK41
                refine cw_region ?_
                refine ow_ev ev_move ?_
                obtain ⟨hI39, hM⟩ := chk_some hM
                refine ow_ev (ev_add (hr := fun hg => i64b_I64 hI39)) ?_
                refine ow_ev ev_assign ?_
                refine ow_nil (hL4 (nn4, (i_4 + 1), ()) _ _ (eqc hcont4 hM) (Nat.lt_succ_self _) ⟨rfl, rfl, trivial⟩ (fun w hm => hm.reord))
            ·
              replace hM := (ite_f hc35).symm.trans hM
              refine cw_exit (hK37 _ _ ?_); clear hK37
              dsimp only [ref1_Check_k4] at hM
              refine cw_seq fun K45 hK45 => ?_
              refine cw_region ?_
              refine ow_ev ev_assign ?_
              refine ow_nil (hK45 _ _ ?_); clear hK45
              obtain rfl := some_inj hM
              refine cw_ret (kw_retc1 (fun w hm => ret_of hm rfl))

end Go.Proofs.YtohhihdjdelckaaDoor
