/- Models of functions, and that the code computes them. -/
import Derived.Test.YtnihhidbiepnhaaRo
namespace Go.Proofs.Ytnihhidbiepnhaa
open Go.Dc Go.RowKit
set_option maxRecDepth 10000
set_option linter.unusedVariables false
def ref6_used_k2 (i_1 : Nat) (cont1 : ((List Bool) × Nat) → Option (List Bool)) : (List Bool) → Option (List Bool) := fun lm_j2 =>
  chk (i64b ((i_1 : Int) + 1)) <|
  cont1 (lm_j2, i_1 + 1)
def ref6_used_k3 (l0 : Layout) (lm_1 : List Bool) (x9 : Step) (i_1 : Nat) (cont1 : ((List Bool) × Nat) → Option (List Bool)) : (Int × Int × Int × Int) → Option (List Bool) := fun (h_j3_0, h_j3_1, h_j3_2, h_j3_3) =>
  if decide (0 ≤ h_j3_2) then
    (chk (i64b ((l0.Sections.length : Int) + h_j3_2)) <|
    (idx (lm_1.set x9.Section.toNat true) ((l0.Sections.length : Int) + h_j3_2)).bind fun x16 =>
    ref6_used_k2 i_1 cont1 ((lm_1.set x9.Section.toNat true).set ((l0.Sections.length : Int) + h_j3_2).toNat true))
  else
    (ref6_used_k2 i_1 cont1 (lm_1.set x9.Section.toNat true))
def ref6_used_k1 (lm_1 : List Bool) : Unit → Option (List Bool) := fun _ =>
  some lm_1
def ref6_used_b1 (r0 : Route) (l0 : Layout) (cont1 : ((List Bool) × Nat) → Option (List Bool)) : ((List Bool) × Nat) → Option (List Bool) := fun (lm_1, i_1) =>
  if decide ((i_1 : Int) < (r0.Steps.length : Int)) then
    ((idx r0.Steps (i_1 : Int)).bind fun x9 =>
    (idx lm_1 x9.Section).bind fun x11 =>
    if decide (0 < (i_1 : Int)) then
      (chk (i64b ((i_1 : Int) - 1)) <|
      (idx r0.Steps ((i_1 : Int) - 1)).bind fun x19 =>
      (idx r0.Steps (i_1 : Int)).bind fun x21 =>
      (ref6_joined_m l0 x19 x21).bind fun y23 =>
      ref6_used_k3 l0 lm_1 x9 i_1 cont1 (y23.1.To.Section, y23.1.To.Dir, y23.1.Point, y23.1.Pos))
    else
      (ref6_used_k2 i_1 cont1 (lm_1.set x9.Section.toNat true)))
  else
    (ref6_used_k1 lm_1 ())
def ref6_used_m (l0 : Layout) (r0 : Route) : Option (List Bool) :=
  chk (i64b ((l0.Sections.length : Int) + (l0.Points.length : Int))) <|
  (mk (α := Bool) false ((l0.Sections.length : Int) + (l0.Points.length : Int))).bind fun m4 =>
  iter (ref6_used_b1 r0 l0) FUEL (m4, 0)
theorem ref6_used_spec (S : Soup) (w : World) (l0 : Layout) (r_l0 : GoRep.R Layout) (r0 : Route) (r_r0 : GoRep.R Route) (y : (List Bool)) (hM : ref6_used_m l0 r0 = some y) (hS : ∀ k, S k → k < w.heap.size) (h_l0 : GoRep.ok S w r_l0 l0) (h_r0 : GoRep.ok S w r_r0 r0) :
    Calls Try.prog 86 #[.agg #[.slice r_l0.1.a l0.Stations.length r_l0.1.cap, .slice r_l0.2.1.a l0.Points.length r_l0.2.1.cap, .slice r_l0.2.2.1.a l0.Sections.length r_l0.2.2.1.cap, .slice r_l0.2.2.2.a l0.Links.length r_l0.2.2.2.cap], .agg #[.slice r_r0.a r0.Steps.length r_r0.cap, .int .i64 r0.Overlap]] w (Post (β := (GoRep.R (List Bool))) S [] (fun g => .slice g.a y.length g.cap) (fun g => [trow 4 g y]) w) := by
  refine calls_cw (args := [_, _]) Try.func86 rfl ((pre_nil hS).start |>.immP (α := List Str) (r := r_l0.1) (x := l0.Stations) h_l0.1|>.immP (α := List Str) (r := r_l0.2.1) (x := l0.Points) h_l0.2.1|>.immP (α := List Section) (r := r_l0.2.2.1) (x := l0.Sections) h_l0.2.2.1|>.immP (α := List Link) (r := r_l0.2.2.2) (x := l0.Links) h_l0.2.2.2|>.immP (α := List Step) (r := r_r0) (x := r0.Steps) h_r0) rfl ?_
  unfold ref6_used_m at hM
  refine cw_seq fun K1 hK1 => ?_
  refine cw_region ?_
  refine ow_cons (st_box (l := [.slice r_l0.1.a l0.Stations.length r_l0.1.cap, .slice r_l0.2.1.a l0.Points.length r_l0.2.1.cap, .slice r_l0.2.2.1.a l0.Sections.length r_l0.2.2.1.cap, .slice r_l0.2.2.2.a l0.Links.length r_l0.2.2.2.cap]) (k := fun b1 => ?_))
  refine ow_cons (st_box (l := [.slice r_r0.a r0.Steps.length r_r0.cap, .int .i64 r0.Overlap]) (k := fun b2 => ?_))
  refine ow_ev ev_assign ?_
  refine ow_nil (hK1 _ _ ?_); clear hK1
  refine cw_seq fun K2 hK2 => ?_
  refine cw_region ?_
  refine ow_ev (ev_field_addr 2) ?_
  refine ow_ev (ev_load_own (b := b1)) ?_
  refine ow_ev ev_len ?_
  refine ow_ev (ev_field_addr 1) ?_
  refine ow_ev (ev_load_own (b := b1)) ?_
  refine ow_ev ev_len ?_
  obtain ⟨hI3, hM⟩ := chk_some hM
  refine ow_ev (ev_add (hr := fun hg => i64b_I64 hI3)) ?_
  obtain ⟨m4, hm5, hM⟩ := bind_some hM
  refine ow_cons (st_make (α := Bool) (e := 4) false () hm5 (fun _ _ => trivial) (fun r6 hr6 => ?_))
  refine ow_ev ev_assign ?_
  refine ow_nil (hK2 _ _ ?_); clear hK2
  refine cw_seq fun K3 hK3 => ?_
  refine cw_seq fun K4 hK4 => ?_
  refine cw_region ?_
  refine ow_ev ev_assign ?_
  refine ow_nil (hK4 _ _ ?_); clear hK4
  refine cw_block ?_
  refine cw_loop (γ := Nat × ((List Bool) × Nat) × Unit) (env := fun (_, (lm_1, i_1), _) => [(2, .v (.pointer (some ⟨b1, 0, none⟩))), (3, .v (.pointer (some ⟨b2, 0, none⟩))), (5, .v (.slice r6.a lm_1.length r6.cap)), (6, .v (.int .i64 (i_1 : Int)))]) (mem := fun (_, (lm_1, i_1), _) => [imm (α := (List Str)) r_l0.1 l0.Stations, imm (α := (List Str)) r_l0.2.1 l0.Points, imm (α := (List Section)) r_l0.2.2.1 l0.Sections, imm (α := (List Link)) r_l0.2.2.2 l0.Links, own b1 28 [.slice r_l0.1.a l0.Stations.length r_l0.1.cap, .slice r_l0.2.1.a l0.Points.length r_l0.2.1.cap, .slice r_l0.2.2.1.a l0.Sections.length r_l0.2.2.1.cap, .slice r_l0.2.2.2.a l0.Links.length r_l0.2.2.2.cap], imm (α := (List Step)) r_r0 r0.Steps, own b2 48 [.slice r_r0.a r0.Steps.length r_r0.cap, .int .i64 r0.Overlap], trow 4 r6 lm_1]) (R := fun g => iter (ref6_used_b1 r0 l0) g.1 g.2.1 = some y) (μ := fun g => g.1) (FUEL, (m4, 0), ()) hM ⟨rfl, rfl, rfl, rfl, trivial⟩ (fun w hm => hm.reord) ?_
  clear hM
  intro g hM KL1 hL1
  obtain ⟨nn1, ⟨lm_1, i_1⟩, ⟨⟩⟩ := g
  dsimp only at hM ⊢
  obtain ⟨nn1, cont1, rfl, hcont1, hM⟩ := iter_open' hM
  dsimp only [ref6_used_b1] at hM
  refine cw_seq fun K5 hK5 => ?_
  refine cw_seq fun K6 hK6 => ?_
  refine cw_region ?_
  refine ow_ev ev_move ?_
  refine ow_ev (ev_field_addr 0) ?_
  refine ow_ev (ev_load_own (b := b2)) ?_
  refine ow_ev ev_len ?_
  refine ow_ev ev_lss ?_
  refine ow_nil (hK6 _ _ ?_); clear hK6
  refine cw_cond rfl (fun hc7 => ?_) (fun hc7 => ?_)
  ·
    replace hM := (ite_t hc7).symm.trans hM
    refine cw_skip (hK5 _ _ ?_); clear hK5
    refine cw_cut (γ := (List Bool) × Unit) (env := fun (lm_j2, _) => [(2, .v (.pointer (some ⟨b1, 0, none⟩))), (3, .v (.pointer (some ⟨b2, 0, none⟩))), (5, .v (.slice r6.a lm_j2.length r6.cap)), (6, .v (.int .i64 (i_1 : Int)))]) (mem := fun (lm_j2, _) => [imm (α := (List Str)) r_l0.1 l0.Stations, imm (α := (List Str)) r_l0.2.1 l0.Points, imm (α := (List Section)) r_l0.2.2.1 l0.Sections, imm (α := (List Link)) r_l0.2.2.2 l0.Links, own b1 28 [.slice r_l0.1.a l0.Stations.length r_l0.1.cap, .slice r_l0.2.1.a l0.Points.length r_l0.2.1.cap, .slice r_l0.2.2.1.a l0.Sections.length r_l0.2.2.1.cap, .slice r_l0.2.2.2.a l0.Links.length r_l0.2.2.2.cap], imm (α := (List Step)) r_r0 r0.Steps, own b2 48 [.slice r_r0.a r0.Steps.length r_r0.cap, .int .i64 r0.Overlap], trow 4 r6 lm_j2]) (R := fun g => ref6_used_k2 i_1 cont1 g.1 = some y) ?_ ?_
    · intro KJ2 hJ2
      refine cw_block ?_
      refine cw_seq fun K7 hK7 => ?_
      refine cw_region ?_
      refine ow_ev ev_move ?_
      refine ow_ev (ev_field_addr 0) ?_
      refine ow_ev (ev_load_own (b := b2)) ?_
      refine ow_ev ev_move ?_
      obtain ⟨x9, hx10, hM⟩ := bind_some hM
      refine ow_ev (ev_idx (xs := r0.Steps) 2 (Kn.imm (α := List Step) (r := r_r0) (x := r0.Steps) (by repeat (first | exact Has.head | apply Has.tail))) (fun hg => let h := idx_some hx10; ⟨h.1, h.2.1⟩)) ?_
      refine ow_ev (ev_field_addr 0) ?_
      refine ow_ev (ev_ld (i := (i_1 : Int)) (xs := r0.Steps) (y := x9) 0 (Kn.imm (α := List Step) (r := r_r0) (x := r0.Steps) (by repeat (first | exact Has.head | apply Has.tail))) (fun _ => hx10)) ?_
      obtain ⟨x11, hx12, hM⟩ := bind_some hM
      refine ow_ev (ev_idx (xs := lm_1) 1 (Kn.trow (e := 4) (r := r6) (by repeat (first | exact Has.head | apply Has.tail))) (fun hg => let h := idx_some hx12; ⟨h.1, h.2.1⟩)) ?_
      refine ow_cons (st_set (r := r6) (i := x9.Section) (xs := lm_1) (u := x11) (vs := [.bool true]) 0 true hx12 rfl (fun _ _ h => h) (by repeat (first | exact Upd.head | apply Upd.tail)) ?_)
      refine ow_nil (hK7 _ _ ?_); clear hK7
      refine cw_seq fun K8 hK8 => ?_
      refine cw_region ?_
      refine ow_ev ev_move ?_
      refine ow_ev ev_gtr ?_
      refine ow_nil (hK8 _ _ ?_); clear hK8
      refine cw_cond rfl (fun hc13 => ?_) (fun hc13 => ?_)
      ·
        replace hM := (ite_t hc13).symm.trans hM
        refine cw_cut (γ := (Int × Int × Int × Int) × Nat) (env := fun ((h_j3_0, h_j3_1, h_j3_2, h_j3_3), bh_j3) => [(2, .v (.pointer (some ⟨b1, 0, none⟩))), (3, .v (.pointer (some ⟨b2, 0, none⟩))), (5, .v (.slice r6.a ((lm_1.set x9.Section.toNat true).length) r6.cap)), (6, .v (.int .i64 (i_1 : Int))), (7, .v (.pointer (some ⟨bh_j3, 0, none⟩)))]) (mem := fun ((h_j3_0, h_j3_1, h_j3_2, h_j3_3), bh_j3) => [imm (α := (List Str)) r_l0.1 l0.Stations, imm (α := (List Str)) r_l0.2.1 l0.Points, imm (α := (List Section)) r_l0.2.2.1 l0.Sections, imm (α := (List Link)) r_l0.2.2.2 l0.Links, own b1 28 [.slice r_l0.1.a l0.Stations.length r_l0.1.cap, .slice r_l0.2.1.a l0.Points.length r_l0.2.1.cap, .slice r_l0.2.2.1.a l0.Sections.length r_l0.2.2.1.cap, .slice r_l0.2.2.2.a l0.Links.length r_l0.2.2.2.cap], imm (α := (List Step)) r_r0 r0.Steps, own b2 48 [.slice r_r0.a r0.Steps.length r_r0.cap, .int .i64 r0.Overlap], trow 4 r6 (lm_1.set x9.Section.toNat true), own bh_j3 43 [.int .i64 h_j3_0, .int .i64 h_j3_1, .int .i64 h_j3_2, .int .i64 h_j3_3]]) (R := fun g => ref6_used_k3 l0 lm_1 x9 i_1 cont1 g.1 = some y) ?_ ?_
        · intro KJ3 hJ3
          refine cw_region_any _ (List.Sublist.refl _) ?_
          refine aw_ev 0 rfl (ev_load_all (b := b1)) ?_
          refine aw_ev 1 rfl (ev_field_addr 0) ?_
          refine aw_ev 2 rfl (ev_load_own (b := b2)) ?_
          refine aw_ev 3 rfl ev_move ?_
          obtain ⟨hI18, hM⟩ := chk_some hM
          refine aw_ev 4 rfl (ev_sub (hr := fun hg => i64b_I64 hI18)) ?_
          obtain ⟨x19, hx20, hM⟩ := bind_some hM
          refine aw_ev 5 rfl (ev_idx (xs := r0.Steps) 2 (Kn.imm (α := List Step) (r := r_r0) (x := r0.Steps) (by repeat (first | exact Has.head | apply Has.tail))) (fun hg => let h := idx_some hx20; ⟨h.1, h.2.1⟩)) ?_
          refine aw_ev 6 rfl (ev_lds (m := 2) (i := ((i_1 : Int) - 1)) (xs := r0.Steps) (y := x19) (l := [.int .i64 x19.Section, .int .i64 x19.Dir]) 0 (Kn.imm (α := List Step) (r := r_r0) (x := r0.Steps) (by repeat (first | exact Has.head | apply Has.tail))) (fun _ => hx20)) ?_
          refine aw_ev 7 rfl (ev_field_addr 0) ?_
          refine aw_ev 8 rfl (ev_load_own (b := b2)) ?_
          refine aw_ev 9 rfl ev_move ?_
          obtain ⟨x21, hx22, hM⟩ := bind_some hM
          refine aw_ev 10 rfl (ev_idx (xs := r0.Steps) 2 (Kn.imm (α := List Step) (r := r_r0) (x := r0.Steps) (by repeat (first | exact Has.head | apply Has.tail))) (fun hg => let h := idx_some hx22; ⟨h.1, h.2.1⟩)) ?_
          refine aw_ev 11 rfl (ev_lds (m := 2) (i := (i_1 : Int)) (xs := r0.Steps) (y := x21) (l := [.int .i64 x21.Section, .int .i64 x21.Dir]) 0 (Kn.imm (α := List Step) (r := r_r0) (x := r0.Steps) (by repeat (first | exact Has.head | apply Has.tail))) (fun _ => hx22)) ?_
          obtain ⟨y23, hy24, hM⟩ := bind_some hM
          refine aw_two 12 16 (⟨_, rfl, rfl, st_callv (fun w hm => let ⟨S, hs⟩ := hm; ref6_joined_spec _ w l0 r_l0 x19 x21 y23 hy24 (lend_lt hs) ⟨(Kn.lend (Kn.imm (α := List Str) (r := r_l0.1) (x := l0.Stations) (by repeat (first | exact Has.head | apply Has.tail))) hs), (Kn.lend (Kn.imm (α := List Str) (r := r_l0.2.1) (x := l0.Points) (by repeat (first | exact Has.head | apply Has.tail))) hs), (Kn.lend (Kn.imm (α := List Section) (r := r_l0.2.2.1) (x := l0.Sections) (by repeat (first | exact Has.head | apply Has.tail))) hs), (Kn.lend (Kn.imm (α := List Link) (r := r_l0.2.2.2) (x := l0.Links) (by repeat (first | exact Has.head | apply Has.tail))) hs)⟩) ⟨fun w hm => hm.sub (by repeat (first | exact List.Sublist.refl _ | apply List.Sublist.cons_cons | apply List.Sublist.cons)), ?_⟩⟩) (⟨_, rfl, rfl, st_alloc rfl (k := fun b25 => ⟨fun w hm => hm.sub (by repeat (first | exact List.Sublist.refl _ | apply List.Sublist.cons_cons | apply List.Sublist.cons)), ?_⟩)⟩)
          ·
            refine aw_ev 13 rfl ev_move ?_
            refine aw_ev 14 rfl (ev_extract (vs := [.agg #[.int .i64 y23.1.To.Section, .int .i64 y23.1.To.Dir, .int .i64 y23.1.Point, .int .i64 y23.1.Pos], .bool y23.2])) ?_
            refine aw_ev 15 rfl (ev_extract (vs := [.agg #[.int .i64 y23.1.To.Section, .int .i64 y23.1.To.Dir, .int .i64 y23.1.Point, .int .i64 y23.1.Pos], .bool y23.2])) ?_
            refine aw_one 16 rfl (st_alloc rfl (k := fun b26 => ⟨fun w hm => hm.sub (by repeat (first | exact List.Sublist.refl _ | apply List.Sublist.cons_cons | apply List.Sublist.cons)), ?_⟩))
            refine aw_one 17 rfl (st_store_all (b := b26) (vs := [.int .i64 y23.1.To.Section, .int .i64 y23.1.To.Dir, .int .i64 y23.1.Point, .int .i64 y23.1.Pos]) (k := ⟨fun w hm => hm.sub (by repeat (first | exact List.Sublist.refl _ | apply List.Sublist.cons_cons | apply List.Sublist.cons)), ?_⟩))
            refine aw_ev 18 rfl ev_assign ?_
            refine aw_done (hJ3 ((y23.1.To.Section, y23.1.To.Dir, y23.1.Point, y23.1.Pos), b26) _ _ hM ⟨rfl, rfl, (by simp only [List.length_set]; rfl), rfl, rfl, trivial⟩ (fun w hm => hm.reord))
          ·
            refine aw_one 12 rfl (st_callv (fun w hm => let ⟨S, hs⟩ := hm; ref6_joined_spec _ w l0 r_l0 x19 x21 y23 hy24 (lend_lt hs) ⟨(Kn.lend (Kn.imm (α := List Str) (r := r_l0.1) (x := l0.Stations) (by repeat (first | exact Has.head | apply Has.tail))) hs), (Kn.lend (Kn.imm (α := List Str) (r := r_l0.2.1) (x := l0.Points) (by repeat (first | exact Has.head | apply Has.tail))) hs), (Kn.lend (Kn.imm (α := List Section) (r := r_l0.2.2.1) (x := l0.Sections) (by repeat (first | exact Has.head | apply Has.tail))) hs), (Kn.lend (Kn.imm (α := List Link) (r := r_l0.2.2.2) (x := l0.Links) (by repeat (first | exact Has.head | apply Has.tail))) hs)⟩) ⟨fun w hm => hm.sub (by repeat (first | exact List.Sublist.refl _ | apply List.Sublist.cons_cons | apply List.Sublist.cons)), ?_⟩)
            refine aw_ev 13 rfl ev_move ?_
            refine aw_ev 14 rfl (ev_extract (vs := [.agg #[.int .i64 y23.1.To.Section, .int .i64 y23.1.To.Dir, .int .i64 y23.1.Point, .int .i64 y23.1.Pos], .bool y23.2])) ?_
            refine aw_ev 15 rfl (ev_extract (vs := [.agg #[.int .i64 y23.1.To.Section, .int .i64 y23.1.To.Dir, .int .i64 y23.1.Point, .int .i64 y23.1.Pos], .bool y23.2])) ?_
            refine aw_one 17 rfl (st_store_all (b := b25) (vs := [.int .i64 y23.1.To.Section, .int .i64 y23.1.To.Dir, .int .i64 y23.1.Point, .int .i64 y23.1.Pos]) (k := ⟨fun w hm => hm.sub (by repeat (first | exact List.Sublist.refl _ | apply List.Sublist.cons_cons | apply List.Sublist.cons)), ?_⟩))
            refine aw_ev 18 rfl ev_assign ?_
            refine aw_done (hJ3 ((y23.1.To.Section, y23.1.To.Dir, y23.1.Point, y23.1.Pos), b25) _ _ hM ⟨rfl, rfl, (by simp only [List.length_set]; rfl), rfl, rfl, trivial⟩ (fun w hm => hm.reord))
        ·
          clear hM
          intro g hM
          obtain ⟨⟨h_j3_0, h_j3_1, h_j3_2, h_j3_3⟩, bh_j3⟩ := g
          dsimp only at hM ⊢
          dsimp only [ref6_used_k3] at hM
          refine cw_seq fun K9 hK9 => ?_
          refine cw_region ?_
          refine ow_ev (ev_field_addr 2) ?_
          refine ow_ev (ev_load_own (b := bh_j3)) ?_
          refine ow_ev ev_geq ?_
          refine ow_nil (hK9 _ _ ?_); clear hK9
          refine cw_cond rfl (fun hc14 => ?_) (fun hc14 => ?_)
          ·
            replace hM := (ite_t hc14).symm.trans hM
            refine cw_region ?_
            refine ow_ev ev_move ?_
            refine ow_ev (ev_field_addr 2) ?_
            refine ow_ev (ev_load_own (b := b1)) ?_
            refine ow_ev ev_len ?_
            refine ow_ev (ev_field_addr 2) ?_
            refine ow_ev (ev_load_own (b := bh_j3)) ?_
            obtain ⟨hI15, hM⟩ := chk_some hM
            refine ow_ev (ev_add (hr := fun hg => i64b_I64 hI15)) ?_
            obtain ⟨x16, hx17, hM⟩ := bind_some hM
            refine ow_ev (ev_idx (xs := (lm_1.set x9.Section.toNat true)) 1 (Kn.trow (e := 4) (r := r6) (by repeat (first | exact Has.head | apply Has.tail))) (fun hg => let h := idx_some hx17; ⟨h.1, h.2.1⟩)) ?_
            refine ow_cons (st_set (r := r6) (i := ((l0.Sections.length : Int) + h_j3_2)) (xs := (lm_1.set x9.Section.toNat true)) (u := x16) (vs := [.bool true]) 0 true hx17 rfl (fun _ _ h => h) (by repeat (first | exact Upd.head | apply Upd.tail)) ?_)
            refine ow_nil (hJ2 (((lm_1.set x9.Section.toNat true).set ((l0.Sections.length : Int) + h_j3_2).toNat true), ()) _ _ hM ⟨rfl, rfl, (by simp only [List.length_set]; rfl), rfl, trivial⟩ (fun w hm => hm.reord))
          ·
            replace hM := (ite_f hc14).symm.trans hM
            refine cw_skip (hJ2 ((lm_1.set x9.Section.toNat true), ()) _ _ hM ⟨rfl, rfl, rfl, rfl, trivial⟩ (fun w hm => hm.reord))
      ·
        replace hM := (ite_f hc13).symm.trans hM
        refine cw_skip (hJ2 ((lm_1.set x9.Section.toNat true), ()) _ _ hM ⟨rfl, rfl, (by simp only [List.length_set]; rfl), rfl, trivial⟩ (fun w hm => hm.reord))
    ·
      clear hM
      intro g hM
      obtain ⟨lm_j2, ⟨⟩⟩ := g
      dsimp only at hM ⊢
      dsimp only [ref6_used_k2] at hM
      refine cw_region ?_
      refine ow_ev ev_move ?_
      obtain ⟨hI8, hM⟩ := chk_some hM
      refine ow_ev (ev_add (hr := fun hg => i64b_I64 hI8)) ?_
      refine ow_ev ev_assign ?_
      refine ow_nil (hL1 (nn1, (lm_j2, i_1 + 1), ()) _ _ (eqc hcont1 hM) (Nat.lt_succ_self _) ⟨rfl, rfl, rfl, rfl, trivial⟩ (fun w hm => hm.reord))
  ·
    replace hM := (ite_f hc7).symm.trans hM
    refine cw_exit (hK3 _ _ ?_); clear hK3
    dsimp only [ref6_used_k1] at hM
    refine cw_seq fun K10 hK10 => ?_
    refine cw_region ?_
    refine ow_ev ev_move ?_
    refine ow_ev ev_assign ?_
    refine ow_nil (hK10 _ _ ?_); clear hK10
    obtain rfl := some_inj hM
    refine cw_ret (kw_retc1 (fun w hm => post_of r6 hm rfl))

def ref6_Resources_k2 (i_1 : Nat) (cont1 : ((List Int) × Nat) → Option ((List Int) × Int)) : (List Int) → Option ((List Int) × Int) := fun lout_j2 =>
  chk (i64b ((i_1 : Int) + 1)) <|
  cont1 (lout_j2, i_1 + 1)
def ref6_Resources_k1 (lout_1 : List Int) : Unit → Option ((List Int) × Int) := fun _ =>
  some (lout_1, 0)
def ref6_Resources_b1 (y7 : (List Bool)) (cont1 : ((List Int) × Nat) → Option ((List Int) × Int)) : ((List Int) × Nat) → Option ((List Int) × Int) := fun (lout_1, i_1) =>
  if decide ((i_1 : Int) < (y7.length : Int)) then
    ((idx y7 (i_1 : Int)).bind fun x13 =>
    if x13 then
      (chk (decide ((lout_1.length + ([(i_1 : Int)] : List Int).length) * 8 ≤ 140737488355328)) <|
      ref6_Resources_k2 i_1 cont1 (lout_1 ++ ([(i_1 : Int)] : List Int)))
    else
      (ref6_Resources_k2 i_1 cont1 lout_1))
  else
    (ref6_Resources_k1 lout_1 ())
def ref6_Resources_m (l0 : Layout) (r0 : Route) : Option ((List Int) × Int) :=
  (ref6_CheckRoute_m l0 r0).bind fun y3 =>
  if decide (y3 ≠ 0) then
    (some (([] : List Int), y3))
  else
    ((ref6_used_m l0 r0).bind fun y7 =>
    iter (ref6_Resources_b1 y7) FUEL (([] : List Int), 0))
theorem ref6_Resources_spec (S : Soup) (w : World) (l0 : Layout) (r_l0 : GoRep.R Layout) (r0 : Route) (r_r0 : GoRep.R Route) (y : (List Int) × Int) (hM : ref6_Resources_m l0 r0 = some y) (hS : ∀ k, S k → k < w.heap.size) (h_l0 : GoRep.ok S w r_l0 l0) (h_r0 : GoRep.ok S w r_r0 r0) :
    Calls Try.prog 59 #[.agg #[.slice r_l0.1.a l0.Stations.length r_l0.1.cap, .slice r_l0.2.1.a l0.Points.length r_l0.2.1.cap, .slice r_l0.2.2.1.a l0.Sections.length r_l0.2.2.1.cap, .slice r_l0.2.2.2.a l0.Links.length r_l0.2.2.2.cap], .agg #[.slice r_r0.a r0.Steps.length r_r0.cap, .int .i64 r0.Overlap]] w (Post (β := (GoRep.R (List Int))) S [] (fun g => .tuple #[.slice g.a y.1.length g.cap, .int .i64 y.2]) (fun g => [trow 3 g y.1]) w) := by
  refine calls_cw (args := [_, _]) Try.func59 rfl ((pre_nil hS).start |>.immP (α := List Str) (r := r_l0.1) (x := l0.Stations) h_l0.1|>.immP (α := List Str) (r := r_l0.2.1) (x := l0.Points) h_l0.2.1|>.immP (α := List Section) (r := r_l0.2.2.1) (x := l0.Sections) h_l0.2.2.1|>.immP (α := List Link) (r := r_l0.2.2.2) (x := l0.Links) h_l0.2.2.2|>.immP (α := List Step) (r := r_r0) (x := r0.Steps) h_r0) rfl ?_
  unfold ref6_Resources_m at hM
  refine cw_seq fun K1 hK1 => ?_
  refine cw_region ?_
  refine ow_cons (st_box (l := [.slice r_l0.1.a l0.Stations.length r_l0.1.cap, .slice r_l0.2.1.a l0.Points.length r_l0.2.1.cap, .slice r_l0.2.2.1.a l0.Sections.length r_l0.2.2.1.cap, .slice r_l0.2.2.2.a l0.Links.length r_l0.2.2.2.cap]) (k := fun b1 => ?_))
  refine ow_cons (st_box (l := [.slice r_r0.a r0.Steps.length r_r0.cap, .int .i64 r0.Overlap]) (k := fun b2 => ?_))
  refine ow_ev ev_assign ?_
  refine ow_ev ev_assign ?_
  refine ow_nil (hK1 _ _ ?_); clear hK1
  refine cw_seq fun K2 hK2 => ?_
  refine cw_seq fun K3 hK3 => ?_
  refine cw_region ?_
  refine ow_ev (ev_load_all (b := b1)) ?_
  refine ow_ev (ev_load_all (b := b2)) ?_
  obtain ⟨y3, hy4, hM⟩ := bind_some hM
  refine ow_cons (st_callv (fun w hm => let ⟨S, hs⟩ := hm; ref6_CheckRoute_spec _ w l0 r_l0 r0 r_r0 y3 hy4 (lend_lt hs) ⟨(Kn.lend (Kn.imm (α := List Str) (r := r_l0.1) (x := l0.Stations) (by repeat (first | exact Has.head | apply Has.tail))) hs), (Kn.lend (Kn.imm (α := List Str) (r := r_l0.2.1) (x := l0.Points) (by repeat (first | exact Has.head | apply Has.tail))) hs), (Kn.lend (Kn.imm (α := List Section) (r := r_l0.2.2.1) (x := l0.Sections) (by repeat (first | exact Has.head | apply Has.tail))) hs), (Kn.lend (Kn.imm (α := List Link) (r := r_l0.2.2.2) (x := l0.Links) (by repeat (first | exact Has.head | apply Has.tail))) hs)⟩ (Kn.lend (Kn.imm (α := List Step) (r := r_r0) (x := r0.Steps) (by repeat (first | exact Has.head | apply Has.tail))) hs)) ?_)
  refine ow_ev ev_assign ?_
  refine ow_nil (hK3 _ _ ?_); clear hK3
  refine cw_seq fun K4 hK4 => ?_
  refine cw_region ?_
  refine ow_ev ev_move ?_
  refine ow_ev ev_neq ?_
  refine ow_nil (hK4 _ _ ?_); clear hK4
  refine cw_cond rfl (fun hc5 => ?_) (fun hc5 => ?_)
  ·
    replace hM := (ite_t hc5).symm.trans hM
    refine cw_seq fun K5 hK5 => ?_
    refine cw_region ?_
    refine ow_ev ev_move ?_
    refine ow_ev ev_assign ?_
    refine ow_ev ev_assign ?_
    refine ow_nil (hK5 _ _ ?_); clear hK5
    refine cw_imp (fun w hm => hm.row_nil (α := Int) 3 (fun _ => ())) ?_
    obtain rfl := some_inj hM
    refine cw_ret (kw_retc2 (fun w hm => post_of (⟨none, 0, (fun _ => ())⟩ : SR (GoRep.R Int) ) hm rfl))
  ·
    replace hM := (ite_f hc5).symm.trans hM
    refine cw_skip (hK2 _ _ ?_); clear hK2
    refine cw_seq fun K6 hK6 => ?_
    refine cw_region ?_
    refine ow_ev ev_assign ?_
    refine ow_nil (hK6 _ _ ?_); clear hK6
    refine cw_seq fun K7 hK7 => ?_
    refine cw_region ?_
    refine ow_ev (ev_load_all (b := b1)) ?_
    refine ow_ev (ev_load_all (b := b2)) ?_
    obtain ⟨y7, hy8, hM⟩ := bind_some hM
    refine ow_cons (st_callF SelL.nil (fun S w hs hP => ref6_used_spec _ w l0 r_l0 r0 r_r0 y7 hy8 (lend_lt hs) ⟨(Kn.lend (Kn.imm (α := List Str) (r := r_l0.1) (x := l0.Stations) (by repeat (first | exact Has.head | apply Has.tail))) hs), (Kn.lend (Kn.imm (α := List Str) (r := r_l0.2.1) (x := l0.Points) (by repeat (first | exact Has.head | apply Has.tail))) hs), (Kn.lend (Kn.imm (α := List Section) (r := r_l0.2.2.1) (x := l0.Sections) (by repeat (first | exact Has.head | apply Has.tail))) hs), (Kn.lend (Kn.imm (α := List Link) (r := r_l0.2.2.2) (x := l0.Links) (by repeat (first | exact Has.head | apply Has.tail))) hs)⟩ (Kn.lend (Kn.imm (α := List Step) (r := r_r0) (x := r0.Steps) (by repeat (first | exact Has.head | apply Has.tail))) hs)) (by intro r c hc; simp only [List.mem_cons, List.not_mem_nil, or_false] at hc; rcases hc with rfl <;> first | exact flatC_own | exact flatC_trow (fun _ _ _ _ => trivial)) (fun r9 => ?_))
    dsimp only [List.cons_append, List.nil_append]
    refine ow_ev ev_assign ?_
    refine ow_nil (hK7 _ _ ?_); clear hK7
    refine cw_seq fun K8 hK8 => ?_
    refine cw_seq fun K9 hK9 => ?_
    refine cw_region ?_
    refine ow_ev ev_assign ?_
    refine ow_nil (hK9 _ _ ?_); clear hK9
    refine cw_block ?_
    refine cw_imp (fun w hm => hm.row_nil (α := Int) 3 (fun _ => ())) ?_
    refine cw_loop (γ := Nat × ((List Int) × Nat) × (SR (GoRep.R Int))) (env := fun (_, (lout_1, i_1), rout_1) => [(7, .v (.slice rout_1.a lout_1.length rout_1.cap)), (8, .v (.slice r9.a y7.length r9.cap)), (9, .v (.int .i64 (i_1 : Int)))]) (mem := fun (_, (lout_1, i_1), rout_1) => [trow 3 rout_1 lout_1, trow 4 r9 y7]) (R := fun g => iter (ref6_Resources_b1 y7) g.1 g.2.1 = some y) (μ := fun g => g.1) (FUEL, (([] : List Int), 0), (⟨none, 0, (fun _ => ())⟩ : SR (GoRep.R Int)  )) hM ⟨rfl, rfl, rfl, trivial⟩ (fun w hm => hm.reord) ?_
    clear hM
    intro g hM KL1 hL1
    obtain ⟨nn1, ⟨lout_1, i_1⟩, rout_1⟩ := g
    dsimp only at hM ⊢
    obtain ⟨nn1, cont1, rfl, hcont1, hM⟩ := iter_open' hM
    dsimp only [ref6_Resources_b1] at hM
    refine cw_seq fun K10 hK10 => ?_
    refine cw_seq fun K11 hK11 => ?_
    refine cw_region ?_
    refine ow_ev ev_move ?_
    refine ow_ev ev_move ?_
    refine ow_ev ev_len ?_
    refine ow_ev ev_lss ?_
    refine ow_nil (hK11 _ _ ?_); clear hK11
    refine cw_cond rfl (fun hc11 => ?_) (fun hc11 => ?_)
    ·
      replace hM := (ite_t hc11).symm.trans hM
      refine cw_skip (hK10 _ _ ?_); clear hK10
      refine cw_cut (γ := (List Int) × (SR (GoRep.R Int))) (env := fun (lout_j2, rout_j2) => [(7, .v (.slice rout_j2.a lout_j2.length rout_j2.cap)), (8, .v (.slice r9.a y7.length r9.cap)), (9, .v (.int .i64 (i_1 : Int)))]) (mem := fun (lout_j2, rout_j2) => [trow 3 rout_j2 lout_j2, trow 4 r9 y7]) (R := fun g => ref6_Resources_k2 i_1 cont1 g.1 = some y) ?_ ?_
      · intro KJ2 hJ2
        refine cw_block ?_
        refine cw_seq fun K12 hK12 => ?_
        refine cw_region ?_
        refine ow_ev ev_move ?_
        refine ow_ev ev_move ?_
        obtain ⟨x13, hx14, hM⟩ := bind_some hM
        refine ow_ev (ev_idx (xs := y7) 1 (Kn.trow (e := 4) (r := r9) (by repeat (first | exact Has.head | apply Has.tail))) (fun hg => let h := idx_some hx14; ⟨h.1, h.2.1⟩)) ?_
        refine ow_ev (ev_ld (i := (i_1 : Int)) (xs := y7) (y := x13) 0 (Kn.trow (e := 4) (r := r9) (by repeat (first | exact Has.head | apply Has.tail))) (fun _ => hx14)) ?_
        refine ow_nil (hK12 _ _ ?_); clear hK12
        refine cw_cond rfl (fun hc15 => ?_) (fun hc15 => ?_)
        ·
          replace hM := (ite_t hc15).symm.trans hM
          refine cw_region ?_
          refine ow_ev ev_move ?_
          refine ow_ev ev_move ?_
          refine ow_cons (st_bslice (α := Int) 3 (fun _ => ()) ([(i_1 : Int)] : List Int) (OkL.flat (fun _ _ _ _ => trivial)) (fun r16 => ?_))
          obtain ⟨hb17, hM⟩ := chk_some hM
          refine ow_cons (st_append (r := rout_1) (r2 := r16) (by intro r'; repeat (first | exact Upd.head | apply Upd.tail)) (Kn.trow (e := 3) (r := r16) (by repeat (first | exact Has.head | apply Has.tail))) (OkL.flat (fun _ _ _ _ => trivial)) (of_decide_eq_true hb17) (fun r18 => ?_))
          refine ow_ev ev_assign ?_
          refine ow_nil (hJ2 ((lout_1 ++ ([(i_1 : Int)] : List Int)), r18) _ _ hM ⟨rfl, rfl, rfl, trivial⟩ (fun w hm => hm.reord))
        ·
          replace hM := (ite_f hc15).symm.trans hM
          refine cw_skip (hJ2 (lout_1, rout_1) _ _ hM ⟨rfl, rfl, rfl, trivial⟩ (fun w hm => hm.reord))
      ·
        clear hM
        intro g hM
        obtain ⟨lout_j2, rout_j2⟩ := g
        dsimp only at hM ⊢
        dsimp only [ref6_Resources_k2] at hM
        refine cw_region ?_
        refine ow_ev ev_move ?_
        obtain ⟨hI12, hM⟩ := chk_some hM
        refine ow_ev (ev_add (hr := fun hg => i64b_I64 hI12)) ?_
        refine ow_ev ev_assign ?_
        refine ow_nil (hL1 (nn1, (lout_j2, i_1 + 1), rout_j2) _ _ (eqc hcont1 hM) (Nat.lt_succ_self _) ⟨rfl, rfl, rfl, trivial⟩ (fun w hm => hm.reord))
    ·
      replace hM := (ite_f hc11).symm.trans hM
      refine cw_exit (hK8 _ _ ?_); clear hK8
      dsimp only [ref6_Resources_k1] at hM
      refine cw_seq fun K13 hK13 => ?_
      refine cw_region ?_
      refine ow_ev ev_move ?_
      refine ow_ev ev_assign ?_
      refine ow_ev ev_assign ?_
      refine ow_nil (hK13 _ _ ?_); clear hK13
      obtain rfl := some_inj hM
      refine cw_ret (kw_retc2 (fun w hm => post_of rout_1 hm rfl))

def ref6_Clashes_k1 : Unit → Option (Bool × Int) := fun _ =>
  some (false, 0)
def ref6_Clashes_b1 (y10 : (List Bool)) (y13 : (List Bool)) (cont1 : Nat → Option (Bool × Int)) : Nat → Option (Bool × Int) := fun i_1 =>
  if decide ((i_1 : Int) < (y10.length : Int)) then
    ((idx y10 (i_1 : Int)).bind fun x17 =>
    (whn x17 default (idx y13 (i_1 : Int))).bind fun x19 =>
    if (x17 && x19) then
      (some (true, 0))
    else
      (chk (i64b ((i_1 : Int) + 1)) <|
      cont1 (i_1 + 1)))
  else
    (ref6_Clashes_k1 ())
def ref6_Clashes_m (l0 : Layout) (a0 : Route) (b0 : Route) : Option (Bool × Int) :=
  (ref6_CheckRoute_m l0 a0).bind fun y4 =>
  if decide (y4 ≠ 0) then
    (some (false, y4))
  else
    ((ref6_CheckRoute_m l0 b0).bind fun y7 =>
    if decide (y7 ≠ 0) then
      (some (false, y7))
    else
      ((ref6_used_m l0 a0).bind fun y10 =>
      (ref6_used_m l0 b0).bind fun y13 =>
      iter (ref6_Clashes_b1 y10 y13) FUEL 0))
theorem ref6_Clashes_spec (S : Soup) (w : World) (l0 : Layout) (r_l0 : GoRep.R Layout) (a0 : Route) (r_a0 : GoRep.R Route) (b0 : Route) (r_b0 : GoRep.R Route) (y : Bool × Int) (hM : ref6_Clashes_m l0 a0 b0 = some y) (hS : ∀ k, S k → k < w.heap.size) (h_l0 : GoRep.ok S w r_l0 l0) (h_a0 : GoRep.ok S w r_a0 a0) (h_b0 : GoRep.ok S w r_b0 b0) :
    Calls Try.prog 60 #[.agg #[.slice r_l0.1.a l0.Stations.length r_l0.1.cap, .slice r_l0.2.1.a l0.Points.length r_l0.2.1.cap, .slice r_l0.2.2.1.a l0.Sections.length r_l0.2.2.1.cap, .slice r_l0.2.2.2.a l0.Links.length r_l0.2.2.2.cap], .agg #[.slice r_a0.a a0.Steps.length r_a0.cap, .int .i64 a0.Overlap], .agg #[.slice r_b0.a b0.Steps.length r_b0.cap, .int .i64 b0.Overlap]] w (Ret w (.tuple #[.bool y.1, .int .i64 y.2])) := by
  refine calls_cw (args := [_, _, _]) Try.func60 rfl ((pre_nil hS).start |>.immP (α := List Str) (r := r_l0.1) (x := l0.Stations) h_l0.1|>.immP (α := List Str) (r := r_l0.2.1) (x := l0.Points) h_l0.2.1|>.immP (α := List Section) (r := r_l0.2.2.1) (x := l0.Sections) h_l0.2.2.1|>.immP (α := List Link) (r := r_l0.2.2.2) (x := l0.Links) h_l0.2.2.2|>.immP (α := List Step) (r := r_a0) (x := a0.Steps) h_a0|>.immP (α := List Step) (r := r_b0) (x := b0.Steps) h_b0) rfl ?_
  unfold ref6_Clashes_m at hM
  refine cw_seq fun K1 hK1 => ?_
  refine cw_region ?_
  refine ow_cons (st_box (l := [.slice r_l0.1.a l0.Stations.length r_l0.1.cap, .slice r_l0.2.1.a l0.Points.length r_l0.2.1.cap, .slice r_l0.2.2.1.a l0.Sections.length r_l0.2.2.1.cap, .slice r_l0.2.2.2.a l0.Links.length r_l0.2.2.2.cap]) (k := fun b1 => ?_))
  refine ow_cons (st_box (l := [.slice r_a0.a a0.Steps.length r_a0.cap, .int .i64 a0.Overlap]) (k := fun b2 => ?_))
  refine ow_cons (st_box (l := [.slice r_b0.a b0.Steps.length r_b0.cap, .int .i64 b0.Overlap]) (k := fun b3 => ?_))
  refine ow_ev ev_assign ?_
  refine ow_ev ev_assign ?_
  refine ow_nil (hK1 _ _ ?_); clear hK1
  refine cw_seq fun K2 hK2 => ?_
  refine cw_seq fun K3 hK3 => ?_
  refine cw_region ?_
  refine ow_ev (ev_load_all (b := b1)) ?_
  refine ow_ev (ev_load_all (b := b2)) ?_
  obtain ⟨y4, hy5, hM⟩ := bind_some hM
  refine ow_cons (st_callv (fun w hm => let ⟨S, hs⟩ := hm; ref6_CheckRoute_spec _ w l0 r_l0 a0 r_a0 y4 hy5 (lend_lt hs) ⟨(Kn.lend (Kn.imm (α := List Str) (r := r_l0.1) (x := l0.Stations) (by repeat (first | exact Has.head | apply Has.tail))) hs), (Kn.lend (Kn.imm (α := List Str) (r := r_l0.2.1) (x := l0.Points) (by repeat (first | exact Has.head | apply Has.tail))) hs), (Kn.lend (Kn.imm (α := List Section) (r := r_l0.2.2.1) (x := l0.Sections) (by repeat (first | exact Has.head | apply Has.tail))) hs), (Kn.lend (Kn.imm (α := List Link) (r := r_l0.2.2.2) (x := l0.Links) (by repeat (first | exact Has.head | apply Has.tail))) hs)⟩ (Kn.lend (Kn.imm (α := List Step) (r := r_a0) (x := a0.Steps) (by repeat (first | exact Has.head | apply Has.tail))) hs)) ?_)
  refine ow_ev ev_assign ?_
  refine ow_nil (hK3 _ _ ?_); clear hK3
  refine cw_seq fun K4 hK4 => ?_
  refine cw_region ?_
  refine ow_ev ev_move ?_
  refine ow_ev ev_neq ?_
  refine ow_nil (hK4 _ _ ?_); clear hK4
  refine cw_cond rfl (fun hc6 => ?_) (fun hc6 => ?_)
  ·
    replace hM := (ite_t hc6).symm.trans hM
    refine cw_seq fun K5 hK5 => ?_
    refine cw_region ?_
    refine ow_ev ev_move ?_
    refine ow_ev ev_assign ?_
    refine ow_ev ev_assign ?_
    refine ow_nil (hK5 _ _ ?_); clear hK5
    obtain rfl := some_inj hM
    refine cw_ret (kw_retc2 (fun w hm => ret_of hm rfl))
  ·
    replace hM := (ite_f hc6).symm.trans hM
    refine cw_skip (hK2 _ _ ?_); clear hK2
    refine cw_seq fun K6 hK6 => ?_
    refine cw_seq fun K7 hK7 => ?_
    refine cw_region ?_
    refine ow_ev (ev_load_all (b := b1)) ?_
    refine ow_ev (ev_load_all (b := b3)) ?_
    obtain ⟨y7, hy8, hM⟩ := bind_some hM
    refine ow_cons (st_callv (fun w hm => let ⟨S, hs⟩ := hm; ref6_CheckRoute_spec _ w l0 r_l0 b0 r_b0 y7 hy8 (lend_lt hs) ⟨(Kn.lend (Kn.imm (α := List Str) (r := r_l0.1) (x := l0.Stations) (by repeat (first | exact Has.head | apply Has.tail))) hs), (Kn.lend (Kn.imm (α := List Str) (r := r_l0.2.1) (x := l0.Points) (by repeat (first | exact Has.head | apply Has.tail))) hs), (Kn.lend (Kn.imm (α := List Section) (r := r_l0.2.2.1) (x := l0.Sections) (by repeat (first | exact Has.head | apply Has.tail))) hs), (Kn.lend (Kn.imm (α := List Link) (r := r_l0.2.2.2) (x := l0.Links) (by repeat (first | exact Has.head | apply Has.tail))) hs)⟩ (Kn.lend (Kn.imm (α := List Step) (r := r_b0) (x := b0.Steps) (by repeat (first | exact Has.head | apply Has.tail))) hs)) ?_)
    refine ow_ev ev_assign ?_
    refine ow_nil (hK7 _ _ ?_); clear hK7
    refine cw_seq fun K8 hK8 => ?_
    refine cw_region ?_
    refine ow_ev ev_move ?_
    refine ow_ev ev_neq ?_
    refine ow_nil (hK8 _ _ ?_); clear hK8
    refine cw_cond rfl (fun hc9 => ?_) (fun hc9 => ?_)
    ·
      replace hM := (ite_t hc9).symm.trans hM
      refine cw_seq fun K9 hK9 => ?_
      refine cw_region ?_
      refine ow_ev ev_move ?_
      refine ow_ev ev_assign ?_
      refine ow_ev ev_assign ?_
      refine ow_nil (hK9 _ _ ?_); clear hK9
      obtain rfl := some_inj hM
      refine cw_ret (kw_retc2 (fun w hm => ret_of hm rfl))
    ·
      replace hM := (ite_f hc9).symm.trans hM
      refine cw_skip (hK6 _ _ ?_); clear hK6
      refine cw_seq fun K10 hK10 => ?_
      refine cw_region_any _ (List.Sublist.refl _) ?_
      refine aw_ev 0 rfl (ev_load_all (b := b1)) ?_
      refine aw_ev 1 rfl (ev_load_all (b := b2)) ?_
      refine aw_ev 3 rfl (ev_load_all (b := b1)) ?_
      refine aw_ev 4 rfl (ev_load_all (b := b3)) ?_
      obtain ⟨y10, hy11, hM⟩ := bind_some hM
      refine aw_one 2 rfl (st_callF SelL.nil (fun S w hs hP => ref6_used_spec _ w l0 r_l0 a0 r_a0 y10 hy11 (lend_lt hs) ⟨(Kn.lend (Kn.imm (α := List Str) (r := r_l0.1) (x := l0.Stations) (by repeat (first | exact Has.head | apply Has.tail))) hs), (Kn.lend (Kn.imm (α := List Str) (r := r_l0.2.1) (x := l0.Points) (by repeat (first | exact Has.head | apply Has.tail))) hs), (Kn.lend (Kn.imm (α := List Section) (r := r_l0.2.2.1) (x := l0.Sections) (by repeat (first | exact Has.head | apply Has.tail))) hs), (Kn.lend (Kn.imm (α := List Link) (r := r_l0.2.2.2) (x := l0.Links) (by repeat (first | exact Has.head | apply Has.tail))) hs)⟩ (Kn.lend (Kn.imm (α := List Step) (r := r_a0) (x := a0.Steps) (by repeat (first | exact Has.head | apply Has.tail))) hs)) (by intro r c hc; simp only [List.mem_cons, List.not_mem_nil, or_false] at hc; rcases hc with rfl <;> first | exact flatC_own | exact flatC_trow (fun _ _ _ _ => trivial)) (fun r12 => ⟨fun w hm => hm.sub (by repeat (first | exact List.Sublist.refl _ | apply List.Sublist.cons_cons | apply List.Sublist.cons)), ?_⟩))
      dsimp only [List.cons_append, List.nil_append]
      obtain ⟨y13, hy14, hM⟩ := bind_some hM
      refine aw_one 5 rfl (st_callF SelL.nil (fun S w hs hP => ref6_used_spec _ w l0 r_l0 b0 r_b0 y13 hy14 (lend_lt hs) ⟨(Kn.lend (Kn.imm (α := List Str) (r := r_l0.1) (x := l0.Stations) (by repeat (first | exact Has.head | apply Has.tail))) hs), (Kn.lend (Kn.imm (α := List Str) (r := r_l0.2.1) (x := l0.Points) (by repeat (first | exact Has.head | apply Has.tail))) hs), (Kn.lend (Kn.imm (α := List Section) (r := r_l0.2.2.1) (x := l0.Sections) (by repeat (first | exact Has.head | apply Has.tail))) hs), (Kn.lend (Kn.imm (α := List Link) (r := r_l0.2.2.2) (x := l0.Links) (by repeat (first | exact Has.head | apply Has.tail))) hs)⟩ (Kn.lend (Kn.imm (α := List Step) (r := r_b0) (x := b0.Steps) (by repeat (first | exact Has.head | apply Has.tail))) hs)) (by intro r c hc; simp only [List.mem_cons, List.not_mem_nil, or_false] at hc; rcases hc with rfl <;> first | exact flatC_own | exact flatC_trow (fun _ _ _ _ => trivial)) (fun r15 => ⟨fun w hm => hm.sub (by repeat (first | exact List.Sublist.refl _ | apply List.Sublist.cons_cons | apply List.Sublist.cons)), ?_⟩))
      dsimp only [List.cons_append, List.nil_append]
      refine aw_ev 6 rfl ev_assign ?_
      refine aw_ev 7 rfl ev_assign ?_
      refine aw_done (hK10 _ _ ?_); clear hK10
      refine cw_seq fun K11 hK11 => ?_
      refine cw_seq fun K12 hK12 => ?_
      refine cw_region ?_
      refine ow_ev ev_assign ?_
      refine ow_nil (hK12 _ _ ?_); clear hK12
      refine cw_block ?_
      refine cw_loop (γ := Nat × Nat × Unit) (env := fun (_, i_1, _) => [(10, .v (.slice r12.a y10.length r12.cap)), (11, .v (.slice r15.a y13.length r15.cap)), (12, .v (.int .i64 (i_1 : Int)))]) (mem := fun (_, i_1, _) => [trow 4 r12 y10, trow 4 r15 y13]) (R := fun g => iter (ref6_Clashes_b1 y10 y13) g.1 g.2.1 = some y) (μ := fun g => g.1) (FUEL, 0, ()) hM ⟨rfl, rfl, rfl, trivial⟩ (fun w hm => hm.reord) ?_
      clear hM
      intro g hM KL1 hL1
      obtain ⟨nn1, i_1, ⟨⟩⟩ := g
      dsimp only at hM ⊢
      obtain ⟨nn1, cont1, rfl, hcont1, hM⟩ := iter_open' hM
      dsimp only [ref6_Clashes_b1] at hM
      refine cw_seq fun K13 hK13 => ?_
      refine cw_seq fun K14 hK14 => ?_
      refine cw_region ?_
      refine ow_ev ev_move ?_
      refine ow_ev ev_move ?_
      refine ow_ev ev_len ?_
      refine ow_ev ev_lss ?_
      refine ow_nil (hK14 _ _ ?_); clear hK14
      refine cw_cond rfl (fun hc16 => ?_) (fun hc16 => ?_)
      ·
        replace hM := (ite_t hc16).symm.trans hM
        refine cw_skip (hK13 _ _ ?_); clear hK13
        refine cw_seq fun K15 hK15 => ?_
        refine cw_block ?_
        refine cw_seq fun K16 hK16 => ?_
        refine cw_region ?_
        refine ow_ev ev_move ?_
        refine ow_ev ev_move ?_
        obtain ⟨x17, hx18, hM⟩ := bind_some hM
        refine ow_ev (ev_idx (xs := y10) 1 (Kn.trow (e := 4) (r := r12) (by repeat (first | exact Has.head | apply Has.tail))) (fun hg => let h := idx_some hx18; ⟨h.1, h.2.1⟩)) ?_
        refine ow_ev (ev_ld (i := (i_1 : Int)) (xs := y10) (y := x17) 0 (Kn.trow (e := 4) (r := r12) (by repeat (first | exact Has.head | apply Has.tail))) (fun _ => hx18)) ?_
        refine ow_ev ev_move ?_
        refine ow_evg rfl ev_move ?_
        refine ow_evg rfl ev_move ?_
        obtain ⟨x19, hx20, hM⟩ := bind_some hM
        refine ow_evg rfl (ev_idx (xs := y13) 1 (Kn.trow (e := 4) (r := r15) (by repeat (first | exact Has.head | apply Has.tail))) (fun hg => let h := idx_some (whn_some hx20 hg); ⟨h.1, h.2.1⟩)) ?_
        refine ow_evg rfl (ev_ld (i := (i_1 : Int)) (xs := y13) (y := x19) 0 (Kn.trow (e := 4) (r := r15) (by repeat (first | exact Has.head | apply Has.tail))) (fun hg => whn_some hx20 hg)) ?_
        refine ow_ev ev_and ?_
        refine ow_nil (hK16 _ _ ?_); clear hK16
        refine cw_cond rfl (fun hc21 => ?_) (fun hc21 => ?_)
        ·
          replace hM := (ite_t hc21).symm.trans hM
          refine cw_seq fun K17 hK17 => ?_
          refine cw_region ?_
          refine ow_ev ev_assign ?_
          refine ow_ev ev_assign ?_
          refine ow_nil (hK17 _ _ ?_); clear hK17
          obtain rfl := some_inj hM
          refine cw_ret (kw_retc2 (fun w hm => ret_of hm rfl))
        ·
          replace hM := (ite_f hc21).symm.trans hM
          refine cw_skip (hK15 _ _ ?_); clear hK15
          refine cw_region ?_
          refine ow_ev ev_move ?_
          obtain ⟨hI22, hM⟩ := chk_some hM
          refine ow_ev (ev_add (hr := fun hg => i64b_I64 hI22)) ?_
          refine ow_ev ev_assign ?_
          refine ow_nil (hL1 (nn1, (i_1 + 1), ()) _ _ (eqc hcont1 hM) (Nat.lt_succ_self _) ⟨rfl, rfl, rfl, trivial⟩ (fun w hm => hm.reord))
      ·
        replace hM := (ite_f hc16).symm.trans hM
        refine cw_exit (hK11 _ _ ?_); clear hK11
        dsimp only [ref6_Clashes_k1] at hM
        refine cw_seq fun K18 hK18 => ?_
        refine cw_region ?_
        refine ow_ev ev_assign ?_
        refine ow_ev ev_assign ?_
        refine ow_nil (hK18 _ _ ?_); clear hK18
        obtain rfl := some_inj hM
        refine cw_ret (kw_retc2 (fun w hm => ret_of hm rfl))

end Go.Proofs.Ytnihhidbiepnhaa
