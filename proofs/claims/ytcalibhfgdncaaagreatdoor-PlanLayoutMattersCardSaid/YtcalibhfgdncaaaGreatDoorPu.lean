/- Models of functions, and that the code computes them. -/
import Derived.Test.YtcalibhfgdncaaaGreatDoorRl
namespace Go.Proofs.YtcalibhfgdncaaaGreatDoor
open Go.Dc Go.RowKit
set_option maxRecDepth 10000
set_option linter.unusedVariables false
def keep_builder_route_k2 (i0 : Int) (b0 : Keep_builder) (c0 : Int) (lr_1_0 : List Step) : Unit → Option Route := fun _ =>
  chk (i64b (i0 + 1)) <|
  (idx b0.tracks (i0 + 1)).bind fun x24 =>
  chk (i64b (i0 + 1)) <|
  chk (decide ((x24.length : Int) ≠ 0)) <|
  (idx x24 (c0.tmod (x24.length : Int))).bind fun x28 =>
  chk (decide ((lr_1_0.length + ([(Step.mk x28 0)] : List Step).length) * 16 ≤ 140737488355328)) <|
  some (Route.mk (lr_1_0 ++ ([(Step.mk x28 0)] : List Step)) 0)
def keep_builder_route_b1 (x2 : List Int) (i0 : Int) (b0 : Keep_builder) (c0 : Int) (cont1 : ((List Step) × Nat) → Option Route) : ((List Step) × Nat) → Option Route := fun (lr_1_0, t49_1) =>
  if decide ((t49_1 : Int) < (x2.length : Int)) then
    ((idx x2 (t49_1 : Int)).bind fun x18 =>
    chk (decide ((lr_1_0.length + ([(Step.mk x18 0)] : List Step).length) * 16 ≤ 140737488355328)) <|
    cont1 ((lr_1_0 ++ ([(Step.mk x18 0)] : List Step)), t49_1 + 1))
  else
    (keep_builder_route_k2 i0 b0 c0 lr_1_0 ())
def keep_builder_route_k3 (b0 : Keep_builder) (i0 : Int) (a0 : Int) (lr_2_0 : List Step) : Unit → Option Route := fun _ =>
  (idx b0.tracks i0).bind fun x53 =>
  chk (decide ((x53.length : Int) ≠ 0)) <|
  (idx x53 (a0.tmod (x53.length : Int))).bind fun x56 =>
  chk (decide ((lr_2_0.length + ([(Step.mk x56 1)] : List Step).length) * 16 ≤ 140737488355328)) <|
  some (Route.mk (lr_2_0 ++ ([(Step.mk x56 1)] : List Step)) 0)
def keep_builder_route_b2 (x2 : List Int) (b0 : Keep_builder) (i0 : Int) (a0 : Int) (cont2 : ((List Step) × Int) → Option Route) : ((List Step) × Int) → Option Route := fun (lr_2_0, k_2) =>
  if decide (0 ≤ k_2) then
    ((idx x2 k_2).bind fun x47 =>
    chk (decide ((lr_2_0.length + ([(Step.mk x47 1)] : List Step).length) * 16 ≤ 140737488355328)) <|
    chk (i64b (k_2 - 1)) <|
    cont2 ((lr_2_0 ++ ([(Step.mk x47 1)] : List Step)), (k_2 - 1)))
  else
    (keep_builder_route_k3 b0 i0 a0 lr_2_0 ())
def keep_builder_route_k1 (i0 : Int) (b0 : Keep_builder) (c0 : Int) (x2 : List Int) (a0 : Int) : Unit → Option Route := fun _ =>
  chk (i64b (i0 + 1)) <|
  (idx b0.tracks (i0 + 1)).bind fun x34 =>
  chk (i64b (i0 + 1)) <|
  chk (decide ((x34.length : Int) ≠ 0)) <|
  (idx x34 (c0.tmod (x34.length : Int))).bind fun x38 =>
  chk (decide ((([] : List Step).length + ([(Step.mk x38 1)] : List Step).length) * 16 ≤ 140737488355328)) <|
  chk (i64b ((x2.length : Int) - 1)) <|
  iter (keep_builder_route_b2 x2 b0 i0 a0) FUEL ((([] : List Step) ++ ([(Step.mk x38 1)] : List Step)), ((x2.length : Int) - 1))
def keep_builder_route_m (b0 : Keep_builder) (i0 : Int) (a0 : Int) (c0 : Int) (up0 : Bool) : Option Route :=
  (idx b0.between i0).bind fun x2 =>
  if up0 then
    ((idx b0.tracks i0).bind fun x6 =>
    chk (decide ((x6.length : Int) ≠ 0)) <|
    (idx x6 (a0.tmod (x6.length : Int))).bind fun x9 =>
    chk (decide ((([] : List Step).length + ([(Step.mk x9 0)] : List Step).length) * 16 ≤ 140737488355328)) <|
    iter (keep_builder_route_b1 x2 i0 b0 c0) FUEL ((([] : List Step) ++ ([(Step.mk x9 0)] : List Step)), 0))
  else
    (keep_builder_route_k1 i0 b0 c0 x2 a0 ())
theorem keep_builder_route_spec (S : Soup) (w : World) (b_b0 : Nat) (b0 : Keep_builder) (r_b0 : GoRep.R Keep_builder) (i0 : Int) (a0 : Int) (c0 : Int) (up0 : Bool) (y : Route) (hM : keep_builder_route_m b0 i0 a0 c0 up0 = some y) (hS : ∀ k, S k → k < w.heap.size) (hb_b0 : S b_b0 ∧ w.heap[b_b0]? = some (.cells [.slice r_b0.1.1.a b0.l.Stations.length r_b0.1.1.cap, .slice r_b0.1.2.1.a b0.l.Points.length r_b0.1.2.1.cap, .slice r_b0.1.2.2.1.a b0.l.Sections.length r_b0.1.2.2.1.cap, .slice r_b0.1.2.2.2.a b0.l.Links.length r_b0.1.2.2.2.cap, .slice r_b0.2.1.a b0.tracks.length r_b0.2.1.cap, .slice r_b0.2.2.1.a b0.between.length r_b0.2.2.1.cap, .slice r_b0.2.2.2.a b0.westward.length r_b0.2.2.2.cap].toArray 76 (0, 0))) (h_b0 : GoRep.ok S w r_b0 b0) :
    Calls Tryz.prog 77 #[.pointer (some ⟨b_b0, 0, none⟩), .int .i64 i0, .int .i64 a0, .int .i64 c0, .bool up0] w (Post (β := (GoRep.R Route)) S [] (fun g => .agg #[.slice g.a y.Steps.length g.cap, .int .i64 y.Overlap]) (fun g => [trow 92 g y.Steps]) w) := by
  refine calls_cw (args := [_, _, _, _, _]) Tryz.func77 rfl ((pre_nil hS).start |>.rboxP hb_b0|>.immP (α := List Str) (r := r_b0.1.1) (x := b0.l.Stations) h_b0.1.1|>.immP (α := List Str) (r := r_b0.1.2.1) (x := b0.l.Points) h_b0.1.2.1|>.immP (α := List Section) (r := r_b0.1.2.2.1) (x := b0.l.Sections) h_b0.1.2.2.1|>.immP (α := List Link) (r := r_b0.1.2.2.2) (x := b0.l.Links) h_b0.1.2.2.2|>.immP (α := List (List Int)) (r := r_b0.2.1) (x := b0.tracks) h_b0.2.1|>.immP (α := List (List Int)) (r := r_b0.2.2.1) (x := b0.between) h_b0.2.2.1|>.immP (α := List (List Int)) (r := r_b0.2.2.2) (x := b0.westward) h_b0.2.2.2) rfl ?_
  unfold keep_builder_route_m at hM
  refine cw_seq fun K1 hK1 => ?_
  refine cw_region ?_
  refine ow_cons (st_alloc rfl (k := fun b1 => ?_))
  refine ow_nil (hK1 _ _ ?_); clear hK1
  refine cw_seq fun K2 hK2 => ?_
  refine cw_region_any _ (List.Sublist.refl _) ?_
  refine aw_ev 0 rfl ev_move ?_
  refine aw_ev 1 rfl ev_nilcheck ?_
  refine aw_ev 2 rfl (ev_field_addr 5) ?_
  refine aw_ev 3 rfl (ev_rload_own (b := b_b0)) ?_
  refine aw_ev 4 rfl ev_move ?_
  obtain ⟨x2, hx3, hM⟩ := bind_some hM
  refine aw_ev 5 rfl (ev_idx (xs := b0.between) 1 (Kn.imm (α := List (List Int)) (r := r_b0.2.2.1) (x := b0.between) (by repeat (first | exact Has.head | apply Has.tail))) (fun hg => let h := idx_some hx3; ⟨h.1, h.2.1⟩)) ?_
  refine aw_ev 6 rfl (ev_ld (i := i0) (xs := b0.between) (y := x2) 0 (Kn.imm (α := List (List Int)) (r := r_b0.2.2.1) (x := b0.between) (by repeat (first | exact Has.head | apply Has.tail))) (fun _ => hx3)) ?_
  refine aw_ev 7 rfl ev_move ?_
  refine aw_ev 8 rfl ev_nilcheck ?_
  refine aw_ev 9 rfl (ev_field_addr 4) ?_
  refine aw_ev 10 rfl (ev_rload_own (b := b_b0)) ?_
  refine aw_ev 11 rfl ev_assign ?_
  refine aw_ev 12 rfl ev_assign ?_
  refine aw_done (hK2 _ _ ?_); clear hK2
  refine cw_seq fun K3 hK3 => ?_
  refine cw_region ?_
  refine ow_cons (st_alloc rfl (k := fun b4 => ?_))
  refine ow_nil (hK3 _ _ ?_); clear hK3
  refine cw_seq fun K4 hK4 => ?_
  refine cw_seq fun K5 hK5 => ?_
  refine cw_region ?_
  refine ow_ev ev_move ?_
  refine ow_nil (hK5 _ _ ?_); clear hK5
  refine cw_cond rfl (fun hc5 => ?_) (fun hc5 => ?_)
  ·
    replace hM := (ite_t hc5).symm.trans hM
    refine cw_seq fun K6 hK6 => ?_
    refine cw_region_z [own b4 90 [.slice none 0 0, .int .i64 0], own b1 90 [.slice none 0 0, .int .i64 0], imm (α := (List (List Int))) r_b0.2.2.2 b0.westward, imm (α := (List (List Int))) r_b0.2.2.1 b0.between, imm (α := (List (List Int))) r_b0.2.1 b0.tracks, imm (α := (List Link)) r_b0.1.2.2.2 b0.l.Links, imm (α := (List Section)) r_b0.1.2.2.1 b0.l.Sections, imm (α := (List Str)) r_b0.1.2.1 b0.l.Points, imm (α := (List Str)) r_b0.1.1 b0.l.Stations, rbox b_b0 76 [.slice r_b0.1.1.a b0.l.Stations.length r_b0.1.1.cap, .slice r_b0.1.2.1.a b0.l.Points.length r_b0.1.2.1.cap, .slice r_b0.1.2.2.1.a b0.l.Sections.length r_b0.1.2.2.1.cap, .slice r_b0.1.2.2.2.a b0.l.Links.length r_b0.1.2.2.2.cap, .slice r_b0.2.1.a b0.tracks.length r_b0.2.1.cap, .slice r_b0.2.2.1.a b0.between.length r_b0.2.2.1.cap, .slice r_b0.2.2.2.a b0.westward.length r_b0.2.2.2.cap]] 19 ?_
    refine az_ev 0 rfl (ev_field_addr 0) ?_
    refine az_ev 1 rfl (ev_load_own (b := b4)) ?_
    refine az_ev 2 rfl ev_move ?_
    refine az_ev 3 rfl ev_move ?_
    obtain ⟨x6, hx7, hM⟩ := bind_some hM
    refine az_ev 4 rfl (ev_idx (xs := b0.tracks) 1 (Kn.imm (α := List (List Int)) (r := r_b0.2.1) (x := b0.tracks) (by repeat (first | exact Has.head | apply Has.tail))) (fun hg => let h := idx_some hx7; ⟨h.1, h.2.1⟩)) ?_
    refine az_ev 5 rfl (ev_ld (i := i0) (xs := b0.tracks) (y := x6) 0 (Kn.imm (α := List (List Int)) (r := r_b0.2.1) (x := b0.tracks) (by repeat (first | exact Has.head | apply Has.tail))) (fun _ => hx7)) ?_
    refine az_ev 6 rfl ev_move ?_
    refine az_ev 7 rfl ev_move ?_
    refine az_ev 8 rfl ev_move ?_
    refine az_ev 9 rfl (ev_idx (xs := b0.tracks) 1 (Kn.imm (α := List (List Int)) (r := r_b0.2.1) (x := b0.tracks) (by repeat (first | exact Has.head | apply Has.tail))) (fun hg => let h := idx_some hx7; ⟨h.1, h.2.1⟩)) ?_
    refine az_ev 10 rfl (ev_ld (i := i0) (xs := b0.tracks) (y := x6) 0 (Kn.imm (α := List (List Int)) (r := r_b0.2.1) (x := b0.tracks) (by repeat (first | exact Has.head | apply Has.tail))) (fun _ => hx7)) ?_
    refine az_ev 11 rfl ev_len ?_
    obtain ⟨hI8, hM⟩ := chk_some hM
    refine az_ev 12 rfl (ev_rem (hq := fun hg => of_decide_eq_true hI8)) ?_
    obtain ⟨x9, hx10, hM⟩ := bind_some hM
    refine az_ev 13 rfl (ev_idx (xs := x6) 1 ((Sk.elem (Sk.imm (α := List (List Int)) (r := r_b0.2.1) (x := b0.tracks) (by repeat (first | exact Has.head | apply Has.tail))) hx7)).kn (fun hg => let h := idx_some hx10; ⟨h.1, h.2.1⟩)) ?_
    refine az_ev 14 rfl (ev_ld (i := (a0.tmod (x6.length : Int))) (xs := x6) (y := x9) 0 ((Sk.elem (Sk.imm (α := List (List Int)) (r := r_b0.2.1) (x := b0.tracks) (by repeat (first | exact Has.head | apply Has.tail))) hx7)).kn (fun _ => hx10)) ?_
    refine az_ev 15 rfl (ev_build [.int .i64 x9, .int .i64 0]) ?_
    refine az_one 16 rfl (st_bslice (α := Step) 92 (fun _ => ()) ([(Step.mk x9 0)] : List Step) (OkL.flat (fun _ _ _ _ => trivial)) (fun r11 => ⟨fun w hm => hm.sub (by repeat (first | exact List.Sublist.refl _ | apply List.Sublist.cons_cons | apply List.Sublist.cons)), ?_⟩))
    refine az_imp (fun w hm => hm.row_nil (α := Step) 92 (fun _ => ())) ?_
    obtain ⟨hb14, hM⟩ := chk_some hM
    refine az_one 17 rfl (st_append (r := (⟨none, 0, (fun _ => ())⟩ : SR (GoRep.R Step)  )) (r2 := r11) (by intro r'; repeat (first | exact Upd.head | apply Upd.tail)) (Kn.trow (e := 92) (r := r11) (by repeat (first | exact Has.head | apply Has.tail))) (OkL.flat (fun _ _ _ _ => trivial)) (of_decide_eq_true hb14) (fun r13 => ⟨fun w hm => hm.sub (by repeat (first | exact List.Sublist.refl _ | apply List.Sublist.cons_cons | apply List.Sublist.cons)), ?_⟩))
    refine az_ev 18 rfl (ev_field_addr 0) ?_
    refine az_last rfl (st_store_own (b := b4) (l' := [.slice r13.a ((([] : List Step) ++ ([(Step.mk x9 0)] : List Step)).length) r13.cap, .int .i64 0]) (k := ?_))
    refine az_done (hK6 _ _ ?_); clear hK6
    refine cw_seq fun K7 hK7 => ?_
    refine cw_seq fun K8 hK8 => ?_
    refine cw_region ?_
    refine ow_ev ev_move ?_
    refine ow_have (fun w hm => Kn.len ((Sk.elem (Sk.imm (α := List (List Int)) (r := r_b0.2.2.1) (x := b0.between) (by repeat (first | exact Has.head | apply Has.tail))) hx3)).kn hm) fun hl15 => ?_
    refine ow_ev ev_len ?_
    refine ow_ev ev_move ?_
    refine ow_nil (hK8 _ _ ?_); clear hK8
    refine cw_block ?_
    refine cw_imp (fun w hm => hm.row_nil (α := Step) 92 (fun _ => ())) ?_
    refine cw_loop (γ := Nat × ((List Step) × Nat) × (SR (GoRep.R Step))) (env := fun (_, (lr_1_0, t49_1), rr_1_0) => [(1, .v (.int .i64 i0)), (3, .v (.int .i64 c0)), (10, .v (.pointer (some ⟨b1, 0, none⟩))), (11, .v (.slice (r_b0.2.2.1.es i0.toNat).a x2.length (r_b0.2.2.1.es i0.toNat).cap)), (12, .v (.slice r_b0.2.1.a b0.tracks.length r_b0.2.1.cap)), (13, .v (.pointer (some ⟨b4, 0, none⟩))), (48, .v (.int .i64 (x2.length : Int))), (49, .v (.int .i64 (t49_1 : Int)))]) (mem := fun (_, (lr_1_0, t49_1), rr_1_0) => [trow 92 (⟨none, 0, (fun _ => ())⟩ : SR (GoRep.R Step)   ) ([] : List Step), own b1 90 [.slice (⟨none, 0, (fun _ => ())⟩ : SR (GoRep.R Step)   ).a (([] : List Step).length) (⟨none, 0, (fun _ => ())⟩ : SR (GoRep.R Step)   ).cap, .int .i64 0], imm (α := (List (List Int))) r_b0.2.1 b0.tracks, trow 92 rr_1_0 lr_1_0, own b4 90 [.slice rr_1_0.a lr_1_0.length rr_1_0.cap, .int .i64 0], imm (α := (List (List Int))) r_b0.2.2.1 b0.between]) (R := fun g => iter (keep_builder_route_b1 x2 i0 b0 c0) g.1 g.2.1 = some y) (μ := fun g => g.1) (FUEL, ((([] : List Step) ++ ([(Step.mk x9 0)] : List Step)), 0), r13) hM ⟨rfl, rfl, rfl, rfl, rfl, rfl, rfl, rfl, trivial⟩ (fun w hm => hm.reord) ?_
    clear hM
    intro g hM KL1 hL1
    obtain ⟨nn1, ⟨lr_1_0, t49_1⟩, rr_1_0⟩ := g
    dsimp only at hM ⊢
    obtain ⟨nn1, cont1, rfl, hcont1, hM⟩ := iter_open' hM
    dsimp only [keep_builder_route_b1] at hM
    refine cw_seq fun K9 hK9 => ?_
    refine cw_region ?_
    refine ow_ev ev_lss ?_
    refine ow_nil (hK9 _ _ ?_); clear hK9
    refine cw_seq fun K10 hK10 => ?_
    refine cw_cond rfl (fun hc17 => ?_) (fun hc17 => ?_)
    ·
      replace hM := (ite_t hc17).symm.trans hM
      have hc17d := of_decide_eq_true hc17
      refine cw_skip (hK10 _ _ ?_); clear hK10
      refine cw_seq fun K11 hK11 => ?_
      refine cw_block ?_
      refine cw_seq fun K12 hK12 => ?_
      refine cw_region ?_
      refine ow_ev ev_move ?_
      refine ow_ev ev_assign ?_
      refine ow_nil (hK12 _ _ ?_); clear hK12
      refine cw_region_z [trow 92 (⟨none, 0, (fun _ => ())⟩ : SR (GoRep.R Step)   ) ([] : List Step), own b1 90 [.slice (⟨none, 0, (fun _ => ())⟩ : SR (GoRep.R Step)   ).a (([] : List Step).length) (⟨none, 0, (fun _ => ())⟩ : SR (GoRep.R Step)   ).cap, .int .i64 0], imm (α := (List (List Int))) r_b0.2.1 b0.tracks, own b4 90 [.slice rr_1_0.a lr_1_0.length rr_1_0.cap, .int .i64 0], imm (α := (List (List Int))) r_b0.2.2.1 b0.between] 10 ?_
      refine az_ev 0 rfl (ev_field_addr 0) ?_
      refine az_ev 1 rfl (ev_load_own (b := b4)) ?_
      refine az_ev 2 rfl ev_move ?_
      refine az_ev 3 rfl ev_move ?_
      obtain ⟨x18, hx19, hM⟩ := bind_some hM
      refine az_ev 4 rfl (ev_idx (xs := x2) 1 ((Sk.elem (Sk.imm (α := List (List Int)) (r := r_b0.2.2.1) (x := b0.between) (by repeat (first | exact Has.head | apply Has.tail))) hx3)).kn (fun hg => let h := idx_some hx19; ⟨h.1, h.2.1⟩)) ?_
      refine az_ev 5 rfl (ev_ld (i := (t49_1 : Int)) (xs := x2) (y := x18) 0 ((Sk.elem (Sk.imm (α := List (List Int)) (r := r_b0.2.2.1) (x := b0.between) (by repeat (first | exact Has.head | apply Has.tail))) hx3)).kn (fun _ => hx19)) ?_
      refine az_ev 6 rfl (ev_build [.int .i64 x18, .int .i64 0]) ?_
      refine az_one 7 rfl (st_bslice (α := Step) 92 (fun _ => ()) ([(Step.mk x18 0)] : List Step) (OkL.flat (fun _ _ _ _ => trivial)) (fun r20 => ⟨fun w hm => hm.sub (by repeat (first | exact List.Sublist.refl _ | apply List.Sublist.cons_cons | apply List.Sublist.cons)), ?_⟩))
      obtain ⟨hb22, hM⟩ := chk_some hM
      refine az_one 8 rfl (st_append (r := rr_1_0) (r2 := r20) (by intro r'; repeat (first | exact Upd.head | apply Upd.tail)) (Kn.trow (e := 92) (r := r20) (by repeat (first | exact Has.head | apply Has.tail))) (OkL.flat (fun _ _ _ _ => trivial)) (of_decide_eq_true hb22) (fun r21 => ⟨fun w hm => hm.sub (by repeat (first | exact List.Sublist.refl _ | apply List.Sublist.cons_cons | apply List.Sublist.cons)), ?_⟩))
      refine az_ev 9 rfl (ev_field_addr 0) ?_
      refine az_last rfl (st_store_own (b := b4) (l' := [.slice r21.a ((lr_1_0 ++ ([(Step.mk x18 0)] : List Step)).length) r21.cap, .int .i64 0]) (k := ?_))
      refine az_done (hK11 _ _ ?_); clear hK11
      refine cw_region ?_
      refine ow_ev (ev_add (hr := fun _ => by unfold I64; omega)) ?_
      refine ow_ev ev_move ?_
      refine ow_nil (hL1 (nn1, ((lr_1_0 ++ ([(Step.mk x18 0)] : List Step)), t49_1 + 1), r21) _ _ (eqc hcont1 hM) (Nat.lt_succ_self _) ⟨rfl, rfl, rfl, rfl, rfl, rfl, rfl, rfl, trivial⟩ (fun w hm => hm.reord))
    ·
      replace hM := (ite_f hc17).symm.trans hM
      refine cw_exit (hK7 _ _ ?_); clear hK7
      dsimp only [keep_builder_route_k2] at hM
      refine cw_seq fun K13 hK13 => ?_
      refine cw_region_z [trow 92 (⟨none, 0, (fun _ => ())⟩ : SR (GoRep.R Step)   ) ([] : List Step), own b1 90 [.slice (⟨none, 0, (fun _ => ())⟩ : SR (GoRep.R Step)   ).a (([] : List Step).length) (⟨none, 0, (fun _ => ())⟩ : SR (GoRep.R Step)   ).cap, .int .i64 0], imm (α := (List (List Int))) r_b0.2.1 b0.tracks, own b4 90 [.slice rr_1_0.a lr_1_0.length rr_1_0.cap, .int .i64 0], imm (α := (List (List Int))) r_b0.2.2.1 b0.between] 21 ?_
      refine az_ev 0 rfl (ev_field_addr 0) ?_
      refine az_ev 1 rfl (ev_load_own (b := b4)) ?_
      refine az_ev 2 rfl ev_move ?_
      refine az_ev 3 rfl ev_move ?_
      obtain ⟨hI23, hM⟩ := chk_some hM
      refine az_ev 4 rfl (ev_add (hr := fun hg => i64b_I64 hI23)) ?_
      obtain ⟨x24, hx25, hM⟩ := bind_some hM
      refine az_ev 5 rfl (ev_idx (xs := b0.tracks) 1 (Kn.imm (α := List (List Int)) (r := r_b0.2.1) (x := b0.tracks) (by repeat (first | exact Has.head | apply Has.tail))) (fun hg => let h := idx_some hx25; ⟨h.1, h.2.1⟩)) ?_
      refine az_ev 6 rfl (ev_ld (i := (i0 + 1)) (xs := b0.tracks) (y := x24) 0 (Kn.imm (α := List (List Int)) (r := r_b0.2.1) (x := b0.tracks) (by repeat (first | exact Has.head | apply Has.tail))) (fun _ => hx25)) ?_
      refine az_ev 7 rfl ev_move ?_
      refine az_ev 8 rfl ev_move ?_
      refine az_ev 9 rfl ev_move ?_
      obtain ⟨hI26, hM⟩ := chk_some hM
      refine az_ev 10 rfl (ev_add (hr := fun hg => i64b_I64 hI26)) ?_
      refine az_ev 11 rfl (ev_idx (xs := b0.tracks) 1 (Kn.imm (α := List (List Int)) (r := r_b0.2.1) (x := b0.tracks) (by repeat (first | exact Has.head | apply Has.tail))) (fun hg => let h := idx_some hx25; ⟨h.1, h.2.1⟩)) ?_
      refine az_ev 12 rfl (ev_ld (i := (i0 + 1)) (xs := b0.tracks) (y := x24) 0 (Kn.imm (α := List (List Int)) (r := r_b0.2.1) (x := b0.tracks) (by repeat (first | exact Has.head | apply Has.tail))) (fun _ => hx25)) ?_
      refine az_ev 13 rfl ev_len ?_
      obtain ⟨hI27, hM⟩ := chk_some hM
      refine az_ev 14 rfl (ev_rem (hq := fun hg => of_decide_eq_true hI27)) ?_
      obtain ⟨x28, hx29, hM⟩ := bind_some hM
      refine az_ev 15 rfl (ev_idx (xs := x24) 1 ((Sk.elem (Sk.imm (α := List (List Int)) (r := r_b0.2.1) (x := b0.tracks) (by repeat (first | exact Has.head | apply Has.tail))) hx25)).kn (fun hg => let h := idx_some hx29; ⟨h.1, h.2.1⟩)) ?_
      refine az_ev 16 rfl (ev_ld (i := (c0.tmod (x24.length : Int))) (xs := x24) (y := x28) 0 ((Sk.elem (Sk.imm (α := List (List Int)) (r := r_b0.2.1) (x := b0.tracks) (by repeat (first | exact Has.head | apply Has.tail))) hx25)).kn (fun _ => hx29)) ?_
      refine az_ev 17 rfl (ev_build [.int .i64 x28, .int .i64 0]) ?_
      refine az_one 18 rfl (st_bslice (α := Step) 92 (fun _ => ()) ([(Step.mk x28 0)] : List Step) (OkL.flat (fun _ _ _ _ => trivial)) (fun r30 => ⟨fun w hm => hm.sub (by repeat (first | exact List.Sublist.refl _ | apply List.Sublist.cons_cons | apply List.Sublist.cons)), ?_⟩))
      obtain ⟨hb32, hM⟩ := chk_some hM
      refine az_one 19 rfl (st_append (r := rr_1_0) (r2 := r30) (by intro r'; repeat (first | exact Upd.head | apply Upd.tail)) (Kn.trow (e := 92) (r := r30) (by repeat (first | exact Has.head | apply Has.tail))) (OkL.flat (fun _ _ _ _ => trivial)) (of_decide_eq_true hb32) (fun r31 => ⟨fun w hm => hm.sub (by repeat (first | exact List.Sublist.refl _ | apply List.Sublist.cons_cons | apply List.Sublist.cons)), ?_⟩))
      refine az_ev 20 rfl (ev_field_addr 0) ?_
      refine az_last rfl (st_store_own (b := b4) (l' := [.slice r31.a ((lr_1_0 ++ ([(Step.mk x28 0)] : List Step)).length) r31.cap, .int .i64 0]) (k := ?_))
      refine az_done (hK13 _ _ ?_); clear hK13
      refine cw_seq fun K14 hK14 => ?_
      refine cw_region ?_
      refine ow_ev (ev_load_all (b := b4)) ?_
      refine ow_cons (st_store_all (b := b1) (vs := [.slice r31.a ((lr_1_0 ++ ([(Step.mk x28 0)] : List Step)).length) r31.cap, .int .i64 0]) (k := ?_))
      refine ow_nil (hK14 _ _ ?_); clear hK14
      obtain rfl := some_inj hM
      refine cw_ret (kw_retc1 (fun w hm => post_of r31 hm rfl))
  ·
    replace hM := (ite_f hc5).symm.trans hM
    refine cw_skip (hK4 _ _ ?_); clear hK4
    dsimp only [keep_builder_route_k1] at hM
    refine cw_seq fun K15 hK15 => ?_
    refine cw_region_z [own b4 90 [.slice none 0 0, .int .i64 0], own b1 90 [.slice none 0 0, .int .i64 0], imm (α := (List (List Int))) r_b0.2.2.2 b0.westward, imm (α := (List (List Int))) r_b0.2.2.1 b0.between, imm (α := (List (List Int))) r_b0.2.1 b0.tracks, imm (α := (List Link)) r_b0.1.2.2.2 b0.l.Links, imm (α := (List Section)) r_b0.1.2.2.1 b0.l.Sections, imm (α := (List Str)) r_b0.1.2.1 b0.l.Points, imm (α := (List Str)) r_b0.1.1 b0.l.Stations, rbox b_b0 76 [.slice r_b0.1.1.a b0.l.Stations.length r_b0.1.1.cap, .slice r_b0.1.2.1.a b0.l.Points.length r_b0.1.2.1.cap, .slice r_b0.1.2.2.1.a b0.l.Sections.length r_b0.1.2.2.1.cap, .slice r_b0.1.2.2.2.a b0.l.Links.length r_b0.1.2.2.2.cap, .slice r_b0.2.1.a b0.tracks.length r_b0.2.1.cap, .slice r_b0.2.2.1.a b0.between.length r_b0.2.2.1.cap, .slice r_b0.2.2.2.a b0.westward.length r_b0.2.2.2.cap]] 21 ?_
    refine az_ev 0 rfl (ev_field_addr 0) ?_
    refine az_ev 1 rfl (ev_load_own (b := b4)) ?_
    refine az_ev 2 rfl ev_move ?_
    refine az_ev 3 rfl ev_move ?_
    obtain ⟨hI33, hM⟩ := chk_some hM
    refine az_ev 4 rfl (ev_add (hr := fun hg => i64b_I64 hI33)) ?_
    obtain ⟨x34, hx35, hM⟩ := bind_some hM
    refine az_ev 5 rfl (ev_idx (xs := b0.tracks) 1 (Kn.imm (α := List (List Int)) (r := r_b0.2.1) (x := b0.tracks) (by repeat (first | exact Has.head | apply Has.tail))) (fun hg => let h := idx_some hx35; ⟨h.1, h.2.1⟩)) ?_
    refine az_ev 6 rfl (ev_ld (i := (i0 + 1)) (xs := b0.tracks) (y := x34) 0 (Kn.imm (α := List (List Int)) (r := r_b0.2.1) (x := b0.tracks) (by repeat (first | exact Has.head | apply Has.tail))) (fun _ => hx35)) ?_
    refine az_ev 7 rfl ev_move ?_
    refine az_ev 8 rfl ev_move ?_
    refine az_ev 9 rfl ev_move ?_
    obtain ⟨hI36, hM⟩ := chk_some hM
    refine az_ev 10 rfl (ev_add (hr := fun hg => i64b_I64 hI36)) ?_
    refine az_ev 11 rfl (ev_idx (xs := b0.tracks) 1 (Kn.imm (α := List (List Int)) (r := r_b0.2.1) (x := b0.tracks) (by repeat (first | exact Has.head | apply Has.tail))) (fun hg => let h := idx_some hx35; ⟨h.1, h.2.1⟩)) ?_
    refine az_ev 12 rfl (ev_ld (i := (i0 + 1)) (xs := b0.tracks) (y := x34) 0 (Kn.imm (α := List (List Int)) (r := r_b0.2.1) (x := b0.tracks) (by repeat (first | exact Has.head | apply Has.tail))) (fun _ => hx35)) ?_
    refine az_ev 13 rfl ev_len ?_
    obtain ⟨hI37, hM⟩ := chk_some hM
    refine az_ev 14 rfl (ev_rem (hq := fun hg => of_decide_eq_true hI37)) ?_
    obtain ⟨x38, hx39, hM⟩ := bind_some hM
    refine az_ev 15 rfl (ev_idx (xs := x34) 1 ((Sk.elem (Sk.imm (α := List (List Int)) (r := r_b0.2.1) (x := b0.tracks) (by repeat (first | exact Has.head | apply Has.tail))) hx35)).kn (fun hg => let h := idx_some hx39; ⟨h.1, h.2.1⟩)) ?_
    refine az_ev 16 rfl (ev_ld (i := (c0.tmod (x34.length : Int))) (xs := x34) (y := x38) 0 ((Sk.elem (Sk.imm (α := List (List Int)) (r := r_b0.2.1) (x := b0.tracks) (by repeat (first | exact Has.head | apply Has.tail))) hx35)).kn (fun _ => hx39)) ?_
    refine az_ev 17 rfl (ev_build [.int .i64 x38, .int .i64 1]) ?_
    refine az_one 18 rfl (st_bslice (α := Step) 92 (fun _ => ()) ([(Step.mk x38 1)] : List Step) (OkL.flat (fun _ _ _ _ => trivial)) (fun r40 => ⟨fun w hm => hm.sub (by repeat (first | exact List.Sublist.refl _ | apply List.Sublist.cons_cons | apply List.Sublist.cons)), ?_⟩))
    refine az_imp (fun w hm => hm.row_nil (α := Step) 92 (fun _ => ())) ?_
    obtain ⟨hb43, hM⟩ := chk_some hM
    refine az_one 19 rfl (st_append (r := (⟨none, 0, (fun _ => ())⟩ : SR (GoRep.R Step)     )) (r2 := r40) (by intro r'; repeat (first | exact Upd.head | apply Upd.tail)) (Kn.trow (e := 92) (r := r40) (by repeat (first | exact Has.head | apply Has.tail))) (OkL.flat (fun _ _ _ _ => trivial)) (of_decide_eq_true hb43) (fun r42 => ⟨fun w hm => hm.sub (by repeat (first | exact List.Sublist.refl _ | apply List.Sublist.cons_cons | apply List.Sublist.cons)), ?_⟩))
    refine az_ev 20 rfl (ev_field_addr 0) ?_
    refine az_last rfl (st_store_own (b := b4) (l' := [.slice r42.a ((([] : List Step) ++ ([(Step.mk x38 1)] : List Step)).length) r42.cap, .int .i64 0]) (k := ?_))
    refine az_done (hK15 _ _ ?_); clear hK15
    refine cw_seq fun K16 hK16 => ?_
    refine cw_seq fun K17 hK17 => ?_
    refine cw_region ?_
    refine ow_ev ev_move ?_
    refine ow_ev ev_len ?_
    obtain ⟨hI44, hM⟩ := chk_some hM
    refine ow_ev (ev_sub (hr := fun hg => i64b_I64 hI44)) ?_
    refine ow_ev ev_assign ?_
    refine ow_nil (hK17 _ _ ?_); clear hK17
    refine cw_block ?_
    refine cw_imp (fun w hm => hm.row_nil (α := Step) 92 (fun _ => ())) ?_
    refine cw_loop (γ := Nat × ((List Step) × Int) × (SR (GoRep.R Step))) (env := fun (_, (lr_2_0, k_2), rr_2_0) => [(1, .v (.int .i64 i0)), (2, .v (.int .i64 a0)), (10, .v (.pointer (some ⟨b1, 0, none⟩))), (11, .v (.slice (r_b0.2.2.1.es i0.toNat).a x2.length (r_b0.2.2.1.es i0.toNat).cap)), (12, .v (.slice r_b0.2.1.a b0.tracks.length r_b0.2.1.cap)), (13, .v (.pointer (some ⟨b4, 0, none⟩))), (15, .v (.int .i64 k_2))]) (mem := fun (_, (lr_2_0, k_2), rr_2_0) => [trow 92 (⟨none, 0, (fun _ => ())⟩ : SR (GoRep.R Step)      ) ([] : List Step), own b1 90 [.slice (⟨none, 0, (fun _ => ())⟩ : SR (GoRep.R Step)      ).a (([] : List Step).length) (⟨none, 0, (fun _ => ())⟩ : SR (GoRep.R Step)      ).cap, .int .i64 0], imm (α := (List (List Int))) r_b0.2.1 b0.tracks, trow 92 rr_2_0 lr_2_0, own b4 90 [.slice rr_2_0.a lr_2_0.length rr_2_0.cap, .int .i64 0], imm (α := (List (List Int))) r_b0.2.2.1 b0.between]) (R := fun g => iter (keep_builder_route_b2 x2 b0 i0 a0) g.1 g.2.1 = some y) (μ := fun g => g.1) (FUEL, ((([] : List Step) ++ ([(Step.mk x38 1)] : List Step)), ((x2.length : Int) - 1)), r42) hM ⟨rfl, rfl, rfl, rfl, rfl, rfl, rfl, trivial⟩ (fun w hm => hm.reord) ?_
    clear hM
    intro g hM KL2 hL2
    obtain ⟨nn2, ⟨lr_2_0, k_2⟩, rr_2_0⟩ := g
    dsimp only at hM ⊢
    obtain ⟨nn2, cont2, rfl, hcont2, hM⟩ := iter_open' hM
    dsimp only [keep_builder_route_b2] at hM
    refine cw_seq fun K18 hK18 => ?_
    refine cw_seq fun K19 hK19 => ?_
    refine cw_region ?_
    refine ow_ev ev_move ?_
    refine ow_ev ev_geq ?_
    refine ow_nil (hK19 _ _ ?_); clear hK19
    refine cw_cond rfl (fun hc46 => ?_) (fun hc46 => ?_)
    ·
      replace hM := (ite_t hc46).symm.trans hM
      refine cw_skip (hK18 _ _ ?_); clear hK18
      refine cw_seq fun K20 hK20 => ?_
      refine cw_block ?_
      refine cw_region_z [trow 92 (⟨none, 0, (fun _ => ())⟩ : SR (GoRep.R Step)      ) ([] : List Step), own b1 90 [.slice (⟨none, 0, (fun _ => ())⟩ : SR (GoRep.R Step)      ).a (([] : List Step).length) (⟨none, 0, (fun _ => ())⟩ : SR (GoRep.R Step)      ).cap, .int .i64 0], imm (α := (List (List Int))) r_b0.2.1 b0.tracks, own b4 90 [.slice rr_2_0.a lr_2_0.length rr_2_0.cap, .int .i64 0], imm (α := (List (List Int))) r_b0.2.2.1 b0.between] 10 ?_
      refine az_ev 0 rfl (ev_field_addr 0) ?_
      refine az_ev 1 rfl (ev_load_own (b := b4)) ?_
      refine az_ev 2 rfl ev_move ?_
      refine az_ev 3 rfl ev_move ?_
      obtain ⟨x47, hx48, hM⟩ := bind_some hM
      refine az_ev 4 rfl (ev_idx (xs := x2) 1 ((Sk.elem (Sk.imm (α := List (List Int)) (r := r_b0.2.2.1) (x := b0.between) (by repeat (first | exact Has.head | apply Has.tail))) hx3)).kn (fun hg => let h := idx_some hx48; ⟨h.1, h.2.1⟩)) ?_
      refine az_ev 5 rfl (ev_ld (i := k_2) (xs := x2) (y := x47) 0 ((Sk.elem (Sk.imm (α := List (List Int)) (r := r_b0.2.2.1) (x := b0.between) (by repeat (first | exact Has.head | apply Has.tail))) hx3)).kn (fun _ => hx48)) ?_
      refine az_ev 6 rfl (ev_build [.int .i64 x47, .int .i64 1]) ?_
      refine az_one 7 rfl (st_bslice (α := Step) 92 (fun _ => ()) ([(Step.mk x47 1)] : List Step) (OkL.flat (fun _ _ _ _ => trivial)) (fun r49 => ⟨fun w hm => hm.sub (by repeat (first | exact List.Sublist.refl _ | apply List.Sublist.cons_cons | apply List.Sublist.cons)), ?_⟩))
      obtain ⟨hb51, hM⟩ := chk_some hM
      refine az_one 8 rfl (st_append (r := rr_2_0) (r2 := r49) (by intro r'; repeat (first | exact Upd.head | apply Upd.tail)) (Kn.trow (e := 92) (r := r49) (by repeat (first | exact Has.head | apply Has.tail))) (OkL.flat (fun _ _ _ _ => trivial)) (of_decide_eq_true hb51) (fun r50 => ⟨fun w hm => hm.sub (by repeat (first | exact List.Sublist.refl _ | apply List.Sublist.cons_cons | apply List.Sublist.cons)), ?_⟩))
      refine az_ev 9 rfl (ev_field_addr 0) ?_
      refine az_last rfl (st_store_own (b := b4) (l' := [.slice r50.a ((lr_2_0 ++ ([(Step.mk x47 1)] : List Step)).length) r50.cap, .int .i64 0]) (k := ?_))
      refine az_done (hK20 _ _ ?_); clear hK20
      refine cw_region ?_
      refine ow_ev ev_move ?_
      obtain ⟨hI52, hM⟩ := chk_some hM
      refine ow_ev (ev_sub (hr := fun hg => i64b_I64 hI52)) ?_
      refine ow_ev ev_assign ?_
      refine ow_nil (hL2 (nn2, ((lr_2_0 ++ ([(Step.mk x47 1)] : List Step)), (k_2 - 1)), r50) _ _ (eqc hcont2 hM) (Nat.lt_succ_self _) ⟨rfl, rfl, rfl, rfl, rfl, rfl, rfl, trivial⟩ (fun w hm => hm.reord))
    ·
      replace hM := (ite_f hc46).symm.trans hM
      refine cw_exit (hK16 _ _ ?_); clear hK16
      dsimp only [keep_builder_route_k3] at hM
      refine cw_seq fun K21 hK21 => ?_
      refine cw_region_z [trow 92 (⟨none, 0, (fun _ => ())⟩ : SR (GoRep.R Step)      ) ([] : List Step), own b1 90 [.slice (⟨none, 0, (fun _ => ())⟩ : SR (GoRep.R Step)      ).a (([] : List Step).length) (⟨none, 0, (fun _ => ())⟩ : SR (GoRep.R Step)      ).cap, .int .i64 0], imm (α := (List (List Int))) r_b0.2.1 b0.tracks, own b4 90 [.slice rr_2_0.a lr_2_0.length rr_2_0.cap, .int .i64 0], imm (α := (List (List Int))) r_b0.2.2.1 b0.between] 19 ?_
      refine az_ev 0 rfl (ev_field_addr 0) ?_
      refine az_ev 1 rfl (ev_load_own (b := b4)) ?_
      refine az_ev 2 rfl ev_move ?_
      refine az_ev 3 rfl ev_move ?_
      obtain ⟨x53, hx54, hM⟩ := bind_some hM
      refine az_ev 4 rfl (ev_idx (xs := b0.tracks) 1 (Kn.imm (α := List (List Int)) (r := r_b0.2.1) (x := b0.tracks) (by repeat (first | exact Has.head | apply Has.tail))) (fun hg => let h := idx_some hx54; ⟨h.1, h.2.1⟩)) ?_
      refine az_ev 5 rfl (ev_ld (i := i0) (xs := b0.tracks) (y := x53) 0 (Kn.imm (α := List (List Int)) (r := r_b0.2.1) (x := b0.tracks) (by repeat (first | exact Has.head | apply Has.tail))) (fun _ => hx54)) ?_
      refine az_ev 6 rfl ev_move ?_
      refine az_ev 7 rfl ev_move ?_
      refine az_ev 8 rfl ev_move ?_
      refine az_ev 9 rfl (ev_idx (xs := b0.tracks) 1 (Kn.imm (α := List (List Int)) (r := r_b0.2.1) (x := b0.tracks) (by repeat (first | exact Has.head | apply Has.tail))) (fun hg => let h := idx_some hx54; ⟨h.1, h.2.1⟩)) ?_
      refine az_ev 10 rfl (ev_ld (i := i0) (xs := b0.tracks) (y := x53) 0 (Kn.imm (α := List (List Int)) (r := r_b0.2.1) (x := b0.tracks) (by repeat (first | exact Has.head | apply Has.tail))) (fun _ => hx54)) ?_
      refine az_ev 11 rfl ev_len ?_
      obtain ⟨hI55, hM⟩ := chk_some hM
      refine az_ev 12 rfl (ev_rem (hq := fun hg => of_decide_eq_true hI55)) ?_
      obtain ⟨x56, hx57, hM⟩ := bind_some hM
      refine az_ev 13 rfl (ev_idx (xs := x53) 1 ((Sk.elem (Sk.imm (α := List (List Int)) (r := r_b0.2.1) (x := b0.tracks) (by repeat (first | exact Has.head | apply Has.tail))) hx54)).kn (fun hg => let h := idx_some hx57; ⟨h.1, h.2.1⟩)) ?_
      refine az_ev 14 rfl (ev_ld (i := (a0.tmod (x53.length : Int))) (xs := x53) (y := x56) 0 ((Sk.elem (Sk.imm (α := List (List Int)) (r := r_b0.2.1) (x := b0.tracks) (by repeat (first | exact Has.head | apply Has.tail))) hx54)).kn (fun _ => hx57)) ?_
      refine az_ev 15 rfl (ev_build [.int .i64 x56, .int .i64 1]) ?_
      refine az_one 16 rfl (st_bslice (α := Step) 92 (fun _ => ()) ([(Step.mk x56 1)] : List Step) (OkL.flat (fun _ _ _ _ => trivial)) (fun r58 => ⟨fun w hm => hm.sub (by repeat (first | exact List.Sublist.refl _ | apply List.Sublist.cons_cons | apply List.Sublist.cons)), ?_⟩))
      obtain ⟨hb60, hM⟩ := chk_some hM
      refine az_one 17 rfl (st_append (r := rr_2_0) (r2 := r58) (by intro r'; repeat (first | exact Upd.head | apply Upd.tail)) (Kn.trow (e := 92) (r := r58) (by repeat (first | exact Has.head | apply Has.tail))) (OkL.flat (fun _ _ _ _ => trivial)) (of_decide_eq_true hb60) (fun r59 => ⟨fun w hm => hm.sub (by repeat (first | exact List.Sublist.refl _ | apply List.Sublist.cons_cons | apply List.Sublist.cons)), ?_⟩))
      refine az_ev 18 rfl (ev_field_addr 0) ?_
      refine az_last rfl (st_store_own (b := b4) (l' := [.slice r59.a ((lr_2_0 ++ ([(Step.mk x56 1)] : List Step)).length) r59.cap, .int .i64 0]) (k := ?_))
      refine az_done (hK21 _ _ ?_); clear hK21
      refine cw_seq fun K22 hK22 => ?_
      refine cw_region ?_
      refine ow_ev (ev_load_all (b := b4)) ?_
      refine ow_cons (st_store_all (b := b1) (vs := [.slice r59.a ((lr_2_0 ++ ([(Step.mk x56 1)] : List Step)).length) r59.cap, .int .i64 0]) (k := ?_))
      refine ow_nil (hK22 _ _ ?_); clear hK22
      obtain rfl := some_inj hM
      refine cw_ret (kw_retc1 (fun w hm => post_of r59 hm rfl))

def keep_builder_line_k5 (lx_2_3 : List Ride) (lb_p0_2_2 : List Route) (y22 : Route) (r_j4_1 : Int) (k_2 : Nat) (cont2 : (Int × (List Route) × (List Ride) × Nat) → Option (Int × (List Route) × (List Line))) : (Int × Int × Int) → Option (Int × (List Route) × (List Line)) := fun (b_s0_j5_1, r_j5_2, r_j5_3) =>
  chk (decide ((lx_2_3.length + ([(Ride.mk (((lb_p0_2_2 ++ ([y22] : List Route)).length : Int) - 1) r_j4_1 r_j5_2 r_j5_3)] : List Ride).length) * 32 ≤ 140737488355328)) <|
  chk (i64b ((k_2 : Int) + 1)) <|
  cont2 (b_s0_j5_1, (lb_p0_2_2 ++ ([y22] : List Route)), (lx_2_3 ++ ([(Ride.mk (((lb_p0_2_2 ++ ([y22] : List Route)).length : Int) - 1) r_j4_1 r_j5_2 r_j5_3)] : List Ride)), k_2 + 1)
def keep_builder_line_k4 (k_2 : Nat) (many0 : Int) (s0 : Keep_Source) (lx_2_3 : List Ride) (lb_p0_2_2 : List Route) (y22 : Route) (cont2 : (Int × (List Route) × (List Ride) × Nat) → Option (Int × (List Route) × (List Line))) : (Int × Int) → Option (Int × (List Route) × (List Line)) := fun (b_s0_j4_1, r_j4_1) =>
  chk (i64b ((k_2 : Int) + 1)) <|
  if decide (((k_2 : Int) + 1) < many0) then
    ((keep_Source_Next_m (Keep_Source.mk s0.l b_s0_j4_1) 6).bind fun y34 =>
    chk (i64b (5 + y34.1)) <|
    (keep_Source_Next_m (Keep_Source.mk s0.l y34.2) 4).bind fun y38 =>
    chk (i64b ((5 + y34.1) + y38.1)) <|
    keep_builder_line_k5 lx_2_3 lb_p0_2_2 y22 r_j4_1 k_2 cont2 (y38.2, (5 + y34.1), ((5 + y34.1) + y38.1)))
  else
    (keep_builder_line_k5 lx_2_3 lb_p0_2_2 y22 r_j4_1 k_2 cont2 (b_s0_j4_1, 0, 0))
def keep_builder_line_k3 (lat_1 : List Int) (b0 : Keep_builder) (up0 : Bool) (lb_p0_2_2 : List Route) (s0 : Keep_Source) (b_s0_2_1 : Int) (k_2 : Nat) (many0 : Int) (lx_2_3 : List Ride) (cont2 : (Int × (List Route) × (List Ride) × Nat) → Option (Int × (List Route) × (List Line))) : Int → Option (Int × (List Route) × (List Line)) := fun i_j3 =>
  (idx lat_1 i_j3).bind fun x17 =>
  chk (i64b (i_j3 + 1)) <|
  (idx lat_1 (i_j3 + 1)).bind fun x20 =>
  (keep_builder_route_m b0 i_j3 x17 x20 up0).bind fun y22 =>
  chk (decide ((lb_p0_2_2.length + ([y22] : List Route).length) * 32 ≤ 140737488355328)) <|
  chk (i64b (((lb_p0_2_2 ++ ([y22] : List Route)).length : Int) - 1)) <|
  (keep_Source_Next_m (Keep_Source.mk s0.l b_s0_2_1) 3).bind fun y43 =>
  keep_builder_line_k4 k_2 many0 s0 lx_2_3 lb_p0_2_2 y22 cont2 (y43.2, y43.1)
def keep_builder_line_k2 (p0 : Plan) (y1 : Str) (y3 : Int × Int) (lx_2_3 : List Ride) (b_s0_2_1 : Int) (lb_p0_2_2 : List Route) : Unit → Option (Int × (List Route) × (List Line)) := fun _ =>
  chk (decide ((p0.Lines.length + ([(Line.mk y1 0 y3.1 lx_2_3)] : List Line).length) * 56 ≤ 140737488355328)) <|
  some (b_s0_2_1, lb_p0_2_2, (p0.Lines ++ ([(Line.mk y1 0 y3.1 lx_2_3)] : List Line)))
def keep_builder_line_b2 (many0 : Int) (up0 : Bool) (lat_1 : List Int) (b0 : Keep_builder) (s0 : Keep_Source) (p0 : Plan) (y1 : Str) (y3 : Int × Int) (cont2 : (Int × (List Route) × (List Ride) × Nat) → Option (Int × (List Route) × (List Line))) : (Int × (List Route) × (List Ride) × Nat) → Option (Int × (List Route) × (List Line)) := fun (b_s0_2_1, lb_p0_2_2, lx_2_3, k_2) =>
  if decide ((k_2 : Int) < many0) then
    (if (!up0) then
      (chk (i64b (many0 - 1)) <|
      chk (i64b ((many0 - 1) - (k_2 : Int))) <|
      keep_builder_line_k3 lat_1 b0 up0 lb_p0_2_2 s0 b_s0_2_1 k_2 many0 lx_2_3 cont2 ((many0 - 1) - (k_2 : Int)))
    else
      (keep_builder_line_k3 lat_1 b0 up0 lb_p0_2_2 s0 b_s0_2_1 k_2 many0 lx_2_3 cont2 (k_2 : Int)))
  else
    (keep_builder_line_k2 p0 y1 y3 lx_2_3 b_s0_2_1 lb_p0_2_2 ())
def keep_builder_line_k1 (many0 : Int) (up0 : Bool) (lat_1 : List Int) (b0 : Keep_builder) (s0 : Keep_Source) (p0 : Plan) (y1 : Str) (y3 : Int × Int) (b_s0_1_1 : Int) : Unit → Option (Int × (List Route) × (List Line)) := fun _ =>
  iter (keep_builder_line_b2 many0 up0 lat_1 b0 s0 p0 y1 y3) FUEL (b_s0_1_1, p0.Routes, ([] : List Ride), 0)
def keep_builder_line_b1 (s0 : Keep_Source) (many0 : Int) (up0 : Bool) (b0 : Keep_builder) (p0 : Plan) (y1 : Str) (y3 : Int × Int) (cont1 : (Int × (List Int) × Nat) → Option (Int × (List Route) × (List Line))) : (Int × (List Int) × Nat) → Option (Int × (List Route) × (List Line)) := fun (b_s0_1_1, lat_1, t25_1) =>
  if decide ((t25_1 : Int) < 3) then
    ((keep_Source_Next_m (Keep_Source.mk s0.l b_s0_1_1) 2).bind fun y10 =>
    (idx lat_1 (t25_1 : Int)).bind fun x13 =>
    cont1 (y10.2, (lat_1.set (t25_1 : Int).toNat y10.1), t25_1 + 1))
  else
    (keep_builder_line_k1 many0 up0 lat_1 b0 s0 p0 y1 y3 b_s0_1_1 ())
def keep_builder_line_m (b0 : Keep_builder) (s0 : Keep_Source) (p0 : Plan) (up0 : Bool) (many0 : Int) : Option (Int × (List Route) × (List Line)) :=
  (keep_named_m (⟨[78]⟩ : Str) (p0.Lines.length : Int)).bind fun y1 =>
  (keep_Source_Next_m s0 4).bind fun y3 =>
  iter (keep_builder_line_b1 s0 many0 up0 b0 p0 y1 y3) FUEL (y3.2, (List.replicate 3 0), 0)
theorem keep_builder_line_spec (S : Soup) (w : World) (b_b0 : Nat) (b0 : Keep_builder) (r_b0 : GoRep.R Keep_builder) (b_s0 : Nat) (s0 : Keep_Source) (r_s0 : GoRep.R Keep_Source) (b_p0 : Nat) (p0 : Plan) (r_p0 : GoRep.R Plan) (up0 : Bool) (many0 : Int) (y : Int × (List Route) × (List Line)) (hM : keep_builder_line_m b0 s0 p0 up0 many0 = some y) (hP : Pre S [own b_s0 136 [.slice r_s0.a s0.l.length r_s0.cap, .int .i64 s0.i], own b_p0 35 [.int .i64 p0.Period, .slice r_p0.1.a p0.Stocks.length r_p0.1.cap, .slice r_p0.2.1.a p0.Routes.length r_p0.2.1.cap, .slice r_p0.2.2.1.a p0.Lines.length r_p0.2.2.1.cap, .slice r_p0.2.2.2.1.a p0.Changes.length r_p0.2.2.2.1.cap, .slice r_p0.2.2.2.2.1.a p0.Turns.length r_p0.2.2.2.2.1.cap, .slice r_p0.2.2.2.2.2.1.a p0.Syncs.length r_p0.2.2.2.2.2.1.cap, .slice r_p0.2.2.2.2.2.2.a p0.Demands.length r_p0.2.2.2.2.2.2.cap], trow 71 r_p0.1 p0.Stocks, trow 90 r_p0.2.1 p0.Routes, trow 56 r_p0.2.2.1 p0.Lines, trow 79 r_p0.2.2.2.1 p0.Changes, trow 94 r_p0.2.2.2.2.1 p0.Turns, trow 84 r_p0.2.2.2.2.2.1 p0.Syncs, trow 86 r_p0.2.2.2.2.2.2 p0.Demands] w) (hb_b0 : S b_b0 ∧ w.heap[b_b0]? = some (.cells [.slice r_b0.1.1.a b0.l.Stations.length r_b0.1.1.cap, .slice r_b0.1.2.1.a b0.l.Points.length r_b0.1.2.1.cap, .slice r_b0.1.2.2.1.a b0.l.Sections.length r_b0.1.2.2.1.cap, .slice r_b0.1.2.2.2.a b0.l.Links.length r_b0.1.2.2.2.cap, .slice r_b0.2.1.a b0.tracks.length r_b0.2.1.cap, .slice r_b0.2.2.1.a b0.between.length r_b0.2.2.1.cap, .slice r_b0.2.2.2.a b0.westward.length r_b0.2.2.2.cap].toArray 76 (0, 0))) (h_b0 : GoRep.ok S w r_b0 b0) (h_s0_0 : GoRep.ok (α := List Int) S w r_s0 s0.l) :
    Calls Tryz.prog 28 #[.pointer (some ⟨b_b0, 0, none⟩), .pointer (some ⟨b_s0, 0, none⟩), .pointer (some ⟨b_p0, 0, none⟩), .bool up0, .int .i64 many0] w (Post (β := (SR (GoRep.R Route)) × (SR (GoRep.R Line))) S [own b_s0 136 [.slice r_s0.a s0.l.length r_s0.cap, .int .i64 s0.i], own b_p0 35 [.int .i64 p0.Period, .slice r_p0.1.a p0.Stocks.length r_p0.1.cap, .slice r_p0.2.1.a p0.Routes.length r_p0.2.1.cap, .slice r_p0.2.2.1.a p0.Lines.length r_p0.2.2.1.cap, .slice r_p0.2.2.2.1.a p0.Changes.length r_p0.2.2.2.1.cap, .slice r_p0.2.2.2.2.1.a p0.Turns.length r_p0.2.2.2.2.1.cap, .slice r_p0.2.2.2.2.2.1.a p0.Syncs.length r_p0.2.2.2.2.2.1.cap, .slice r_p0.2.2.2.2.2.2.a p0.Demands.length r_p0.2.2.2.2.2.2.cap], trow 71 r_p0.1 p0.Stocks, trow 90 r_p0.2.1 p0.Routes, trow 56 r_p0.2.2.1 p0.Lines, trow 79 r_p0.2.2.2.1 p0.Changes, trow 94 r_p0.2.2.2.2.1 p0.Turns, trow 84 r_p0.2.2.2.2.2.1 p0.Syncs, trow 86 r_p0.2.2.2.2.2.2 p0.Demands] (fun g => .tuple #[]) (fun g => [own b_s0 136 [.slice r_s0.a s0.l.length r_s0.cap, .int .i64 y.1], own b_p0 35 [.int .i64 p0.Period, .slice r_p0.1.a p0.Stocks.length r_p0.1.cap, .slice g.1.a y.2.1.length g.1.cap, .slice g.2.a y.2.2.length g.2.cap, .slice r_p0.2.2.2.1.a p0.Changes.length r_p0.2.2.2.1.cap, .slice r_p0.2.2.2.2.1.a p0.Turns.length r_p0.2.2.2.2.1.cap, .slice r_p0.2.2.2.2.2.1.a p0.Syncs.length r_p0.2.2.2.2.2.1.cap, .slice r_p0.2.2.2.2.2.2.a p0.Demands.length r_p0.2.2.2.2.2.2.cap], trow 71 r_p0.1 p0.Stocks, trow 90 g.1 y.2.1, trow 56 g.2 y.2.2, trow 79 r_p0.2.2.2.1 p0.Changes, trow 94 r_p0.2.2.2.2.1 p0.Turns, trow 84 r_p0.2.2.2.2.2.1 p0.Syncs, trow 86 r_p0.2.2.2.2.2.2 p0.Demands]) w) := by
  refine calls_cw (args := [_, _, _, _, _]) Tryz.func28 rfl (hP.start |>.rboxP hb_b0|>.immP (α := List Str) (r := r_b0.1.1) (x := b0.l.Stations) h_b0.1.1|>.immP (α := List Str) (r := r_b0.1.2.1) (x := b0.l.Points) h_b0.1.2.1|>.immP (α := List Section) (r := r_b0.1.2.2.1) (x := b0.l.Sections) h_b0.1.2.2.1|>.immP (α := List Link) (r := r_b0.1.2.2.2) (x := b0.l.Links) h_b0.1.2.2.2|>.immP (α := List (List Int)) (r := r_b0.2.1) (x := b0.tracks) h_b0.2.1|>.immP (α := List (List Int)) (r := r_b0.2.2.1) (x := b0.between) h_b0.2.2.1|>.immP (α := List (List Int)) (r := r_b0.2.2.2) (x := b0.westward) h_b0.2.2.2|>.immP (α := List Int) (r := r_s0) (x := s0.l) h_s0_0) rfl ?_
  unfold keep_builder_line_m at hM
  refine cw_seq fun K1 hK1 => ?_
  refine cw_region ?_
  refine ow_ev ev_move ?_
  refine ow_ev ev_nilcheck ?_
  refine ow_ev (ev_field_addr 3) ?_
  refine ow_ev (ev_load_own (b := b_p0)) ?_
  refine ow_ev ev_len ?_
  obtain ⟨y1, hy2, hM⟩ := bind_some hM
  refine ow_cons (st_callv (fun w hm => let ⟨S, hs⟩ := hm; keep_named_spec _ w (⟨[78]⟩ : Str) (p0.Lines.length : Int) y1 hy2 (lend_lt hs) ) ?_)
  refine ow_ev ev_move ?_
  obtain ⟨y3, hy4, hM⟩ := bind_some hM
  refine ow_cons (st_callF (by repeat (first | exact SelL.nil | (apply SelL.cons; · (repeat (first | exact Sel.head | apply Sel.tail))))) (fun S w hs hP => keep_Source_Next_spec _ w b_s0 s0 r_s0 4 y3 hy4 hP (Kn.lend (Kn.imm (α := List Int) (r := r_s0) (x := s0.l) (by repeat (first | exact Has.head | apply Has.tail))) hs)) (by intro r c hc; simp only [List.mem_cons, List.not_mem_nil, or_false] at hc; rcases hc with rfl <;> first | exact flatC_own | exact flatC_trow (fun _ _ _ _ => trivial)) (fun r5 => ?_))
  dsimp only [List.cons_append, List.nil_append]
  refine ow_ev (ev_build [.string y1.ba, .int .i64 0, .int .i64 y3.1, .slice none 0 0]) ?_
  refine ow_cons (st_alloc rfl (k := fun b6 => ?_))
  refine ow_cons (st_store_all (b := b6) (vs := [.string y1.ba, .int .i64 0, .int .i64 y3.1, .slice none 0 0]) (k := ?_))
  refine ow_nil (hK1 _ _ ?_); clear hK1
  refine cw_seq fun K2 hK2 => ?_
  refine cw_region ?_
  refine ow_cons (st_alloc rfl (k := fun b7 => ?_))
  refine ow_imp (fun w hm => hm.arr (α := Int) (b := b7) (T := 142) (m := 3) (x0 := 0) (rz := ()) rfl (fun _ _ => trivial) (by decide) (by repeat (first | exact Upd.head | apply Upd.tail))) ?_
  refine ow_nil (hK2 _ _ ?_); clear hK2
  refine cw_seq fun K3 hK3 => ?_
  refine cw_seq fun K4 hK4 => ?_
  refine cw_region ?_
  refine ow_ev ev_move ?_
  refine ow_nil (hK4 _ _ ?_); clear hK4
  refine cw_block ?_
  refine cw_imp (fun w hm => hm.row_nil (α := Ride) 58 (fun _ => ())) ?_
  refine cw_loop (γ := Nat × (Int × (List Int) × Nat) × Unit) (env := fun (_, (b_s0_1_1, lat_1, t25_1), _) => [(0, .v (.pointer (some ⟨b_b0, 0, none⟩))), (1, .v (.pointer (some ⟨b_s0, 0, none⟩))), (2, .v (.pointer (some ⟨b_p0, 0, none⟩))), (3, .v (.bool up0)), (4, .v (.int .i64 many0)), (10, .v (.pointer (some ⟨b6, 0, none⟩))), (11, .v (.pointer (some ⟨b7, 0, none⟩))), (25, .v (.int .i64 (t25_1 : Int)))]) (mem := fun (_, (b_s0_1_1, lat_1, t25_1), _) => [imm (α := (List Int)) r_s0 s0.l, own b_s0 136 [.slice r_s0.a s0.l.length r_s0.cap, .int .i64 b_s0_1_1], trow 71 r_p0.1 p0.Stocks, trow 90 r_p0.2.1 p0.Routes, trow 56 r_p0.2.2.1 p0.Lines, trow 79 r_p0.2.2.2.1 p0.Changes, trow 94 r_p0.2.2.2.2.1 p0.Turns, trow 84 r_p0.2.2.2.2.2.1 p0.Syncs, trow 86 r_p0.2.2.2.2.2.2 p0.Demands, own b_p0 35 [.int .i64 p0.Period, .slice r_p0.1.a p0.Stocks.length r_p0.1.cap, .slice r_p0.2.1.a p0.Routes.length r_p0.2.1.cap, .slice r_p0.2.2.1.a p0.Lines.length r_p0.2.2.1.cap, .slice r_p0.2.2.2.1.a p0.Changes.length r_p0.2.2.2.1.cap, .slice r_p0.2.2.2.2.1.a p0.Turns.length r_p0.2.2.2.2.1.cap, .slice r_p0.2.2.2.2.2.1.a p0.Syncs.length r_p0.2.2.2.2.2.1.cap, .slice r_p0.2.2.2.2.2.2.a p0.Demands.length r_p0.2.2.2.2.2.2.cap], imm (α := (List Str)) r_b0.1.1 b0.l.Stations, imm (α := (List Str)) r_b0.1.2.1 b0.l.Points, imm (α := (List Section)) r_b0.1.2.2.1 b0.l.Sections, imm (α := (List Link)) r_b0.1.2.2.2 b0.l.Links, imm (α := (List (List Int))) r_b0.2.1 b0.tracks, imm (α := (List (List Int))) r_b0.2.2.1 b0.between, imm (α := (List (List Int))) r_b0.2.2.2 b0.westward, rbox b_b0 76 [.slice r_b0.1.1.a b0.l.Stations.length r_b0.1.1.cap, .slice r_b0.1.2.1.a b0.l.Points.length r_b0.1.2.1.cap, .slice r_b0.1.2.2.1.a b0.l.Sections.length r_b0.1.2.2.1.cap, .slice r_b0.1.2.2.2.a b0.l.Links.length r_b0.1.2.2.2.cap, .slice r_b0.2.1.a b0.tracks.length r_b0.2.1.cap, .slice r_b0.2.2.1.a b0.between.length r_b0.2.2.1.cap, .slice r_b0.2.2.2.a b0.westward.length r_b0.2.2.2.cap], trow 58 (⟨none, 0, (fun _ => ())⟩ : SR (GoRep.R Ride) ) ([] : List Ride), own b6 56 [.string y1.ba, .int .i64 0, .int .i64 y3.1, .slice (⟨none, 0, (fun _ => ())⟩ : SR (GoRep.R Ride) ).a (([] : List Ride).length) (⟨none, 0, (fun _ => ())⟩ : SR (GoRep.R Ride) ).cap], trow 142 (⟨some ⟨b7, 0, none⟩, 3, fun _ => ()⟩ : SR (GoRep.R Int)) lat_1]) (R := fun g => iter (keep_builder_line_b1 s0 many0 up0 b0 p0 y1 y3) g.1 g.2.1 = some y) (μ := fun g => g.1) (FUEL, (y3.2, (List.replicate 3 0), 0), ()) hM ⟨rfl, rfl, rfl, rfl, rfl, rfl, rfl, rfl, trivial⟩ (fun w hm => hm.reord) ?_
  clear hM
  intro g hM KL1 hL1
  obtain ⟨nn1, ⟨b_s0_1_1, lat_1, t25_1⟩, ⟨⟩⟩ := g
  dsimp only at hM ⊢
  obtain ⟨nn1, cont1, rfl, hcont1, hM⟩ := iter_open' hM
  dsimp only [keep_builder_line_b1] at hM
  refine cw_seq fun K5 hK5 => ?_
  refine cw_region ?_
  refine ow_ev ev_lss ?_
  refine ow_nil (hK5 _ _ ?_); clear hK5
  refine cw_seq fun K6 hK6 => ?_
  refine cw_cond rfl (fun hc9 => ?_) (fun hc9 => ?_)
  ·
    replace hM := (ite_t hc9).symm.trans hM
    have hc9d := of_decide_eq_true hc9
    refine cw_skip (hK6 _ _ ?_); clear hK6
    refine cw_seq fun K7 hK7 => ?_
    refine cw_block ?_
    refine cw_seq fun K8 hK8 => ?_
    refine cw_region ?_
    refine ow_ev ev_move ?_
    refine ow_ev ev_assign ?_
    refine ow_nil (hK8 _ _ ?_); clear hK8
    refine cw_region ?_
    refine ow_ev ev_move ?_
    refine ow_ev ev_move ?_
    obtain ⟨y10, hy11, hM⟩ := bind_some hM
    refine ow_cons (st_callF (by repeat (first | exact SelL.nil | (apply SelL.cons; · (repeat (first | exact Sel.head | apply Sel.tail))))) (fun S w hs hP => keep_Source_Next_spec _ w b_s0 (Keep_Source.mk s0.l b_s0_1_1) r_s0 2 y10 hy11 hP (Kn.lend (Kn.imm (α := List Int) (r := r_s0) (x := s0.l) (by repeat (first | exact Has.head | apply Has.tail))) hs)) (by intro r c hc; simp only [List.mem_cons, List.not_mem_nil, or_false] at hc; rcases hc with rfl <;> first | exact flatC_own | exact flatC_trow (fun _ _ _ _ => trivial)) (fun r12 => ?_))
    dsimp only [List.cons_append, List.nil_append]
    obtain ⟨x13, hx14, hM⟩ := bind_some hM
    refine ow_ev (ev_aidx (r := (⟨some ⟨b7, 0, none⟩, 3, fun _ => ()⟩ : SR (GoRep.R Int))) (xs := lat_1) 1 (Kn.trow (e := 142) (r := (⟨some ⟨b7, 0, none⟩, 3, fun _ => ()⟩ : SR (GoRep.R Int))) (by repeat (first | exact Has.head | apply Has.tail))) (fun hg => let h := idx_some hx14; ⟨h.1, h.2.1⟩)) ?_
    refine ow_cons (st_set (r := (⟨some ⟨b7, 0, none⟩, 3, fun _ => ()⟩ : SR (GoRep.R Int))) (i := (t25_1 : Int)) (xs := lat_1) (u := x13) (vs := [.int .i64 y10.1]) 0 y10.1 hx14 rfl (fun _ _ h => h) (by repeat (first | exact Upd.head | apply Upd.tail)) ?_)
    have hx15 := idx_set_same (u := y10.1) hx14
    refine ow_nil (hK7 _ _ ?_); clear hK7
    refine cw_region ?_
    refine ow_ev (ev_add (hr := fun _ => by unfold I64; omega)) ?_
    refine ow_ev ev_move ?_
    refine ow_nil (hL1 (nn1, (y10.2, (lat_1.set (t25_1 : Int).toNat y10.1), t25_1 + 1), ()) _ _ (eqc hcont1 hM) (Nat.lt_succ_self _) ⟨rfl, rfl, rfl, rfl, rfl, rfl, rfl, rfl, trivial⟩ (fun w hm => hm.reord))
  ·
    replace hM := (ite_f hc9).symm.trans hM
    refine cw_exit (hK3 _ _ ?_); clear hK3
    dsimp only [keep_builder_line_k1] at hM
    refine cw_seq fun K9 hK9 => ?_
    refine cw_seq fun K10 hK10 => ?_
    refine cw_region ?_
    refine ow_ev ev_assign ?_
    refine ow_nil (hK10 _ _ ?_); clear hK10
    refine cw_block ?_
    refine cw_loop (γ := Nat × (Int × (List Route) × (List Ride) × Nat) × ((SR (GoRep.R Route)) × (SR (GoRep.R Ride)))) (env := fun (_, (b_s0_2_1, lb_p0_2_2, lx_2_3, k_2), (rb_p0_2_2, rx_2_3)) => [(0, .v (.pointer (some ⟨b_b0, 0, none⟩))), (1, .v (.pointer (some ⟨b_s0, 0, none⟩))), (2, .v (.pointer (some ⟨b_p0, 0, none⟩))), (3, .v (.bool up0)), (4, .v (.int .i64 many0)), (10, .v (.pointer (some ⟨b6, 0, none⟩))), (11, .v (.pointer (some ⟨b7, 0, none⟩))), (13, .v (.int .i64 (k_2 : Int)))]) (mem := fun (_, (b_s0_2_1, lb_p0_2_2, lx_2_3, k_2), (rb_p0_2_2, rx_2_3)) => [imm (α := (List Int)) r_s0 s0.l, own b_s0 136 [.slice r_s0.a s0.l.length r_s0.cap, .int .i64 b_s0_2_1], trow 71 r_p0.1 p0.Stocks, trow 90 rb_p0_2_2 lb_p0_2_2, trow 56 r_p0.2.2.1 p0.Lines, trow 79 r_p0.2.2.2.1 p0.Changes, trow 94 r_p0.2.2.2.2.1 p0.Turns, trow 84 r_p0.2.2.2.2.2.1 p0.Syncs, trow 86 r_p0.2.2.2.2.2.2 p0.Demands, own b_p0 35 [.int .i64 p0.Period, .slice r_p0.1.a p0.Stocks.length r_p0.1.cap, .slice rb_p0_2_2.a lb_p0_2_2.length rb_p0_2_2.cap, .slice r_p0.2.2.1.a p0.Lines.length r_p0.2.2.1.cap, .slice r_p0.2.2.2.1.a p0.Changes.length r_p0.2.2.2.1.cap, .slice r_p0.2.2.2.2.1.a p0.Turns.length r_p0.2.2.2.2.1.cap, .slice r_p0.2.2.2.2.2.1.a p0.Syncs.length r_p0.2.2.2.2.2.1.cap, .slice r_p0.2.2.2.2.2.2.a p0.Demands.length r_p0.2.2.2.2.2.2.cap], imm (α := (List Str)) r_b0.1.1 b0.l.Stations, imm (α := (List Str)) r_b0.1.2.1 b0.l.Points, imm (α := (List Section)) r_b0.1.2.2.1 b0.l.Sections, imm (α := (List Link)) r_b0.1.2.2.2 b0.l.Links, imm (α := (List (List Int))) r_b0.2.1 b0.tracks, imm (α := (List (List Int))) r_b0.2.2.1 b0.between, imm (α := (List (List Int))) r_b0.2.2.2 b0.westward, rbox b_b0 76 [.slice r_b0.1.1.a b0.l.Stations.length r_b0.1.1.cap, .slice r_b0.1.2.1.a b0.l.Points.length r_b0.1.2.1.cap, .slice r_b0.1.2.2.1.a b0.l.Sections.length r_b0.1.2.2.1.cap, .slice r_b0.1.2.2.2.a b0.l.Links.length r_b0.1.2.2.2.cap, .slice r_b0.2.1.a b0.tracks.length r_b0.2.1.cap, .slice r_b0.2.2.1.a b0.between.length r_b0.2.2.1.cap, .slice r_b0.2.2.2.a b0.westward.length r_b0.2.2.2.cap], trow 58 rx_2_3 lx_2_3, own b6 56 [.string y1.ba, .int .i64 0, .int .i64 y3.1, .slice rx_2_3.a lx_2_3.length rx_2_3.cap], trow 142 (⟨some ⟨b7, 0, none⟩, 3, fun _ => ()⟩ : SR (GoRep.R Int)) lat_1]) (R := fun g => iter (keep_builder_line_b2 many0 up0 lat_1 b0 s0 p0 y1 y3) g.1 g.2.1 = some y) (μ := fun g => g.1) (FUEL, (b_s0_1_1, p0.Routes, ([] : List Ride), 0), (r_p0.2.1, (⟨none, 0, (fun _ => ())⟩ : SR (GoRep.R Ride) ))) hM ⟨rfl, rfl, rfl, rfl, rfl, rfl, rfl, rfl, trivial⟩ (fun w hm => hm.reord) ?_
    clear hM
    intro g hM KL2 hL2
    obtain ⟨nn2, ⟨b_s0_2_1, lb_p0_2_2, lx_2_3, k_2⟩, ⟨rb_p0_2_2, rx_2_3⟩⟩ := g
    dsimp only at hM ⊢
    obtain ⟨nn2, cont2, rfl, hcont2, hM⟩ := iter_open' hM
    dsimp only [keep_builder_line_b2] at hM
    refine cw_seq fun K11 hK11 => ?_
    refine cw_seq fun K12 hK12 => ?_
    refine cw_region ?_
    refine ow_ev ev_move ?_
    refine ow_ev ev_move ?_
    refine ow_ev ev_lss ?_
    refine ow_nil (hK12 _ _ ?_); clear hK12
    refine cw_cond rfl (fun hc16 => ?_) (fun hc16 => ?_)
    ·
      replace hM := (ite_t hc16).symm.trans hM
      refine cw_skip (hK11 _ _ ?_); clear hK11
      refine cw_seq fun K13 hK13 => ?_
      refine cw_block ?_
      refine cw_seq fun K14 hK14 => ?_
      refine cw_region ?_
      refine ow_ev ev_move ?_
      refine ow_ev ev_assign ?_
      refine ow_nil (hK14 _ _ ?_); clear hK14
      refine cw_cut (γ := Int × Unit) (env := fun (i_j3, _) => [(0, .v (.pointer (some ⟨b_b0, 0, none⟩))), (1, .v (.pointer (some ⟨b_s0, 0, none⟩))), (2, .v (.pointer (some ⟨b_p0, 0, none⟩))), (3, .v (.bool up0)), (4, .v (.int .i64 many0)), (10, .v (.pointer (some ⟨b6, 0, none⟩))), (11, .v (.pointer (some ⟨b7, 0, none⟩))), (13, .v (.int .i64 (k_2 : Int))), (14, .v (.int .i64 i_j3))]) (mem := fun (i_j3, _) => [imm (α := (List Int)) r_s0 s0.l, own b_s0 136 [.slice r_s0.a s0.l.length r_s0.cap, .int .i64 b_s0_2_1], trow 71 r_p0.1 p0.Stocks, trow 90 rb_p0_2_2 lb_p0_2_2, trow 56 r_p0.2.2.1 p0.Lines, trow 79 r_p0.2.2.2.1 p0.Changes, trow 94 r_p0.2.2.2.2.1 p0.Turns, trow 84 r_p0.2.2.2.2.2.1 p0.Syncs, trow 86 r_p0.2.2.2.2.2.2 p0.Demands, own b_p0 35 [.int .i64 p0.Period, .slice r_p0.1.a p0.Stocks.length r_p0.1.cap, .slice rb_p0_2_2.a lb_p0_2_2.length rb_p0_2_2.cap, .slice r_p0.2.2.1.a p0.Lines.length r_p0.2.2.1.cap, .slice r_p0.2.2.2.1.a p0.Changes.length r_p0.2.2.2.1.cap, .slice r_p0.2.2.2.2.1.a p0.Turns.length r_p0.2.2.2.2.1.cap, .slice r_p0.2.2.2.2.2.1.a p0.Syncs.length r_p0.2.2.2.2.2.1.cap, .slice r_p0.2.2.2.2.2.2.a p0.Demands.length r_p0.2.2.2.2.2.2.cap], imm (α := (List Str)) r_b0.1.1 b0.l.Stations, imm (α := (List Str)) r_b0.1.2.1 b0.l.Points, imm (α := (List Section)) r_b0.1.2.2.1 b0.l.Sections, imm (α := (List Link)) r_b0.1.2.2.2 b0.l.Links, imm (α := (List (List Int))) r_b0.2.1 b0.tracks, imm (α := (List (List Int))) r_b0.2.2.1 b0.between, imm (α := (List (List Int))) r_b0.2.2.2 b0.westward, rbox b_b0 76 [.slice r_b0.1.1.a b0.l.Stations.length r_b0.1.1.cap, .slice r_b0.1.2.1.a b0.l.Points.length r_b0.1.2.1.cap, .slice r_b0.1.2.2.1.a b0.l.Sections.length r_b0.1.2.2.1.cap, .slice r_b0.1.2.2.2.a b0.l.Links.length r_b0.1.2.2.2.cap, .slice r_b0.2.1.a b0.tracks.length r_b0.2.1.cap, .slice r_b0.2.2.1.a b0.between.length r_b0.2.2.1.cap, .slice r_b0.2.2.2.a b0.westward.length r_b0.2.2.2.cap], trow 58 rx_2_3 lx_2_3, own b6 56 [.string y1.ba, .int .i64 0, .int .i64 y3.1, .slice rx_2_3.a lx_2_3.length rx_2_3.cap], trow 142 (⟨some ⟨b7, 0, none⟩, 3, fun _ => ()⟩ : SR (GoRep.R Int)) lat_1]) (R := fun g => keep_builder_line_k3 lat_1 b0 up0 lb_p0_2_2 s0 b_s0_2_1 k_2 many0 lx_2_3 cont2 g.1 = some y) ?_ ?_
      · intro KJ3 hJ3
        refine cw_seq fun K18 hK18 => ?_
        refine cw_region ?_
        refine ow_ev ev_move ?_
        refine ow_ev ev_not ?_
        refine ow_nil (hK18 _ _ ?_); clear hK18
        refine cw_cond rfl (fun hc49 => ?_) (fun hc49 => ?_)
        ·
          replace hM := (ite_t hc49).symm.trans hM
          refine cw_region ?_
          refine ow_ev ev_move ?_
          obtain ⟨hI50, hM⟩ := chk_some hM
          refine ow_ev (ev_sub (hr := fun hg => i64b_I64 hI50)) ?_
          refine ow_ev ev_move ?_
          obtain ⟨hI51, hM⟩ := chk_some hM
          refine ow_ev (ev_sub (hr := fun hg => i64b_I64 hI51)) ?_
          refine ow_ev ev_assign ?_
          refine ow_nil (hJ3 (((many0 - 1) - (k_2 : Int)), ()) _ _ hM ⟨rfl, rfl, rfl, rfl, rfl, rfl, rfl, rfl, rfl, trivial⟩ (fun w hm => hm.reord))
        ·
          replace hM := (ite_f hc49).symm.trans hM
          refine cw_skip (hJ3 ((k_2 : Int), ()) _ _ hM ⟨rfl, rfl, rfl, rfl, rfl, rfl, rfl, rfl, rfl, trivial⟩ (fun w hm => hm.reord))
      ·
        clear hM
        intro g hM
        obtain ⟨i_j3, ⟨⟩⟩ := g
        dsimp only at hM ⊢
        dsimp only [keep_builder_line_k3] at hM
        refine cw_seq fun K15 hK15 => ?_
        refine cw_region_z [imm (α := (List Int)) r_s0 s0.l, own b_s0 136 [.slice r_s0.a s0.l.length r_s0.cap, .int .i64 b_s0_2_1], trow 71 r_p0.1 p0.Stocks, trow 56 r_p0.2.2.1 p0.Lines, trow 79 r_p0.2.2.2.1 p0.Changes, trow 94 r_p0.2.2.2.2.1 p0.Turns, trow 84 r_p0.2.2.2.2.2.1 p0.Syncs, trow 86 r_p0.2.2.2.2.2.2 p0.Demands, own b_p0 35 [.int .i64 p0.Period, .slice r_p0.1.a p0.Stocks.length r_p0.1.cap, .slice rb_p0_2_2.a lb_p0_2_2.length rb_p0_2_2.cap, .slice r_p0.2.2.1.a p0.Lines.length r_p0.2.2.1.cap, .slice r_p0.2.2.2.1.a p0.Changes.length r_p0.2.2.2.1.cap, .slice r_p0.2.2.2.2.1.a p0.Turns.length r_p0.2.2.2.2.1.cap, .slice r_p0.2.2.2.2.2.1.a p0.Syncs.length r_p0.2.2.2.2.2.1.cap, .slice r_p0.2.2.2.2.2.2.a p0.Demands.length r_p0.2.2.2.2.2.2.cap], imm (α := (List Str)) r_b0.1.1 b0.l.Stations, imm (α := (List Str)) r_b0.1.2.1 b0.l.Points, imm (α := (List Section)) r_b0.1.2.2.1 b0.l.Sections, imm (α := (List Link)) r_b0.1.2.2.2 b0.l.Links, imm (α := (List (List Int))) r_b0.2.1 b0.tracks, imm (α := (List (List Int))) r_b0.2.2.1 b0.between, imm (α := (List (List Int))) r_b0.2.2.2 b0.westward, rbox b_b0 76 [.slice r_b0.1.1.a b0.l.Stations.length r_b0.1.1.cap, .slice r_b0.1.2.1.a b0.l.Points.length r_b0.1.2.1.cap, .slice r_b0.1.2.2.1.a b0.l.Sections.length r_b0.1.2.2.1.cap, .slice r_b0.1.2.2.2.a b0.l.Links.length r_b0.1.2.2.2.cap, .slice r_b0.2.1.a b0.tracks.length r_b0.2.1.cap, .slice r_b0.2.2.1.a b0.between.length r_b0.2.2.1.cap, .slice r_b0.2.2.2.a b0.westward.length r_b0.2.2.2.cap], trow 58 rx_2_3 lx_2_3, own b6 56 [.string y1.ba, .int .i64 0, .int .i64 y3.1, .slice rx_2_3.a lx_2_3.length rx_2_3.cap], trow 142 (⟨some ⟨b7, 0, none⟩, 3, fun _ => ()⟩ : SR (GoRep.R Int)) lat_1] 20 ?_
        refine az_ev 0 rfl ev_move ?_
        refine az_ev 1 rfl ev_move ?_
        refine az_ev 2 rfl ev_nilcheck ?_
        refine az_ev 3 rfl (ev_field_addr 2) ?_
        refine az_ev 4 rfl (ev_load_own (b := b_p0)) ?_
        refine az_ev 5 rfl ev_move ?_
        refine az_ev 6 rfl ev_move ?_
        refine az_ev 7 rfl ev_move ?_
        obtain ⟨x17, hx18, hM⟩ := bind_some hM
        refine az_ev 8 rfl (ev_aidx (r := (⟨some ⟨b7, 0, none⟩, 3, fun _ => ()⟩ : SR (GoRep.R Int))) (xs := lat_1) 1 (Kn.trow (e := 142) (r := (⟨some ⟨b7, 0, none⟩, 3, fun _ => ()⟩ : SR (GoRep.R Int))) (by repeat (first | exact Has.head | apply Has.tail))) (fun hg => let h := idx_some hx18; ⟨h.1, h.2.1⟩)) ?_
        refine az_ev 9 rfl (ev_ld (i := i_j3) (xs := lat_1) (y := x17) 0 (Kn.trow (e := 142) (r := (⟨some ⟨b7, 0, none⟩, 3, fun _ => ()⟩ : SR (GoRep.R Int))) (by repeat (first | exact Has.head | apply Has.tail))) (fun _ => hx18)) ?_
        refine az_ev 10 rfl ev_move ?_
        obtain ⟨hI19, hM⟩ := chk_some hM
        refine az_ev 11 rfl (ev_add (hr := fun hg => i64b_I64 hI19)) ?_
        obtain ⟨x20, hx21, hM⟩ := bind_some hM
        refine az_ev 12 rfl (ev_aidx (r := (⟨some ⟨b7, 0, none⟩, 3, fun _ => ()⟩ : SR (GoRep.R Int))) (xs := lat_1) 1 (Kn.trow (e := 142) (r := (⟨some ⟨b7, 0, none⟩, 3, fun _ => ()⟩ : SR (GoRep.R Int))) (by repeat (first | exact Has.head | apply Has.tail))) (fun hg => let h := idx_some hx21; ⟨h.1, h.2.1⟩)) ?_
        refine az_ev 13 rfl (ev_ld (i := (i_j3 + 1)) (xs := lat_1) (y := x20) 0 (Kn.trow (e := 142) (r := (⟨some ⟨b7, 0, none⟩, 3, fun _ => ()⟩ : SR (GoRep.R Int))) (by repeat (first | exact Has.head | apply Has.tail))) (fun _ => hx21)) ?_
        refine az_ev 14 rfl ev_move ?_
        obtain ⟨y22, hy23, hM⟩ := bind_some hM
        refine az_one 15 rfl (st_callF SelL.nil (fun S w hs hP => keep_builder_route_spec _ w b_b0 b0 r_b0 i_j3 x17 x20 up0 y22 hy23 (lend_lt hs) (rbox_lend (by repeat (first | exact Has.head | apply Has.tail)) hs) ⟨⟨(Kn.lend (Kn.imm (α := List Str) (r := r_b0.1.1) (x := b0.l.Stations) (by repeat (first | exact Has.head | apply Has.tail))) hs), (Kn.lend (Kn.imm (α := List Str) (r := r_b0.1.2.1) (x := b0.l.Points) (by repeat (first | exact Has.head | apply Has.tail))) hs), (Kn.lend (Kn.imm (α := List Section) (r := r_b0.1.2.2.1) (x := b0.l.Sections) (by repeat (first | exact Has.head | apply Has.tail))) hs), (Kn.lend (Kn.imm (α := List Link) (r := r_b0.1.2.2.2) (x := b0.l.Links) (by repeat (first | exact Has.head | apply Has.tail))) hs)⟩, (Kn.lend (Kn.imm (α := List (List Int)) (r := r_b0.2.1) (x := b0.tracks) (by repeat (first | exact Has.head | apply Has.tail))) hs), (Kn.lend (Kn.imm (α := List (List Int)) (r := r_b0.2.2.1) (x := b0.between) (by repeat (first | exact Has.head | apply Has.tail))) hs), (Kn.lend (Kn.imm (α := List (List Int)) (r := r_b0.2.2.2) (x := b0.westward) (by repeat (first | exact Has.head | apply Has.tail))) hs)⟩) (by intro r c hc; simp only [List.mem_cons, List.not_mem_nil, or_false] at hc; rcases hc with rfl <;> first | exact flatC_own | exact flatC_trow (fun _ _ _ _ => trivial)) (fun r24 => ⟨fun w hm => hm.sub (by repeat (first | exact List.Sublist.refl _ | apply List.Sublist.cons_cons | apply List.Sublist.cons)), ?_⟩))
        dsimp only [List.cons_append, List.nil_append]
        refine az_imp (fun w hm => hm.freeze (r := r24) (by repeat (first | exact Upd.head | apply Upd.tail))) ?_
        refine az_one 16 rfl (st_bslice (α := Route) 90 (fun _ => r24) ([y22] : List Route) (OkL.cons (fun S w hs => ((Sk.imm (α := List Step) (r := r24) (x := y22.Steps) (by repeat (first | exact Has.head | apply Has.tail))) S w hs)) OkL.nil) (fun r25 => ⟨fun w hm => hm.sub (by repeat (first | exact List.Sublist.refl _ | apply List.Sublist.cons_cons | apply List.Sublist.cons)), ?_⟩))
        obtain ⟨hb27, hM⟩ := chk_some hM
        refine az_one 17 rfl (st_append (r := rb_p0_2_2) (r2 := r25) (by intro r'; repeat (first | exact Upd.head | apply Upd.tail)) (Kn.trow (e := 90) (r := r25) (by repeat (first | exact Has.head | apply Has.tail))) (OkL.row (e := 90) (r := r25) (by repeat (first | exact Has.head | apply Has.tail))) (of_decide_eq_true hb27) (fun r26 => ⟨fun w hm => hm.sub (by repeat (first | exact List.Sublist.refl _ | apply List.Sublist.cons_cons | apply List.Sublist.cons)), ?_⟩))
        refine az_ev 18 rfl ev_nilcheck ?_
        refine az_ev 19 rfl (ev_field_addr 2) ?_
        refine az_last rfl (st_store_own (b := b_p0) (l' := [.int .i64 p0.Period, .slice r_p0.1.a p0.Stocks.length r_p0.1.cap, .slice r26.a ((lb_p0_2_2 ++ ([y22] : List Route)).length) r26.cap, .slice r_p0.2.2.1.a p0.Lines.length r_p0.2.2.1.cap, .slice r_p0.2.2.2.1.a p0.Changes.length r_p0.2.2.2.1.cap, .slice r_p0.2.2.2.2.1.a p0.Turns.length r_p0.2.2.2.2.1.cap, .slice r_p0.2.2.2.2.2.1.a p0.Syncs.length r_p0.2.2.2.2.2.1.cap, .slice r_p0.2.2.2.2.2.2.a p0.Demands.length r_p0.2.2.2.2.2.2.cap]) (k := ?_))
        refine az_done (hK15 _ _ ?_); clear hK15
        refine cw_cut (γ := (Int × Int) × Nat) (env := fun ((b_s0_j4_1, r_j4_1), br_j4) => [(0, .v (.pointer (some ⟨b_b0, 0, none⟩))), (1, .v (.pointer (some ⟨b_s0, 0, none⟩))), (2, .v (.pointer (some ⟨b_p0, 0, none⟩))), (3, .v (.bool up0)), (4, .v (.int .i64 many0)), (10, .v (.pointer (some ⟨b6, 0, none⟩))), (11, .v (.pointer (some ⟨b7, 0, none⟩))), (13, .v (.int .i64 (k_2 : Int))), (15, .v (.pointer (some ⟨br_j4, 0, none⟩)))]) (mem := fun ((b_s0_j4_1, r_j4_1), br_j4) => [imm (α := (List Int)) r_s0 s0.l, own b_s0 136 [.slice r_s0.a s0.l.length r_s0.cap, .int .i64 b_s0_j4_1], trow 71 r_p0.1 p0.Stocks, trow 90 r26 (lb_p0_2_2 ++ ([y22] : List Route)), trow 56 r_p0.2.2.1 p0.Lines, trow 79 r_p0.2.2.2.1 p0.Changes, trow 94 r_p0.2.2.2.2.1 p0.Turns, trow 84 r_p0.2.2.2.2.2.1 p0.Syncs, trow 86 r_p0.2.2.2.2.2.2 p0.Demands, own b_p0 35 [.int .i64 p0.Period, .slice r_p0.1.a p0.Stocks.length r_p0.1.cap, .slice r26.a ((lb_p0_2_2 ++ ([y22] : List Route)).length) r26.cap, .slice r_p0.2.2.1.a p0.Lines.length r_p0.2.2.1.cap, .slice r_p0.2.2.2.1.a p0.Changes.length r_p0.2.2.2.1.cap, .slice r_p0.2.2.2.2.1.a p0.Turns.length r_p0.2.2.2.2.1.cap, .slice r_p0.2.2.2.2.2.1.a p0.Syncs.length r_p0.2.2.2.2.2.1.cap, .slice r_p0.2.2.2.2.2.2.a p0.Demands.length r_p0.2.2.2.2.2.2.cap], imm (α := (List Str)) r_b0.1.1 b0.l.Stations, imm (α := (List Str)) r_b0.1.2.1 b0.l.Points, imm (α := (List Section)) r_b0.1.2.2.1 b0.l.Sections, imm (α := (List Link)) r_b0.1.2.2.2 b0.l.Links, imm (α := (List (List Int))) r_b0.2.1 b0.tracks, imm (α := (List (List Int))) r_b0.2.2.1 b0.between, imm (α := (List (List Int))) r_b0.2.2.2 b0.westward, rbox b_b0 76 [.slice r_b0.1.1.a b0.l.Stations.length r_b0.1.1.cap, .slice r_b0.1.2.1.a b0.l.Points.length r_b0.1.2.1.cap, .slice r_b0.1.2.2.1.a b0.l.Sections.length r_b0.1.2.2.1.cap, .slice r_b0.1.2.2.2.a b0.l.Links.length r_b0.1.2.2.2.cap, .slice r_b0.2.1.a b0.tracks.length r_b0.2.1.cap, .slice r_b0.2.2.1.a b0.between.length r_b0.2.2.1.cap, .slice r_b0.2.2.2.a b0.westward.length r_b0.2.2.2.cap], trow 58 rx_2_3 lx_2_3, own b6 56 [.string y1.ba, .int .i64 0, .int .i64 y3.1, .slice rx_2_3.a lx_2_3.length rx_2_3.cap], trow 142 (⟨some ⟨b7, 0, none⟩, 3, fun _ => ()⟩ : SR (GoRep.R Int)) lat_1, own br_j4 58 [.int .i64 (((lb_p0_2_2 ++ ([y22] : List Route)).length : Int) - 1), .int .i64 r_j4_1, .int .i64 0, .int .i64 0]]) (R := fun g => keep_builder_line_k4 k_2 many0 s0 lx_2_3 lb_p0_2_2 y22 cont2 g.1 = some y) ?_ ?_
        · intro KJ4 hJ4
          refine cw_region_any [trow 90 r25 ([y22] : List Route), imm (α := (List Step)) r24 y22.Steps, imm (α := (List Int)) r_s0 s0.l, trow 71 r_p0.1 p0.Stocks, trow 90 r26 (lb_p0_2_2 ++ ([y22] : List Route)), trow 56 r_p0.2.2.1 p0.Lines, trow 79 r_p0.2.2.2.1 p0.Changes, trow 94 r_p0.2.2.2.2.1 p0.Turns, trow 84 r_p0.2.2.2.2.2.1 p0.Syncs, trow 86 r_p0.2.2.2.2.2.2 p0.Demands, own b_p0 35 [.int .i64 p0.Period, .slice r_p0.1.a p0.Stocks.length r_p0.1.cap, .slice r26.a ((lb_p0_2_2 ++ ([y22] : List Route)).length) r26.cap, .slice r_p0.2.2.1.a p0.Lines.length r_p0.2.2.1.cap, .slice r_p0.2.2.2.1.a p0.Changes.length r_p0.2.2.2.1.cap, .slice r_p0.2.2.2.2.1.a p0.Turns.length r_p0.2.2.2.2.1.cap, .slice r_p0.2.2.2.2.2.1.a p0.Syncs.length r_p0.2.2.2.2.2.1.cap, .slice r_p0.2.2.2.2.2.2.a p0.Demands.length r_p0.2.2.2.2.2.2.cap], imm (α := (List Str)) r_b0.1.1 b0.l.Stations, imm (α := (List Str)) r_b0.1.2.1 b0.l.Points, imm (α := (List Section)) r_b0.1.2.2.1 b0.l.Sections, imm (α := (List Link)) r_b0.1.2.2.2 b0.l.Links, imm (α := (List (List Int))) r_b0.2.1 b0.tracks, imm (α := (List (List Int))) r_b0.2.2.1 b0.between, imm (α := (List (List Int))) r_b0.2.2.2 b0.westward, rbox b_b0 76 [.slice r_b0.1.1.a b0.l.Stations.length r_b0.1.1.cap, .slice r_b0.1.2.1.a b0.l.Points.length r_b0.1.2.1.cap, .slice r_b0.1.2.2.1.a b0.l.Sections.length r_b0.1.2.2.1.cap, .slice r_b0.1.2.2.2.a b0.l.Links.length r_b0.1.2.2.2.cap, .slice r_b0.2.1.a b0.tracks.length r_b0.2.1.cap, .slice r_b0.2.2.1.a b0.between.length r_b0.2.2.1.cap, .slice r_b0.2.2.2.a b0.westward.length r_b0.2.2.2.cap], trow 58 rx_2_3 lx_2_3, own b6 56 [.string y1.ba, .int .i64 0, .int .i64 y3.1, .slice rx_2_3.a lx_2_3.length rx_2_3.cap], trow 142 (⟨some ⟨b7, 0, none⟩, 3, fun _ => ()⟩ : SR (GoRep.R Int)) lat_1] (by repeat (first | exact List.Sublist.refl _ | apply List.Sublist.cons_cons | apply List.Sublist.cons)) ?_
          refine aw_ev 0 rfl ev_move ?_
          refine aw_ev 1 rfl ev_nilcheck ?_
          refine aw_ev 2 rfl (ev_field_addr 2) ?_
          refine aw_ev 3 rfl (ev_load_own (b := b_p0)) ?_
          refine aw_ev 4 rfl ev_len ?_
          obtain ⟨hI42, hM⟩ := chk_some hM
          refine aw_ev 5 rfl (ev_sub (hr := fun hg => i64b_I64 hI42)) ?_
          refine aw_ev 6 rfl ev_move ?_
          obtain ⟨y43, hy44, hM⟩ := bind_some hM
          refine aw_two 7 9 (⟨_, rfl, rfl, st_callF (by repeat (first | exact SelL.nil | (apply SelL.cons; · (repeat (first | exact Sel.head | apply Sel.tail))))) (fun S w hs hP => keep_Source_Next_spec _ w b_s0 (Keep_Source.mk s0.l b_s0_2_1) r_s0 3 y43 hy44 hP (Kn.lend (Kn.imm (α := List Int) (r := r_s0) (x := s0.l) (by repeat (first | exact Has.head | apply Has.tail))) hs)) (by intro r c hc; simp only [List.mem_cons, List.not_mem_nil, or_false] at hc; rcases hc with rfl <;> first | exact flatC_own | exact flatC_trow (fun _ _ _ _ => trivial)) (fun r45 => ⟨fun w hm => hm.sub (by repeat (first | exact List.Sublist.refl _ | apply List.Sublist.cons_cons | apply List.Sublist.cons)), ?_⟩)⟩) (⟨_, rfl, rfl, st_alloc rfl (k := fun b46 => ⟨fun w hm => hm.sub (by repeat (first | exact List.Sublist.refl _ | apply List.Sublist.cons_cons | apply List.Sublist.cons)), ?_⟩)⟩)
          ·
            dsimp only [List.cons_append, List.nil_append]
            refine aw_ev 8 rfl (ev_build [.int .i64 (((lb_p0_2_2 ++ ([y22] : List Route)).length : Int) - 1), .int .i64 y43.1, .int .i64 0, .int .i64 0]) ?_
            refine aw_one 9 rfl (st_alloc rfl (k := fun b47 => ⟨fun w hm => hm.sub (by repeat (first | exact List.Sublist.refl _ | apply List.Sublist.cons_cons | apply List.Sublist.cons)), ?_⟩))
            refine aw_one 10 rfl (st_store_all (b := b47) (vs := [.int .i64 (((lb_p0_2_2 ++ ([y22] : List Route)).length : Int) - 1), .int .i64 y43.1, .int .i64 0, .int .i64 0]) (k := ⟨fun w hm => hm.sub (by repeat (first | exact List.Sublist.refl _ | apply List.Sublist.cons_cons | apply List.Sublist.cons)), ?_⟩))
            refine aw_done (hJ4 ((y43.2, y43.1), b47) _ _ hM ⟨rfl, rfl, rfl, rfl, rfl, rfl, rfl, rfl, rfl, trivial⟩ (fun w hm => hm.reord))
          ·
            refine aw_one 7 rfl (st_callF (by repeat (first | exact SelL.nil | (apply SelL.cons; · (repeat (first | exact Sel.head | apply Sel.tail))))) (fun S w hs hP => keep_Source_Next_spec _ w b_s0 (Keep_Source.mk s0.l b_s0_2_1) r_s0 3 y43 hy44 hP (Kn.lend (Kn.imm (α := List Int) (r := r_s0) (x := s0.l) (by repeat (first | exact Has.head | apply Has.tail))) hs)) (by intro r c hc; simp only [List.mem_cons, List.not_mem_nil, or_false] at hc; rcases hc with rfl <;> first | exact flatC_own | exact flatC_trow (fun _ _ _ _ => trivial)) (fun r48 => ⟨fun w hm => hm.sub (by repeat (first | exact List.Sublist.refl _ | apply List.Sublist.cons_cons | apply List.Sublist.cons)), ?_⟩))
            dsimp only [List.cons_append, List.nil_append]
            refine aw_ev 8 rfl (ev_build [.int .i64 (((lb_p0_2_2 ++ ([y22] : List Route)).length : Int) - 1), .int .i64 y43.1, .int .i64 0, .int .i64 0]) ?_
            refine aw_one 10 rfl (st_store_all (b := b46) (vs := [.int .i64 (((lb_p0_2_2 ++ ([y22] : List Route)).length : Int) - 1), .int .i64 y43.1, .int .i64 0, .int .i64 0]) (k := ⟨fun w hm => hm.sub (by repeat (first | exact List.Sublist.refl _ | apply List.Sublist.cons_cons | apply List.Sublist.cons)), ?_⟩))
            refine aw_done (hJ4 ((y43.2, y43.1), b46) _ _ hM ⟨rfl, rfl, rfl, rfl, rfl, rfl, rfl, rfl, rfl, trivial⟩ (fun w hm => hm.reord))
        ·
          clear hM
          intro g hM
          obtain ⟨⟨b_s0_j4_1, r_j4_1⟩, br_j4⟩ := g
          dsimp only at hM ⊢
          dsimp only [keep_builder_line_k4] at hM
          refine cw_cut (γ := (Int × Int × Int) × Unit) (env := fun ((b_s0_j5_1, r_j5_2, r_j5_3), _) => [(0, .v (.pointer (some ⟨b_b0, 0, none⟩))), (1, .v (.pointer (some ⟨b_s0, 0, none⟩))), (2, .v (.pointer (some ⟨b_p0, 0, none⟩))), (3, .v (.bool up0)), (4, .v (.int .i64 many0)), (10, .v (.pointer (some ⟨b6, 0, none⟩))), (11, .v (.pointer (some ⟨b7, 0, none⟩))), (13, .v (.int .i64 (k_2 : Int))), (15, .v (.pointer (some ⟨br_j4, 0, none⟩)))]) (mem := fun ((b_s0_j5_1, r_j5_2, r_j5_3), _) => [imm (α := (List Int)) r_s0 s0.l, own b_s0 136 [.slice r_s0.a s0.l.length r_s0.cap, .int .i64 b_s0_j5_1], trow 71 r_p0.1 p0.Stocks, trow 90 r26 (lb_p0_2_2 ++ ([y22] : List Route)), trow 56 r_p0.2.2.1 p0.Lines, trow 79 r_p0.2.2.2.1 p0.Changes, trow 94 r_p0.2.2.2.2.1 p0.Turns, trow 84 r_p0.2.2.2.2.2.1 p0.Syncs, trow 86 r_p0.2.2.2.2.2.2 p0.Demands, own b_p0 35 [.int .i64 p0.Period, .slice r_p0.1.a p0.Stocks.length r_p0.1.cap, .slice r26.a ((lb_p0_2_2 ++ ([y22] : List Route)).length) r26.cap, .slice r_p0.2.2.1.a p0.Lines.length r_p0.2.2.1.cap, .slice r_p0.2.2.2.1.a p0.Changes.length r_p0.2.2.2.1.cap, .slice r_p0.2.2.2.2.1.a p0.Turns.length r_p0.2.2.2.2.1.cap, .slice r_p0.2.2.2.2.2.1.a p0.Syncs.length r_p0.2.2.2.2.2.1.cap, .slice r_p0.2.2.2.2.2.2.a p0.Demands.length r_p0.2.2.2.2.2.2.cap], imm (α := (List Str)) r_b0.1.1 b0.l.Stations, imm (α := (List Str)) r_b0.1.2.1 b0.l.Points, imm (α := (List Section)) r_b0.1.2.2.1 b0.l.Sections, imm (α := (List Link)) r_b0.1.2.2.2 b0.l.Links, imm (α := (List (List Int))) r_b0.2.1 b0.tracks, imm (α := (List (List Int))) r_b0.2.2.1 b0.between, imm (α := (List (List Int))) r_b0.2.2.2 b0.westward, rbox b_b0 76 [.slice r_b0.1.1.a b0.l.Stations.length r_b0.1.1.cap, .slice r_b0.1.2.1.a b0.l.Points.length r_b0.1.2.1.cap, .slice r_b0.1.2.2.1.a b0.l.Sections.length r_b0.1.2.2.1.cap, .slice r_b0.1.2.2.2.a b0.l.Links.length r_b0.1.2.2.2.cap, .slice r_b0.2.1.a b0.tracks.length r_b0.2.1.cap, .slice r_b0.2.2.1.a b0.between.length r_b0.2.2.1.cap, .slice r_b0.2.2.2.a b0.westward.length r_b0.2.2.2.cap], trow 58 rx_2_3 lx_2_3, own b6 56 [.string y1.ba, .int .i64 0, .int .i64 y3.1, .slice rx_2_3.a lx_2_3.length rx_2_3.cap], trow 142 (⟨some ⟨b7, 0, none⟩, 3, fun _ => ()⟩ : SR (GoRep.R Int)) lat_1, own br_j4 58 [.int .i64 (((lb_p0_2_2 ++ ([y22] : List Route)).length : Int) - 1), .int .i64 r_j4_1, .int .i64 r_j5_2, .int .i64 r_j5_3]]) (R := fun g => keep_builder_line_k5 lx_2_3 lb_p0_2_2 y22 r_j4_1 k_2 cont2 g.1 = some y) ?_ ?_
          · intro KJ5 hJ5
            refine cw_seq fun K16 hK16 => ?_
            refine cw_region ?_
            refine ow_ev ev_move ?_
            obtain ⟨hI32, hM⟩ := chk_some hM
            refine ow_ev (ev_add (hr := fun hg => i64b_I64 hI32)) ?_
            refine ow_ev ev_move ?_
            refine ow_ev ev_lss ?_
            refine ow_nil (hK16 _ _ ?_); clear hK16
            refine cw_cond rfl (fun hc33 => ?_) (fun hc33 => ?_)
            ·
              replace hM := (ite_t hc33).symm.trans hM
              refine cw_seq fun K17 hK17 => ?_
              refine cw_region ?_
              refine ow_ev ev_move ?_
              obtain ⟨y34, hy35, hM⟩ := bind_some hM
              refine ow_cons (st_callF (by repeat (first | exact SelL.nil | (apply SelL.cons; · (repeat (first | exact Sel.head | apply Sel.tail))))) (fun S w hs hP => keep_Source_Next_spec _ w b_s0 (Keep_Source.mk s0.l b_s0_j4_1) r_s0 6 y34 hy35 hP (Kn.lend (Kn.imm (α := List Int) (r := r_s0) (x := s0.l) (by repeat (first | exact Has.head | apply Has.tail))) hs)) (by intro r c hc; simp only [List.mem_cons, List.not_mem_nil, or_false] at hc; rcases hc with rfl <;> first | exact flatC_own | exact flatC_trow (fun _ _ _ _ => trivial)) (fun r36 => ?_))
              dsimp only [List.cons_append, List.nil_append]
              obtain ⟨hI37, hM⟩ := chk_some hM
              refine ow_ev (ev_add (hr := fun hg => i64b_I64 hI37)) ?_
              refine ow_ev (ev_field_addr 2) ?_
              refine ow_cons (st_store_own (b := br_j4) (l' := [.int .i64 (((lb_p0_2_2 ++ ([y22] : List Route)).length : Int) - 1), .int .i64 r_j4_1, .int .i64 (5 + y34.1), .int .i64 0]) (k := ?_))
              refine ow_nil (hK17 _ _ ?_); clear hK17
              refine cw_region_z [imm (α := (List Int)) r_s0 s0.l, trow 71 r_p0.1 p0.Stocks, trow 90 r26 (lb_p0_2_2 ++ ([y22] : List Route)), trow 56 r_p0.2.2.1 p0.Lines, trow 79 r_p0.2.2.2.1 p0.Changes, trow 94 r_p0.2.2.2.2.1 p0.Turns, trow 84 r_p0.2.2.2.2.2.1 p0.Syncs, trow 86 r_p0.2.2.2.2.2.2 p0.Demands, own b_p0 35 [.int .i64 p0.Period, .slice r_p0.1.a p0.Stocks.length r_p0.1.cap, .slice r26.a ((lb_p0_2_2 ++ ([y22] : List Route)).length) r26.cap, .slice r_p0.2.2.1.a p0.Lines.length r_p0.2.2.1.cap, .slice r_p0.2.2.2.1.a p0.Changes.length r_p0.2.2.2.1.cap, .slice r_p0.2.2.2.2.1.a p0.Turns.length r_p0.2.2.2.2.1.cap, .slice r_p0.2.2.2.2.2.1.a p0.Syncs.length r_p0.2.2.2.2.2.1.cap, .slice r_p0.2.2.2.2.2.2.a p0.Demands.length r_p0.2.2.2.2.2.2.cap], imm (α := (List Str)) r_b0.1.1 b0.l.Stations, imm (α := (List Str)) r_b0.1.2.1 b0.l.Points, imm (α := (List Section)) r_b0.1.2.2.1 b0.l.Sections, imm (α := (List Link)) r_b0.1.2.2.2 b0.l.Links, imm (α := (List (List Int))) r_b0.2.1 b0.tracks, imm (α := (List (List Int))) r_b0.2.2.1 b0.between, imm (α := (List (List Int))) r_b0.2.2.2 b0.westward, rbox b_b0 76 [.slice r_b0.1.1.a b0.l.Stations.length r_b0.1.1.cap, .slice r_b0.1.2.1.a b0.l.Points.length r_b0.1.2.1.cap, .slice r_b0.1.2.2.1.a b0.l.Sections.length r_b0.1.2.2.1.cap, .slice r_b0.1.2.2.2.a b0.l.Links.length r_b0.1.2.2.2.cap, .slice r_b0.2.1.a b0.tracks.length r_b0.2.1.cap, .slice r_b0.2.2.1.a b0.between.length r_b0.2.2.1.cap, .slice r_b0.2.2.2.a b0.westward.length r_b0.2.2.2.cap], trow 58 rx_2_3 lx_2_3, own b6 56 [.string y1.ba, .int .i64 0, .int .i64 y3.1, .slice rx_2_3.a lx_2_3.length rx_2_3.cap], trow 142 (⟨some ⟨b7, 0, none⟩, 3, fun _ => ()⟩ : SR (GoRep.R Int)) lat_1, own br_j4 58 [.int .i64 (((lb_p0_2_2 ++ ([y22] : List Route)).length : Int) - 1), .int .i64 r_j4_1, .int .i64 (5 + y34.1), .int .i64 0]] 6 ?_
              refine az_ev 0 rfl (ev_field_addr 2) ?_
              refine az_ev 1 rfl (ev_load_own (b := br_j4)) ?_
              refine az_ev 2 rfl ev_move ?_
              obtain ⟨y38, hy39, hM⟩ := bind_some hM
              refine az_one 3 rfl (st_callF (by repeat (first | exact SelL.nil | (apply SelL.cons; · (repeat (first | exact Sel.head | apply Sel.tail))))) (fun S w hs hP => keep_Source_Next_spec _ w b_s0 (Keep_Source.mk s0.l y34.2) r_s0 4 y38 hy39 hP (Kn.lend (Kn.imm (α := List Int) (r := r_s0) (x := s0.l) (by repeat (first | exact Has.head | apply Has.tail))) hs)) (by intro r c hc; simp only [List.mem_cons, List.not_mem_nil, or_false] at hc; rcases hc with rfl <;> first | exact flatC_own | exact flatC_trow (fun _ _ _ _ => trivial)) (fun r40 => ⟨fun w hm => hm.sub (by repeat (first | exact List.Sublist.refl _ | apply List.Sublist.cons_cons | apply List.Sublist.cons)), ?_⟩))
              dsimp only [List.cons_append, List.nil_append]
              obtain ⟨hI41, hM⟩ := chk_some hM
              refine az_ev 4 rfl (ev_add (hr := fun hg => i64b_I64 hI41)) ?_
              refine az_ev 5 rfl (ev_field_addr 3) ?_
              refine az_last rfl (st_store_own (b := br_j4) (l' := [.int .i64 (((lb_p0_2_2 ++ ([y22] : List Route)).length : Int) - 1), .int .i64 r_j4_1, .int .i64 (5 + y34.1), .int .i64 ((5 + y34.1) + y38.1)]) (k := ?_))
              refine az_done (hJ5 ((y38.2, (5 + y34.1), ((5 + y34.1) + y38.1)), ()) _ _ hM ⟨rfl, rfl, rfl, rfl, rfl, rfl, rfl, rfl, rfl, trivial⟩ (fun w hm => hm.reord))
            ·
              replace hM := (ite_f hc33).symm.trans hM
              refine cw_skip (hJ5 ((b_s0_j4_1, 0, 0), ()) _ _ hM ⟨rfl, rfl, rfl, rfl, rfl, rfl, rfl, rfl, rfl, trivial⟩ (fun w hm => hm.reord))
          ·
            clear hM
            intro g hM
            obtain ⟨⟨b_s0_j5_1, r_j5_2, r_j5_3⟩, ⟨⟩⟩ := g
            dsimp only at hM ⊢
            dsimp only [keep_builder_line_k5] at hM
            refine cw_region ?_
            refine ow_ev (ev_field_addr 3) ?_
            refine ow_ev (ev_load_own (b := b6)) ?_
            refine ow_ev (ev_load_all (b := br_j4)) ?_
            refine ow_cons (st_bslice (α := Ride) 58 (fun _ => ()) ([(Ride.mk (((lb_p0_2_2 ++ ([y22] : List Route)).length : Int) - 1) r_j4_1 r_j5_2 r_j5_3)] : List Ride) (OkL.flat (fun _ _ _ _ => trivial)) (fun r28 => ?_))
            obtain ⟨hb30, hM⟩ := chk_some hM
            refine ow_cons (st_append (r := rx_2_3) (r2 := r28) (by intro r'; repeat (first | exact Upd.head | apply Upd.tail)) (Kn.trow (e := 58) (r := r28) (by repeat (first | exact Has.head | apply Has.tail))) (OkL.flat (fun _ _ _ _ => trivial)) (of_decide_eq_true hb30) (fun r29 => ?_))
            refine ow_ev (ev_field_addr 3) ?_
            refine ow_cons (st_store_own (b := b6) (l' := [.string y1.ba, .int .i64 0, .int .i64 y3.1, .slice r29.a ((lx_2_3 ++ ([(Ride.mk (((lb_p0_2_2 ++ ([y22] : List Route)).length : Int) - 1) r_j4_1 r_j5_2 r_j5_3)] : List Ride)).length) r29.cap]) (k := ?_))
            refine ow_nil (hK13 _ _ ?_); clear hK13
            refine cw_region ?_
            refine ow_ev ev_move ?_
            obtain ⟨hI31, hM⟩ := chk_some hM
            refine ow_ev (ev_add (hr := fun hg => i64b_I64 hI31)) ?_
            refine ow_ev ev_assign ?_
            refine ow_nil (hL2 (nn2, (b_s0_j5_1, (lb_p0_2_2 ++ ([y22] : List Route)), (lx_2_3 ++ ([(Ride.mk (((lb_p0_2_2 ++ ([y22] : List Route)).length : Int) - 1) r_j4_1 r_j5_2 r_j5_3)] : List Ride)), k_2 + 1), (r26, r29)) _ _ (eqc hcont2 hM) (Nat.lt_succ_self _) ⟨rfl, rfl, rfl, rfl, rfl, rfl, rfl, rfl, trivial⟩ (fun w hm => hm.reord))
    ·
      replace hM := (ite_f hc16).symm.trans hM
      refine cw_exit (hK9 _ _ ?_); clear hK9
      dsimp only [keep_builder_line_k2] at hM
      refine cw_region_z [imm (α := (List Int)) r_s0 s0.l, own b_s0 136 [.slice r_s0.a s0.l.length r_s0.cap, .int .i64 b_s0_2_1], trow 71 r_p0.1 p0.Stocks, trow 90 rb_p0_2_2 lb_p0_2_2, trow 79 r_p0.2.2.2.1 p0.Changes, trow 94 r_p0.2.2.2.2.1 p0.Turns, trow 84 r_p0.2.2.2.2.2.1 p0.Syncs, trow 86 r_p0.2.2.2.2.2.2 p0.Demands, own b_p0 35 [.int .i64 p0.Period, .slice r_p0.1.a p0.Stocks.length r_p0.1.cap, .slice rb_p0_2_2.a lb_p0_2_2.length rb_p0_2_2.cap, .slice r_p0.2.2.1.a p0.Lines.length r_p0.2.2.1.cap, .slice r_p0.2.2.2.1.a p0.Changes.length r_p0.2.2.2.1.cap, .slice r_p0.2.2.2.2.1.a p0.Turns.length r_p0.2.2.2.2.1.cap, .slice r_p0.2.2.2.2.2.1.a p0.Syncs.length r_p0.2.2.2.2.2.1.cap, .slice r_p0.2.2.2.2.2.2.a p0.Demands.length r_p0.2.2.2.2.2.2.cap], imm (α := (List Str)) r_b0.1.1 b0.l.Stations, imm (α := (List Str)) r_b0.1.2.1 b0.l.Points, imm (α := (List Section)) r_b0.1.2.2.1 b0.l.Sections, imm (α := (List Link)) r_b0.1.2.2.2 b0.l.Links, imm (α := (List (List Int))) r_b0.2.1 b0.tracks, imm (α := (List (List Int))) r_b0.2.2.1 b0.between, imm (α := (List (List Int))) r_b0.2.2.2 b0.westward, rbox b_b0 76 [.slice r_b0.1.1.a b0.l.Stations.length r_b0.1.1.cap, .slice r_b0.1.2.1.a b0.l.Points.length r_b0.1.2.1.cap, .slice r_b0.1.2.2.1.a b0.l.Sections.length r_b0.1.2.2.1.cap, .slice r_b0.1.2.2.2.a b0.l.Links.length r_b0.1.2.2.2.cap, .slice r_b0.2.1.a b0.tracks.length r_b0.2.1.cap, .slice r_b0.2.2.1.a b0.between.length r_b0.2.2.1.cap, .slice r_b0.2.2.2.a b0.westward.length r_b0.2.2.2.cap], own b6 56 [.string y1.ba, .int .i64 0, .int .i64 y3.1, .slice rx_2_3.a lx_2_3.length rx_2_3.cap], trow 142 (⟨some ⟨b7, 0, none⟩, 3, fun _ => ()⟩ : SR (GoRep.R Int)) lat_1] 10 ?_
      refine az_ev 0 rfl ev_move ?_
      refine az_ev 1 rfl ev_move ?_
      refine az_ev 2 rfl ev_nilcheck ?_
      refine az_ev 3 rfl (ev_field_addr 3) ?_
      refine az_ev 4 rfl (ev_load_own (b := b_p0)) ?_
      refine az_ev 5 rfl (ev_load_all (b := b6)) ?_
      refine az_imp (fun w hm => hm.freeze (r := rx_2_3) (by repeat (first | exact Upd.head | apply Upd.tail))) ?_
      refine az_one 6 rfl (st_bslice (α := Line) 56 (fun _ => rx_2_3) ([(Line.mk y1 0 y3.1 lx_2_3)] : List Line) (OkL.cons (fun S w hs => ((Sk.imm (α := List Ride) (r := rx_2_3) (x := lx_2_3) (by repeat (first | exact Has.head | apply Has.tail))) S w hs)) OkL.nil) (fun r52 => ⟨fun w hm => hm.sub (by repeat (first | exact List.Sublist.refl _ | apply List.Sublist.cons_cons | apply List.Sublist.cons)), ?_⟩))
      obtain ⟨hb54, hM⟩ := chk_some hM
      refine az_one 7 rfl (st_append (r := r_p0.2.2.1) (r2 := r52) (by intro r'; repeat (first | exact Upd.head | apply Upd.tail)) (Kn.trow (e := 56) (r := r52) (by repeat (first | exact Has.head | apply Has.tail))) (OkL.row (e := 56) (r := r52) (by repeat (first | exact Has.head | apply Has.tail))) (of_decide_eq_true hb54) (fun r53 => ⟨fun w hm => hm.sub (by repeat (first | exact List.Sublist.refl _ | apply List.Sublist.cons_cons | apply List.Sublist.cons)), ?_⟩))
      refine az_ev 8 rfl ev_nilcheck ?_
      refine az_ev 9 rfl (ev_field_addr 3) ?_
      refine az_last rfl (st_store_own (b := b_p0) (l' := [.int .i64 p0.Period, .slice r_p0.1.a p0.Stocks.length r_p0.1.cap, .slice rb_p0_2_2.a lb_p0_2_2.length rb_p0_2_2.cap, .slice r53.a ((p0.Lines ++ ([(Line.mk y1 0 y3.1 lx_2_3)] : List Line)).length) r53.cap, .slice r_p0.2.2.2.1.a p0.Changes.length r_p0.2.2.2.1.cap, .slice r_p0.2.2.2.2.1.a p0.Turns.length r_p0.2.2.2.2.1.cap, .slice r_p0.2.2.2.2.2.1.a p0.Syncs.length r_p0.2.2.2.2.2.1.cap, .slice r_p0.2.2.2.2.2.2.a p0.Demands.length r_p0.2.2.2.2.2.2.cap]) (k := ?_))
      obtain rfl := some_inj hM
      refine az_done (kw_end0 rfl (fun w hm => post_of (rb_p0_2_2, r53) hm rfl))

def keep_stop_m (p0 : Plan) (line0 : Int) (ride0 : Int) : Option Int :=
  (idx p0.Lines line0).bind fun x2 =>
  (idx x2.Rides ride0).bind fun x4 =>
  (idx p0.Routes x4.Route).bind fun x6 =>
  chk (i64b ((x6.Steps.length : Int) - 1)) <|
  (idx x6.Steps ((x6.Steps.length : Int) - 1)).bind fun x10 =>
  some x10.Section
theorem keep_stop_spec (S : Soup) (w : World) (p0 : Plan) (r_p0 : GoRep.R Plan) (line0 : Int) (ride0 : Int) (y : Int) (hM : keep_stop_m p0 line0 ride0 = some y) (hS : ∀ k, S k → k < w.heap.size) (h_p0 : GoRep.ok S w r_p0 p0) :
    Calls Tryz.prog 30 #[.agg #[.int .i64 p0.Period, .slice r_p0.1.a p0.Stocks.length r_p0.1.cap, .slice r_p0.2.1.a p0.Routes.length r_p0.2.1.cap, .slice r_p0.2.2.1.a p0.Lines.length r_p0.2.2.1.cap, .slice r_p0.2.2.2.1.a p0.Changes.length r_p0.2.2.2.1.cap, .slice r_p0.2.2.2.2.1.a p0.Turns.length r_p0.2.2.2.2.1.cap, .slice r_p0.2.2.2.2.2.1.a p0.Syncs.length r_p0.2.2.2.2.2.1.cap, .slice r_p0.2.2.2.2.2.2.a p0.Demands.length r_p0.2.2.2.2.2.2.cap], .int .i64 line0, .int .i64 ride0] w (Ret w (.int .i64 y)) := by
  refine calls_cw (args := [_, _, _]) Tryz.func30 rfl ((pre_nil hS).start |>.immP (α := List Stock) (r := r_p0.1) (x := p0.Stocks) h_p0.1|>.immP (α := List Route) (r := r_p0.2.1) (x := p0.Routes) h_p0.2.1|>.immP (α := List Line) (r := r_p0.2.2.1) (x := p0.Lines) h_p0.2.2.1|>.immP (α := List Change) (r := r_p0.2.2.2.1) (x := p0.Changes) h_p0.2.2.2.1|>.immP (α := List Turn) (r := r_p0.2.2.2.2.1) (x := p0.Turns) h_p0.2.2.2.2.1|>.immP (α := List Sync) (r := r_p0.2.2.2.2.2.1) (x := p0.Syncs) h_p0.2.2.2.2.2.1|>.immP (α := List Demand) (r := r_p0.2.2.2.2.2.2) (x := p0.Demands) h_p0.2.2.2.2.2.2) rfl ?_
  unfold keep_stop_m at hM
  refine cw_seq fun K1 hK1 => ?_
  refine cw_region ?_
  refine ow_cons (st_box (l := [.int .i64 p0.Period, .slice r_p0.1.a p0.Stocks.length r_p0.1.cap, .slice r_p0.2.1.a p0.Routes.length r_p0.2.1.cap, .slice r_p0.2.2.1.a p0.Lines.length r_p0.2.2.1.cap, .slice r_p0.2.2.2.1.a p0.Changes.length r_p0.2.2.2.1.cap, .slice r_p0.2.2.2.2.1.a p0.Turns.length r_p0.2.2.2.2.1.cap, .slice r_p0.2.2.2.2.2.1.a p0.Syncs.length r_p0.2.2.2.2.2.1.cap, .slice r_p0.2.2.2.2.2.2.a p0.Demands.length r_p0.2.2.2.2.2.2.cap]) (k := fun b1 => ?_))
  refine ow_ev ev_assign ?_
  refine ow_nil (hK1 _ _ ?_); clear hK1
  refine cw_seq fun K2 hK2 => ?_
  refine cw_region_any _ (List.Sublist.refl _) ?_
  refine aw_ev 0 rfl (ev_field_addr 2) ?_
  refine aw_ev 1 rfl (ev_load_own (b := b1)) ?_
  refine aw_ev 2 rfl (ev_field_addr 3) ?_
  refine aw_ev 3 rfl (ev_load_own (b := b1)) ?_
  refine aw_ev 4 rfl ev_move ?_
  obtain ⟨x2, hx3, hM⟩ := bind_some hM
  refine aw_ev 5 rfl (ev_idx (xs := p0.Lines) 4 (Kn.imm (α := List Line) (r := r_p0.2.2.1) (x := p0.Lines) (by repeat (first | exact Has.head | apply Has.tail))) (fun hg => let h := idx_some hx3; ⟨h.1, h.2.1⟩)) ?_
  refine aw_ev 6 rfl (ev_field_addr 3) ?_
  refine aw_ev 7 rfl (ev_ld (i := line0) (xs := p0.Lines) (y := x2) 3 (Kn.imm (α := List Line) (r := r_p0.2.2.1) (x := p0.Lines) (by repeat (first | exact Has.head | apply Has.tail))) (fun _ => hx3)) ?_
  refine aw_ev 8 rfl ev_move ?_
  obtain ⟨x4, hx5, hM⟩ := bind_some hM
  refine aw_ev 9 rfl (ev_idx (xs := x2.Rides) 4 ((Sk.elem (Sk.imm (α := List Line) (r := r_p0.2.2.1) (x := p0.Lines) (by repeat (first | exact Has.head | apply Has.tail))) hx3)).kn (fun hg => let h := idx_some hx5; ⟨h.1, h.2.1⟩)) ?_
  refine aw_ev 10 rfl (ev_field_addr 0) ?_
  refine aw_ev 11 rfl (ev_ld (i := ride0) (xs := x2.Rides) (y := x4) 0 ((Sk.elem (Sk.imm (α := List Line) (r := r_p0.2.2.1) (x := p0.Lines) (by repeat (first | exact Has.head | apply Has.tail))) hx3)).kn (fun _ => hx5)) ?_
  obtain ⟨x6, hx7, hM⟩ := bind_some hM
  refine aw_ev 12 rfl (ev_idx (xs := p0.Routes) 2 (Kn.imm (α := List Route) (r := r_p0.2.1) (x := p0.Routes) (by repeat (first | exact Has.head | apply Has.tail))) (fun hg => let h := idx_some hx7; ⟨h.1, h.2.1⟩)) ?_
  refine aw_ev 13 rfl (ev_lds (m := 2) (i := x4.Route) (xs := p0.Routes) (y := x6) (l := [.slice (r_p0.2.1.es x4.Route.toNat).a x6.Steps.length (r_p0.2.1.es x4.Route.toNat).cap, .int .i64 x6.Overlap]) 0 (Kn.imm (α := List Route) (r := r_p0.2.1) (x := p0.Routes) (by repeat (first | exact Has.head | apply Has.tail))) (fun _ => hx7)) ?_
  refine aw_one 14 rfl (st_alloc rfl (k := fun b8 => ⟨fun w hm => hm.sub (by repeat (first | exact List.Sublist.refl _ | apply List.Sublist.cons_cons | apply List.Sublist.cons)), ?_⟩))
  refine aw_one 15 rfl (st_store_all (b := b8) (vs := [.slice (r_p0.2.1.es x4.Route.toNat).a x6.Steps.length (r_p0.2.1.es x4.Route.toNat).cap, .int .i64 x6.Overlap]) (k := ⟨fun w hm => hm.sub (by repeat (first | exact List.Sublist.refl _ | apply List.Sublist.cons_cons | apply List.Sublist.cons)), ?_⟩))
  refine aw_done (hK2 _ _ ?_); clear hK2
  refine cw_seq fun K3 hK3 => ?_
  refine cw_region ?_
  refine ow_ev (ev_field_addr 0) ?_
  refine ow_ev (ev_load_own (b := b8)) ?_
  refine ow_ev (ev_field_addr 0) ?_
  refine ow_ev (ev_load_own (b := b8)) ?_
  refine ow_ev ev_len ?_
  obtain ⟨hI9, hM⟩ := chk_some hM
  refine ow_ev (ev_sub (hr := fun hg => i64b_I64 hI9)) ?_
  obtain ⟨x10, hx11, hM⟩ := bind_some hM
  refine ow_ev (ev_idx (xs := x6.Steps) 2 ((Sk.elem (Sk.imm (α := List Route) (r := r_p0.2.1) (x := p0.Routes) (by repeat (first | exact Has.head | apply Has.tail))) hx7)).kn (fun hg => let h := idx_some hx11; ⟨h.1, h.2.1⟩)) ?_
  refine ow_ev (ev_field_addr 0) ?_
  refine ow_ev (ev_ld (i := ((x6.Steps.length : Int) - 1)) (xs := x6.Steps) (y := x10) 0 ((Sk.elem (Sk.imm (α := List Route) (r := r_p0.2.1) (x := p0.Routes) (by repeat (first | exact Has.head | apply Has.tail))) hx7)).kn (fun _ => hx11)) ?_
  refine ow_ev ev_assign ?_
  refine ow_nil (hK3 _ _ ?_); clear hK3
  obtain rfl := some_inj hM
  refine cw_ret (kw_retc1 (fun w hm => ret_of hm rfl))

def keep_start_m (p0 : Plan) (line0 : Int) (ride0 : Int) : Option Int :=
  (idx p0.Lines line0).bind fun x2 =>
  (idx x2.Rides ride0).bind fun x4 =>
  (idx p0.Routes x4.Route).bind fun x6 =>
  (idx x6.Steps 0).bind fun x8 =>
  some x8.Section
theorem keep_start_spec (S : Soup) (w : World) (p0 : Plan) (r_p0 : GoRep.R Plan) (line0 : Int) (ride0 : Int) (y : Int) (hM : keep_start_m p0 line0 ride0 = some y) (hS : ∀ k, S k → k < w.heap.size) (h_p0 : GoRep.ok S w r_p0 p0) :
    Calls Tryz.prog 31 #[.agg #[.int .i64 p0.Period, .slice r_p0.1.a p0.Stocks.length r_p0.1.cap, .slice r_p0.2.1.a p0.Routes.length r_p0.2.1.cap, .slice r_p0.2.2.1.a p0.Lines.length r_p0.2.2.1.cap, .slice r_p0.2.2.2.1.a p0.Changes.length r_p0.2.2.2.1.cap, .slice r_p0.2.2.2.2.1.a p0.Turns.length r_p0.2.2.2.2.1.cap, .slice r_p0.2.2.2.2.2.1.a p0.Syncs.length r_p0.2.2.2.2.2.1.cap, .slice r_p0.2.2.2.2.2.2.a p0.Demands.length r_p0.2.2.2.2.2.2.cap], .int .i64 line0, .int .i64 ride0] w (Ret w (.int .i64 y)) := by
  refine calls_cw (args := [_, _, _]) Tryz.func31 rfl ((pre_nil hS).start |>.immP (α := List Stock) (r := r_p0.1) (x := p0.Stocks) h_p0.1|>.immP (α := List Route) (r := r_p0.2.1) (x := p0.Routes) h_p0.2.1|>.immP (α := List Line) (r := r_p0.2.2.1) (x := p0.Lines) h_p0.2.2.1|>.immP (α := List Change) (r := r_p0.2.2.2.1) (x := p0.Changes) h_p0.2.2.2.1|>.immP (α := List Turn) (r := r_p0.2.2.2.2.1) (x := p0.Turns) h_p0.2.2.2.2.1|>.immP (α := List Sync) (r := r_p0.2.2.2.2.2.1) (x := p0.Syncs) h_p0.2.2.2.2.2.1|>.immP (α := List Demand) (r := r_p0.2.2.2.2.2.2) (x := p0.Demands) h_p0.2.2.2.2.2.2) rfl ?_
  unfold keep_start_m at hM
  refine cw_seq fun K1 hK1 => ?_
  refine cw_region ?_
  refine ow_cons (st_box (l := [.int .i64 p0.Period, .slice r_p0.1.a p0.Stocks.length r_p0.1.cap, .slice r_p0.2.1.a p0.Routes.length r_p0.2.1.cap, .slice r_p0.2.2.1.a p0.Lines.length r_p0.2.2.1.cap, .slice r_p0.2.2.2.1.a p0.Changes.length r_p0.2.2.2.1.cap, .slice r_p0.2.2.2.2.1.a p0.Turns.length r_p0.2.2.2.2.1.cap, .slice r_p0.2.2.2.2.2.1.a p0.Syncs.length r_p0.2.2.2.2.2.1.cap, .slice r_p0.2.2.2.2.2.2.a p0.Demands.length r_p0.2.2.2.2.2.2.cap]) (k := fun b1 => ?_))
  refine ow_ev ev_assign ?_
  refine ow_nil (hK1 _ _ ?_); clear hK1
  refine cw_seq fun K2 hK2 => ?_
  refine cw_region_any _ (List.Sublist.refl _) ?_
  refine aw_ev 0 rfl (ev_field_addr 2) ?_
  refine aw_ev 1 rfl (ev_load_own (b := b1)) ?_
  refine aw_ev 2 rfl (ev_field_addr 3) ?_
  refine aw_ev 3 rfl (ev_load_own (b := b1)) ?_
  refine aw_ev 4 rfl ev_move ?_
  obtain ⟨x2, hx3, hM⟩ := bind_some hM
  refine aw_ev 5 rfl (ev_idx (xs := p0.Lines) 4 (Kn.imm (α := List Line) (r := r_p0.2.2.1) (x := p0.Lines) (by repeat (first | exact Has.head | apply Has.tail))) (fun hg => let h := idx_some hx3; ⟨h.1, h.2.1⟩)) ?_
  refine aw_ev 6 rfl (ev_field_addr 3) ?_
  refine aw_ev 7 rfl (ev_ld (i := line0) (xs := p0.Lines) (y := x2) 3 (Kn.imm (α := List Line) (r := r_p0.2.2.1) (x := p0.Lines) (by repeat (first | exact Has.head | apply Has.tail))) (fun _ => hx3)) ?_
  refine aw_ev 8 rfl ev_move ?_
  obtain ⟨x4, hx5, hM⟩ := bind_some hM
  refine aw_ev 9 rfl (ev_idx (xs := x2.Rides) 4 ((Sk.elem (Sk.imm (α := List Line) (r := r_p0.2.2.1) (x := p0.Lines) (by repeat (first | exact Has.head | apply Has.tail))) hx3)).kn (fun hg => let h := idx_some hx5; ⟨h.1, h.2.1⟩)) ?_
  refine aw_ev 10 rfl (ev_field_addr 0) ?_
  refine aw_ev 11 rfl (ev_ld (i := ride0) (xs := x2.Rides) (y := x4) 0 ((Sk.elem (Sk.imm (α := List Line) (r := r_p0.2.2.1) (x := p0.Lines) (by repeat (first | exact Has.head | apply Has.tail))) hx3)).kn (fun _ => hx5)) ?_
  obtain ⟨x6, hx7, hM⟩ := bind_some hM
  refine aw_ev 12 rfl (ev_idx (xs := p0.Routes) 2 (Kn.imm (α := List Route) (r := r_p0.2.1) (x := p0.Routes) (by repeat (first | exact Has.head | apply Has.tail))) (fun hg => let h := idx_some hx7; ⟨h.1, h.2.1⟩)) ?_
  refine aw_ev 13 rfl (ev_field_addr 0) ?_
  refine aw_ev 14 rfl (ev_ld (i := x4.Route) (xs := p0.Routes) (y := x6) 0 (Kn.imm (α := List Route) (r := r_p0.2.1) (x := p0.Routes) (by repeat (first | exact Has.head | apply Has.tail))) (fun _ => hx7)) ?_
  obtain ⟨x8, hx9, hM⟩ := bind_some hM
  refine aw_ev 15 rfl (ev_idx (xs := x6.Steps) 2 ((Sk.elem (Sk.imm (α := List Route) (r := r_p0.2.1) (x := p0.Routes) (by repeat (first | exact Has.head | apply Has.tail))) hx7)).kn (fun hg => let h := idx_some hx9; ⟨h.1, h.2.1⟩)) ?_
  refine aw_ev 16 rfl (ev_field_addr 0) ?_
  refine aw_ev 17 rfl (ev_ld (i := 0) (xs := x6.Steps) (y := x8) 0 ((Sk.elem (Sk.imm (α := List Route) (r := r_p0.2.1) (x := p0.Routes) (by repeat (first | exact Has.head | apply Has.tail))) hx7)).kn (fun _ => hx9)) ?_
  refine aw_ev 18 rfl ev_assign ?_
  refine aw_done (hK2 _ _ ?_); clear hK2
  obtain rfl := some_inj hM
  refine cw_ret (kw_retc1 (fun w hm => ret_of hm rfl))

def keep_turns_k2 (cont2 : (Int × (List Turn) × (List Bool) × (List Bool) × Nat) → Option (Int × (List Turn))) (t22_2 : Nat) : (Int × (List Turn) × (List Bool) × (List Bool)) → Option (Int × (List Turn)) := fun (b_s0_j2_1, lb_p0_j2_5, lfrom_j2, lto_j2) =>
  cont2 (b_s0_j2_1, lb_p0_j2_5, lfrom_j2, lto_j2, t22_2 + 1)
def keep_turns_k1 (cont1 : (Int × (List Turn) × (List Bool) × (List Bool) × Nat) → Option (Int × (List Turn))) (b_s0_2_1 : Int) (lb_p0_2_5 : List Turn) (lfrom_2 : List Bool) (lto_2 : List Bool) (t14_1 : Nat) : Unit → Option (Int × (List Turn)) := fun _ =>
  cont1 (b_s0_2_1, lb_p0_2_5, lfrom_2, lto_2, t14_1 + 1)
def keep_turns_b2 (p0 : Plan) (s0 : Keep_Source) (t14_1 : Nat) (cont1 : (Int × (List Turn) × (List Bool) × (List Bool) × Nat) → Option (Int × (List Turn))) (cont2 : (Int × (List Turn) × (List Bool) × (List Bool) × Nat) → Option (Int × (List Turn))) : (Int × (List Turn) × (List Bool) × (List Bool) × Nat) → Option (Int × (List Turn)) := fun (b_s0_2_1, lb_p0_2_5, lfrom_2, lto_2, t22_2) =>
  if decide ((t22_2 : Int) < (p0.Lines.length : Int)) then
    ((keep_Source_Next_m (Keep_Source.mk s0.l b_s0_2_1) 3).bind fun y7 =>
    (whn (decide (0 < y7.1)) default (idx lfrom_2 (t14_1 : Int))).bind fun x10 =>
    (whn (decide (0 < y7.1) && (!x10)) default (idx lto_2 (t22_2 : Int))).bind fun x12 =>
    (whn ((decide (0 < y7.1) && (!x10)) && (!x12)) default (idx p0.Lines (t14_1 : Int))).bind fun x14 =>
    if ((decide (0 < y7.1) && (!x10)) && (!x12)) then
    (chk (i64b ((x14.Rides.length : Int) - 1)) <|
    (keep_stop_m (Plan.mk p0.Period p0.Stocks p0.Routes p0.Lines p0.Changes lb_p0_2_5 p0.Syncs p0.Demands) (t14_1 : Int) ((x14.Rides.length : Int) - 1)).bind fun y19 =>
    (keep_start_m (Plan.mk p0.Period p0.Stocks p0.Routes p0.Lines p0.Changes lb_p0_2_5 p0.Syncs p0.Demands) (t22_2 : Int) 0).bind fun y21 =>
    if (((decide (0 < y7.1) && (!x10)) && (!x12)) && decide (y19 = y21)) then
      ((idx lfrom_2 (t14_1 : Int)).bind fun x24 =>
      (idx lto_2 (t22_2 : Int)).bind fun x27 =>
      (keep_Source_Next_m (Keep_Source.mk s0.l y7.2) 10).bind fun y30 =>
      chk (i64b (10 + y30.1)) <|
      (keep_Source_Next_m (Keep_Source.mk s0.l y30.2) 30).bind fun y34 =>
      chk (i64b ((10 + y30.1) + y34.1)) <|
      chk (decide ((lb_p0_2_5.length + ([(Turn.mk (t14_1 : Int) (t22_2 : Int) (10 + y30.1) ((10 + y30.1) + y34.1))] : List Turn).length) * 32 ≤ 140737488355328)) <|
      keep_turns_k2 cont2 t22_2 (y34.2, (lb_p0_2_5 ++ ([(Turn.mk (t14_1 : Int) (t22_2 : Int) (10 + y30.1) ((10 + y30.1) + y34.1))] : List Turn)), (lfrom_2.set (t14_1 : Int).toNat true), (lto_2.set (t22_2 : Int).toNat true)))
    else
      (keep_turns_k2 cont2 t22_2 (y7.2, lb_p0_2_5, lfrom_2, lto_2)))
    else
    (keep_turns_k2 cont2 t22_2 (y7.2, lb_p0_2_5, lfrom_2, lto_2)))
  else
    (keep_turns_k1 cont1 b_s0_2_1 lb_p0_2_5 lfrom_2 lto_2 t14_1 ())
def keep_turns_b1 (p0 : Plan) (s0 : Keep_Source) (cont1 : (Int × (List Turn) × (List Bool) × (List Bool) × Nat) → Option (Int × (List Turn))) : (Int × (List Turn) × (List Bool) × (List Bool) × Nat) → Option (Int × (List Turn)) := fun (b_s0_1_1, lb_p0_1_5, lfrom_1, lto_1, t14_1) =>
  if decide ((t14_1 : Int) < (p0.Lines.length : Int)) then
    (iter (keep_turns_b2 p0 s0 t14_1 cont1) FUEL (b_s0_1_1, lb_p0_1_5, lfrom_1, lto_1, 0))
  else
    (some (b_s0_1_1, lb_p0_1_5))
def keep_turns_m (s0 : Keep_Source) (p0 : Plan) : Option (Int × (List Turn)) :=
  iter (keep_turns_b1 p0 s0) FUEL (s0.i, p0.Turns, (List.replicate 4 false), (List.replicate 4 false), 0)
theorem keep_turns_spec (S : Soup) (w : World) (b_s0 : Nat) (s0 : Keep_Source) (r_s0 : GoRep.R Keep_Source) (b_p0 : Nat) (p0 : Plan) (r_p0 : GoRep.R Plan) (y : Int × (List Turn)) (hM : keep_turns_m s0 p0 = some y) (hP : Pre S [own b_s0 136 [.slice r_s0.a s0.l.length r_s0.cap, .int .i64 s0.i], own b_p0 35 [.int .i64 p0.Period, .slice r_p0.1.a p0.Stocks.length r_p0.1.cap, .slice r_p0.2.1.a p0.Routes.length r_p0.2.1.cap, .slice r_p0.2.2.1.a p0.Lines.length r_p0.2.2.1.cap, .slice r_p0.2.2.2.1.a p0.Changes.length r_p0.2.2.2.1.cap, .slice r_p0.2.2.2.2.1.a p0.Turns.length r_p0.2.2.2.2.1.cap, .slice r_p0.2.2.2.2.2.1.a p0.Syncs.length r_p0.2.2.2.2.2.1.cap, .slice r_p0.2.2.2.2.2.2.a p0.Demands.length r_p0.2.2.2.2.2.2.cap], trow 71 r_p0.1 p0.Stocks, trow 90 r_p0.2.1 p0.Routes, trow 56 r_p0.2.2.1 p0.Lines, trow 79 r_p0.2.2.2.1 p0.Changes, trow 94 r_p0.2.2.2.2.1 p0.Turns, trow 84 r_p0.2.2.2.2.2.1 p0.Syncs, trow 86 r_p0.2.2.2.2.2.2 p0.Demands] w) (h_s0_0 : GoRep.ok (α := List Int) S w r_s0 s0.l) :
    Calls Tryz.prog 29 #[.pointer (some ⟨b_s0, 0, none⟩), .pointer (some ⟨b_p0, 0, none⟩)] w (Post (β := (SR (GoRep.R Turn))) S [own b_s0 136 [.slice r_s0.a s0.l.length r_s0.cap, .int .i64 s0.i], own b_p0 35 [.int .i64 p0.Period, .slice r_p0.1.a p0.Stocks.length r_p0.1.cap, .slice r_p0.2.1.a p0.Routes.length r_p0.2.1.cap, .slice r_p0.2.2.1.a p0.Lines.length r_p0.2.2.1.cap, .slice r_p0.2.2.2.1.a p0.Changes.length r_p0.2.2.2.1.cap, .slice r_p0.2.2.2.2.1.a p0.Turns.length r_p0.2.2.2.2.1.cap, .slice r_p0.2.2.2.2.2.1.a p0.Syncs.length r_p0.2.2.2.2.2.1.cap, .slice r_p0.2.2.2.2.2.2.a p0.Demands.length r_p0.2.2.2.2.2.2.cap], trow 71 r_p0.1 p0.Stocks, trow 90 r_p0.2.1 p0.Routes, trow 56 r_p0.2.2.1 p0.Lines, trow 79 r_p0.2.2.2.1 p0.Changes, trow 94 r_p0.2.2.2.2.1 p0.Turns, trow 84 r_p0.2.2.2.2.2.1 p0.Syncs, trow 86 r_p0.2.2.2.2.2.2 p0.Demands] (fun g => .tuple #[]) (fun g => [own b_s0 136 [.slice r_s0.a s0.l.length r_s0.cap, .int .i64 y.1], own b_p0 35 [.int .i64 p0.Period, .slice r_p0.1.a p0.Stocks.length r_p0.1.cap, .slice r_p0.2.1.a p0.Routes.length r_p0.2.1.cap, .slice r_p0.2.2.1.a p0.Lines.length r_p0.2.2.1.cap, .slice r_p0.2.2.2.1.a p0.Changes.length r_p0.2.2.2.1.cap, .slice g.a y.2.length g.cap, .slice r_p0.2.2.2.2.2.1.a p0.Syncs.length r_p0.2.2.2.2.2.1.cap, .slice r_p0.2.2.2.2.2.2.a p0.Demands.length r_p0.2.2.2.2.2.2.cap], trow 71 r_p0.1 p0.Stocks, trow 90 r_p0.2.1 p0.Routes, trow 56 r_p0.2.2.1 p0.Lines, trow 79 r_p0.2.2.2.1 p0.Changes, trow 94 g y.2, trow 84 r_p0.2.2.2.2.2.1 p0.Syncs, trow 86 r_p0.2.2.2.2.2.2 p0.Demands]) w) := by
  refine calls_cw (args := [_, _]) Tryz.func29 rfl (hP.start |>.immP (α := List Int) (r := r_s0) (x := s0.l) h_s0_0) rfl ?_
  unfold keep_turns_m at hM
  refine cw_seq fun K1 hK1 => ?_
  refine cw_region ?_
  refine ow_cons (st_alloc rfl (k := fun b1 => ?_))
  refine ow_imp (fun w hm => hm.arr (α := Bool) (b := b1) (T := 144) (m := 4) (x0 := false) (rz := ()) rfl (fun _ _ => trivial) (by decide) (by repeat (first | exact Upd.head | apply Upd.tail))) ?_
  refine ow_cons (st_alloc rfl (k := fun b2 => ?_))
  refine ow_imp (fun w hm => hm.arr (α := Bool) (b := b2) (T := 144) (m := 4) (x0 := false) (rz := ()) rfl (fun _ _ => trivial) (by decide) (by repeat (first | exact Upd.head | apply Upd.tail))) ?_
  refine ow_nil (hK1 _ _ ?_); clear hK1
  refine cw_seq fun K2 hK2 => ?_
  refine cw_region ?_
  refine ow_ev ev_move ?_
  refine ow_ev ev_nilcheck ?_
  refine ow_ev (ev_field_addr 3) ?_
  refine ow_ev (ev_load_own (b := b_p0)) ?_
  refine ow_have (fun w hm => Kn.len (Kn.trow (e := 56) (r := r_p0.2.2.1) (by repeat (first | exact Has.head | apply Has.tail))) hm) fun hl3 => ?_
  refine ow_ev ev_len ?_
  refine ow_ev ev_move ?_
  refine ow_nil (hK2 _ _ ?_); clear hK2
  refine cw_block ?_
  refine cw_loop (γ := Nat × (Int × (List Turn) × (List Bool) × (List Bool) × Nat) × (SR (GoRep.R Turn))) (env := fun (_, (b_s0_1_1, lb_p0_1_5, lfrom_1, lto_1, t14_1), rb_p0_1_5) => [(0, .v (.pointer (some ⟨b_s0, 0, none⟩))), (1, .v (.pointer (some ⟨b_p0, 0, none⟩))), (4, .v (.pointer (some ⟨b1, 0, none⟩))), (5, .v (.pointer (some ⟨b2, 0, none⟩))), (13, .v (.int .i64 (p0.Lines.length : Int))), (14, .v (.int .i64 (t14_1 : Int)))]) (mem := fun (_, (b_s0_1_1, lb_p0_1_5, lfrom_1, lto_1, t14_1), rb_p0_1_5) => [imm (α := (List Int)) r_s0 s0.l, own b_s0 136 [.slice r_s0.a s0.l.length r_s0.cap, .int .i64 b_s0_1_1], trow 71 r_p0.1 p0.Stocks, trow 90 r_p0.2.1 p0.Routes, trow 56 r_p0.2.2.1 p0.Lines, trow 79 r_p0.2.2.2.1 p0.Changes, trow 94 rb_p0_1_5 lb_p0_1_5, trow 84 r_p0.2.2.2.2.2.1 p0.Syncs, trow 86 r_p0.2.2.2.2.2.2 p0.Demands, own b_p0 35 [.int .i64 p0.Period, .slice r_p0.1.a p0.Stocks.length r_p0.1.cap, .slice r_p0.2.1.a p0.Routes.length r_p0.2.1.cap, .slice r_p0.2.2.1.a p0.Lines.length r_p0.2.2.1.cap, .slice r_p0.2.2.2.1.a p0.Changes.length r_p0.2.2.2.1.cap, .slice rb_p0_1_5.a lb_p0_1_5.length rb_p0_1_5.cap, .slice r_p0.2.2.2.2.2.1.a p0.Syncs.length r_p0.2.2.2.2.2.1.cap, .slice r_p0.2.2.2.2.2.2.a p0.Demands.length r_p0.2.2.2.2.2.2.cap], trow 144 (⟨some ⟨b1, 0, none⟩, 4, fun _ => ()⟩ : SR (GoRep.R Bool)) lfrom_1, trow 144 (⟨some ⟨b2, 0, none⟩, 4, fun _ => ()⟩ : SR (GoRep.R Bool)) lto_1]) (R := fun g => iter (keep_turns_b1 p0 s0) g.1 g.2.1 = some y) (μ := fun g => g.1) (FUEL, (s0.i, p0.Turns, (List.replicate 4 false), (List.replicate 4 false), 0), r_p0.2.2.2.2.1) hM ⟨rfl, rfl, rfl, rfl, rfl, rfl, trivial⟩ (fun w hm => hm.reord) ?_
  clear hM
  intro g hM KL1 hL1
  obtain ⟨nn1, ⟨b_s0_1_1, lb_p0_1_5, lfrom_1, lto_1, t14_1⟩, rb_p0_1_5⟩ := g
  dsimp only at hM ⊢
  obtain ⟨nn1, cont1, rfl, hcont1, hM⟩ := iter_open' hM
  dsimp only [keep_turns_b1] at hM
  refine cw_seq fun K3 hK3 => ?_
  refine cw_region ?_
  refine ow_ev ev_lss ?_
  refine ow_nil (hK3 _ _ ?_); clear hK3
  refine cw_seq fun K4 hK4 => ?_
  refine cw_cond rfl (fun hc4 => ?_) (fun hc4 => ?_)
  ·
    replace hM := (ite_t hc4).symm.trans hM
    have hc4d := of_decide_eq_true hc4
    refine cw_skip (hK4 _ _ ?_); clear hK4
    refine cw_seq fun K5 hK5 => ?_
    refine cw_block ?_
    refine cw_seq fun K6 hK6 => ?_
    refine cw_region ?_
    refine ow_ev ev_move ?_
    refine ow_ev ev_assign ?_
    refine ow_nil (hK6 _ _ ?_); clear hK6
    refine cw_seq fun K7 hK7 => ?_
    refine cw_region ?_
    refine ow_ev ev_move ?_
    refine ow_ev ev_nilcheck ?_
    refine ow_ev (ev_field_addr 3) ?_
    refine ow_ev (ev_load_own (b := b_p0)) ?_
    refine ow_have (fun w hm => Kn.len (Kn.trow (e := 56) (r := r_p0.2.2.1) (by repeat (first | exact Has.head | apply Has.tail))) hm) fun hl5 => ?_
    refine ow_ev ev_len ?_
    refine ow_ev ev_move ?_
    refine ow_nil (hK7 _ _ ?_); clear hK7
    refine cw_block ?_
    refine cw_loop (γ := Nat × (Int × (List Turn) × (List Bool) × (List Bool) × Nat) × (SR (GoRep.R Turn))) (env := fun (_, (b_s0_2_1, lb_p0_2_5, lfrom_2, lto_2, t22_2), rb_p0_2_5) => [(0, .v (.pointer (some ⟨b_s0, 0, none⟩))), (1, .v (.pointer (some ⟨b_p0, 0, none⟩))), (4, .v (.pointer (some ⟨b1, 0, none⟩))), (5, .v (.pointer (some ⟨b2, 0, none⟩))), (6, .v (.int .i64 (t14_1 : Int))), (13, .v (.int .i64 (p0.Lines.length : Int))), (14, .v (.int .i64 (t14_1 : Int))), (21, .v (.int .i64 (p0.Lines.length : Int))), (22, .v (.int .i64 (t22_2 : Int)))]) (mem := fun (_, (b_s0_2_1, lb_p0_2_5, lfrom_2, lto_2, t22_2), rb_p0_2_5) => [imm (α := (List Int)) r_s0 s0.l, own b_s0 136 [.slice r_s0.a s0.l.length r_s0.cap, .int .i64 b_s0_2_1], trow 71 r_p0.1 p0.Stocks, trow 90 r_p0.2.1 p0.Routes, trow 56 r_p0.2.2.1 p0.Lines, trow 79 r_p0.2.2.2.1 p0.Changes, trow 94 rb_p0_2_5 lb_p0_2_5, trow 84 r_p0.2.2.2.2.2.1 p0.Syncs, trow 86 r_p0.2.2.2.2.2.2 p0.Demands, own b_p0 35 [.int .i64 p0.Period, .slice r_p0.1.a p0.Stocks.length r_p0.1.cap, .slice r_p0.2.1.a p0.Routes.length r_p0.2.1.cap, .slice r_p0.2.2.1.a p0.Lines.length r_p0.2.2.1.cap, .slice r_p0.2.2.2.1.a p0.Changes.length r_p0.2.2.2.1.cap, .slice rb_p0_2_5.a lb_p0_2_5.length rb_p0_2_5.cap, .slice r_p0.2.2.2.2.2.1.a p0.Syncs.length r_p0.2.2.2.2.2.1.cap, .slice r_p0.2.2.2.2.2.2.a p0.Demands.length r_p0.2.2.2.2.2.2.cap], trow 144 (⟨some ⟨b1, 0, none⟩, 4, fun _ => ()⟩ : SR (GoRep.R Bool)) lfrom_2, trow 144 (⟨some ⟨b2, 0, none⟩, 4, fun _ => ()⟩ : SR (GoRep.R Bool)) lto_2]) (R := fun g => iter (keep_turns_b2 p0 s0 t14_1 cont1) g.1 g.2.1 = some y) (μ := fun g => g.1) (FUEL, (b_s0_1_1, lb_p0_1_5, lfrom_1, lto_1, 0), rb_p0_1_5) hM ⟨rfl, rfl, rfl, rfl, rfl, rfl, rfl, rfl, rfl, trivial⟩ (fun w hm => hm.reord) ?_
    clear hM
    intro g hM KL2 hL2
    obtain ⟨nn2, ⟨b_s0_2_1, lb_p0_2_5, lfrom_2, lto_2, t22_2⟩, rb_p0_2_5⟩ := g
    dsimp only at hM ⊢
    obtain ⟨nn2, cont2, rfl, hcont2, hM⟩ := iter_open' hM
    dsimp only [keep_turns_b2] at hM
    refine cw_seq fun K8 hK8 => ?_
    refine cw_region ?_
    refine ow_ev ev_lss ?_
    refine ow_nil (hK8 _ _ ?_); clear hK8
    refine cw_seq fun K9 hK9 => ?_
    refine cw_cond rfl (fun hc6 => ?_) (fun hc6 => ?_)
    ·
      replace hM := (ite_t hc6).symm.trans hM
      have hc6d := of_decide_eq_true hc6
      refine cw_skip (hK9 _ _ ?_); clear hK9
      refine cw_cut (γ := (Int × (List Turn) × (List Bool) × (List Bool)) × (SR (GoRep.R Turn))) (env := fun ((b_s0_j2_1, lb_p0_j2_5, lfrom_j2, lto_j2), rb_p0_j2_5) => [(0, .v (.pointer (some ⟨b_s0, 0, none⟩))), (1, .v (.pointer (some ⟨b_p0, 0, none⟩))), (4, .v (.pointer (some ⟨b1, 0, none⟩))), (5, .v (.pointer (some ⟨b2, 0, none⟩))), (6, .v (.int .i64 (t14_1 : Int))), (13, .v (.int .i64 (p0.Lines.length : Int))), (14, .v (.int .i64 (t14_1 : Int))), (21, .v (.int .i64 (p0.Lines.length : Int))), (22, .v (.int .i64 (t22_2 : Int)))]) (mem := fun ((b_s0_j2_1, lb_p0_j2_5, lfrom_j2, lto_j2), rb_p0_j2_5) => [imm (α := (List Int)) r_s0 s0.l, own b_s0 136 [.slice r_s0.a s0.l.length r_s0.cap, .int .i64 b_s0_j2_1], trow 71 r_p0.1 p0.Stocks, trow 90 r_p0.2.1 p0.Routes, trow 56 r_p0.2.2.1 p0.Lines, trow 79 r_p0.2.2.2.1 p0.Changes, trow 94 rb_p0_j2_5 lb_p0_j2_5, trow 84 r_p0.2.2.2.2.2.1 p0.Syncs, trow 86 r_p0.2.2.2.2.2.2 p0.Demands, own b_p0 35 [.int .i64 p0.Period, .slice r_p0.1.a p0.Stocks.length r_p0.1.cap, .slice r_p0.2.1.a p0.Routes.length r_p0.2.1.cap, .slice r_p0.2.2.1.a p0.Lines.length r_p0.2.2.1.cap, .slice r_p0.2.2.2.1.a p0.Changes.length r_p0.2.2.2.1.cap, .slice rb_p0_j2_5.a lb_p0_j2_5.length rb_p0_j2_5.cap, .slice r_p0.2.2.2.2.2.1.a p0.Syncs.length r_p0.2.2.2.2.2.1.cap, .slice r_p0.2.2.2.2.2.2.a p0.Demands.length r_p0.2.2.2.2.2.2.cap], trow 144 (⟨some ⟨b1, 0, none⟩, 4, fun _ => ()⟩ : SR (GoRep.R Bool)) lfrom_j2, trow 144 (⟨some ⟨b2, 0, none⟩, 4, fun _ => ()⟩ : SR (GoRep.R Bool)) lto_j2]) (R := fun g => keep_turns_k2 cont2 t22_2 g.1 = some y) ?_ ?_
      · intro KJ2 hJ2
        refine cw_block ?_
        refine cw_seq fun K10 hK10 => ?_
        refine cw_region ?_
        refine ow_ev ev_move ?_
        refine ow_ev ev_assign ?_
        refine ow_nil (hK10 _ _ ?_); clear hK10
        refine cw_seq fun K11 hK11 => ?_
        refine cw_region_any [imm (α := (List Int)) r_s0 s0.l, trow 71 r_p0.1 p0.Stocks, trow 90 r_p0.2.1 p0.Routes, trow 56 r_p0.2.2.1 p0.Lines, trow 79 r_p0.2.2.2.1 p0.Changes, trow 94 rb_p0_2_5 lb_p0_2_5, trow 84 r_p0.2.2.2.2.2.1 p0.Syncs, trow 86 r_p0.2.2.2.2.2.2 p0.Demands, own b_p0 35 [.int .i64 p0.Period, .slice r_p0.1.a p0.Stocks.length r_p0.1.cap, .slice r_p0.2.1.a p0.Routes.length r_p0.2.1.cap, .slice r_p0.2.2.1.a p0.Lines.length r_p0.2.2.1.cap, .slice r_p0.2.2.2.1.a p0.Changes.length r_p0.2.2.2.1.cap, .slice rb_p0_2_5.a lb_p0_2_5.length rb_p0_2_5.cap, .slice r_p0.2.2.2.2.2.1.a p0.Syncs.length r_p0.2.2.2.2.2.1.cap, .slice r_p0.2.2.2.2.2.2.a p0.Demands.length r_p0.2.2.2.2.2.2.cap], trow 144 (⟨some ⟨b1, 0, none⟩, 4, fun _ => ()⟩ : SR (GoRep.R Bool)) lfrom_2, trow 144 (⟨some ⟨b2, 0, none⟩, 4, fun _ => ()⟩ : SR (GoRep.R Bool)) lto_2] (by repeat (first | exact List.Sublist.refl _ | apply List.Sublist.cons_cons | apply List.Sublist.cons)) ?_
        refine aw_ev 0 rfl ev_move ?_
        obtain ⟨y7, hy8, hM⟩ := bind_some hM
        refine aw_one 1 rfl (st_callF (by repeat (first | exact SelL.nil | (apply SelL.cons; · (repeat (first | exact Sel.head | apply Sel.tail))))) (fun S w hs hP => keep_Source_Next_spec _ w b_s0 (Keep_Source.mk s0.l b_s0_2_1) r_s0 3 y7 hy8 hP (Kn.lend (Kn.imm (α := List Int) (r := r_s0) (x := s0.l) (by repeat (first | exact Has.head | apply Has.tail))) hs)) (by intro r c hc; simp only [List.mem_cons, List.not_mem_nil, or_false] at hc; rcases hc with rfl <;> first | exact flatC_own | exact flatC_trow (fun _ _ _ _ => trivial)) (fun r9 => ⟨fun w hm => hm.sub (by repeat (first | exact List.Sublist.refl _ | apply List.Sublist.cons_cons | apply List.Sublist.cons)), ?_⟩))
        dsimp only [List.cons_append, List.nil_append]
        refine aw_ev 2 rfl ev_gtr ?_
        refine aw_ev 3 rfl ev_move ?_
        refine aw_evg 4 rfl rfl ev_move ?_
        obtain ⟨x10, hx11, hM⟩ := bind_some hM
        refine aw_evg 5 rfl rfl (ev_aidx (r := (⟨some ⟨b1, 0, none⟩, 4, fun _ => ()⟩ : SR (GoRep.R Bool))) (xs := lfrom_2) 1 (Kn.trow (e := 144) (r := (⟨some ⟨b1, 0, none⟩, 4, fun _ => ()⟩ : SR (GoRep.R Bool))) (by repeat (first | exact Has.head | apply Has.tail))) (fun hg => let h := idx_some (whn_some hx11 hg); ⟨h.1, h.2.1⟩)) ?_
        refine aw_evg 6 rfl rfl (ev_ld (i := (t14_1 : Int)) (xs := lfrom_2) (y := x10) 0 (Kn.trow (e := 144) (r := (⟨some ⟨b1, 0, none⟩, 4, fun _ => ()⟩ : SR (GoRep.R Bool))) (by repeat (first | exact Has.head | apply Has.tail))) (fun hg => whn_some hx11 hg)) ?_
        refine aw_evg 7 rfl rfl ev_not ?_
        refine aw_ev 8 rfl ev_and ?_
        refine aw_ev 9 rfl ev_move ?_
        refine aw_evg 10 rfl rfl ev_move ?_
        obtain ⟨x12, hx13, hM⟩ := bind_some hM
        refine aw_evg 11 rfl rfl (ev_aidx (r := (⟨some ⟨b2, 0, none⟩, 4, fun _ => ()⟩ : SR (GoRep.R Bool))) (xs := lto_2) 1 (Kn.trow (e := 144) (r := (⟨some ⟨b2, 0, none⟩, 4, fun _ => ()⟩ : SR (GoRep.R Bool))) (by repeat (first | exact Has.head | apply Has.tail))) (fun hg => let h := idx_some (whn_some hx13 hg); ⟨h.1, h.2.1⟩)) ?_
        refine aw_evg 12 rfl rfl (ev_ld (i := (t22_2 : Int)) (xs := lto_2) (y := x12) 0 (Kn.trow (e := 144) (r := (⟨some ⟨b2, 0, none⟩, 4, fun _ => ()⟩ : SR (GoRep.R Bool))) (by repeat (first | exact Has.head | apply Has.tail))) (fun hg => whn_some hx13 hg)) ?_
        refine aw_evg 13 rfl rfl ev_not ?_
        refine aw_ev 14 rfl ev_and ?_
        refine aw_ev 15 rfl ev_move ?_
        refine aw_evg 16 rfl rfl ev_move ?_
        refine aw_evg 17 rfl rfl ev_nilcheck ?_
        refine aw_evg 18 rfl rfl (ev_load_all (b := b_p0)) ?_
        refine aw_evg 19 rfl rfl ev_move ?_
        refine aw_evg 20 rfl rfl ev_move ?_
        refine aw_evg 21 rfl rfl ev_nilcheck ?_
        refine aw_evg 22 rfl rfl (ev_field_addr 3) ?_
        refine aw_evg 23 rfl rfl (ev_load_own (b := b_p0)) ?_
        refine aw_evg 24 rfl rfl ev_move ?_
        obtain ⟨x14, hx15, hM⟩ := bind_some hM
        refine aw_evg 25 rfl rfl (ev_idx (xs := p0.Lines) 4 (Kn.trow (e := 56) (r := r_p0.2.2.1) (by repeat (first | exact Has.head | apply Has.tail))) (fun hg => let h := idx_some (whn_some hx15 hg); ⟨h.1, h.2.1⟩)) ?_
        refine aw_evg 26 rfl rfl (ev_field_addr 3) ?_
        refine aw_cases ((decide (0 < y7.1) && (!x10)) && (!x12)) (fun hg16 => ?_) (fun hg16 => ?_)
        ·
          replace hM := (ite_t hg16).symm.trans hM
          have hx17 := whn_some hx15 hg16
          refine aw_know 41 hg16 rfl ?_
          refine aw_know 42 hg16 rfl ?_
          refine aw_know 43 hg16 rfl ?_
          refine aw_know 44 hg16 rfl ?_
          refine aw_know 45 hg16 rfl ?_
          refine aw_know 46 hg16 rfl ?_
          refine aw_know 47 hg16 rfl ?_
          refine aw_know 48 hg16 rfl ?_
          refine aw_know 49 hg16 rfl ?_
          refine aw_know 50 hg16 rfl ?_
          refine aw_know 51 hg16 rfl ?_
          refine aw_evk 27 rfl rfl hg16 (ev_ld (i := (t14_1 : Int)) (xs := p0.Lines) (y := x14) 3 (Kn.trow (e := 56) (r := r_p0.2.2.1) (by repeat (first | exact Has.head | apply Has.tail))) (fun _ => hx17)) ?_
          refine aw_evk 28 rfl rfl hg16 ev_len ?_
          obtain ⟨hI18, hM⟩ := chk_some hM
          refine aw_evk 29 rfl rfl hg16 (ev_sub (hr := fun hg => i64b_I64 hI18)) ?_
          refine aw_evk 31 rfl rfl hg16 ev_move ?_
          refine aw_evk 32 rfl rfl hg16 ev_nilcheck ?_
          refine aw_evk 33 rfl rfl hg16 (ev_load_all (b := b_p0)) ?_
          refine aw_evk 34 rfl rfl hg16 ev_move ?_
          obtain ⟨y19, hy20, hM⟩ := bind_some hM
          refine aw_gtrue 30 rfl rfl hg16 (st_callv (fun w hm => let ⟨S, hs⟩ := hm; keep_stop_spec _ w (Plan.mk p0.Period p0.Stocks p0.Routes p0.Lines p0.Changes lb_p0_2_5 p0.Syncs p0.Demands) (r_p0.1, r_p0.2.1, r_p0.2.2.1, r_p0.2.2.2.1, rb_p0_2_5, r_p0.2.2.2.2.2.1, r_p0.2.2.2.2.2.2) (t14_1 : Int) ((x14.Rides.length : Int) - 1) y19 hy20 (lend_lt hs) ⟨(Kn.lend (Kn.trow (e := 71) (r := r_p0.1) (by repeat (first | exact Has.head | apply Has.tail))) hs), (Kn.lend (Kn.trow (e := 90) (r := r_p0.2.1) (by repeat (first | exact Has.head | apply Has.tail))) hs), (Kn.lend (Kn.trow (e := 56) (r := r_p0.2.2.1) (by repeat (first | exact Has.head | apply Has.tail))) hs), (Kn.lend (Kn.trow (e := 79) (r := r_p0.2.2.2.1) (by repeat (first | exact Has.head | apply Has.tail))) hs), (Kn.lend (Kn.trow (e := 94) (r := rb_p0_2_5) (by repeat (first | exact Has.head | apply Has.tail))) hs), (Kn.lend (Kn.trow (e := 84) (r := r_p0.2.2.2.2.2.1) (by repeat (first | exact Has.head | apply Has.tail))) hs), (Kn.lend (Kn.trow (e := 86) (r := r_p0.2.2.2.2.2.2) (by repeat (first | exact Has.head | apply Has.tail))) hs)⟩) ⟨fun w hm => hm.sub (by repeat (first | exact List.Sublist.refl _ | apply List.Sublist.cons_cons | apply List.Sublist.cons)), ?_⟩)
          obtain ⟨y21, hy22, hM⟩ := bind_some hM
          refine aw_gtrue 35 rfl rfl hg16 (st_callv (fun w hm => let ⟨S, hs⟩ := hm; keep_start_spec _ w (Plan.mk p0.Period p0.Stocks p0.Routes p0.Lines p0.Changes lb_p0_2_5 p0.Syncs p0.Demands) (r_p0.1, r_p0.2.1, r_p0.2.2.1, r_p0.2.2.2.1, rb_p0_2_5, r_p0.2.2.2.2.2.1, r_p0.2.2.2.2.2.2) (t22_2 : Int) 0 y21 hy22 (lend_lt hs) ⟨(Kn.lend (Kn.trow (e := 71) (r := r_p0.1) (by repeat (first | exact Has.head | apply Has.tail))) hs), (Kn.lend (Kn.trow (e := 90) (r := r_p0.2.1) (by repeat (first | exact Has.head | apply Has.tail))) hs), (Kn.lend (Kn.trow (e := 56) (r := r_p0.2.2.1) (by repeat (first | exact Has.head | apply Has.tail))) hs), (Kn.lend (Kn.trow (e := 79) (r := r_p0.2.2.2.1) (by repeat (first | exact Has.head | apply Has.tail))) hs), (Kn.lend (Kn.trow (e := 94) (r := rb_p0_2_5) (by repeat (first | exact Has.head | apply Has.tail))) hs), (Kn.lend (Kn.trow (e := 84) (r := r_p0.2.2.2.2.2.1) (by repeat (first | exact Has.head | apply Has.tail))) hs), (Kn.lend (Kn.trow (e := 86) (r := r_p0.2.2.2.2.2.2) (by repeat (first | exact Has.head | apply Has.tail))) hs)⟩) ⟨fun w hm => hm.sub (by repeat (first | exact List.Sublist.refl _ | apply List.Sublist.cons_cons | apply List.Sublist.cons)), ?_⟩)
          refine aw_evk 36 rfl rfl hg16 ev_eql ?_
          refine aw_ev 37 rfl ev_and ?_
          refine aw_done (hK11 _ _ ?_); clear hK11
          refine cw_cond rfl (fun hc23 => ?_) (fun hc23 => ?_)
          ·
            replace hM := (ite_t hc23).symm.trans hM
            refine cw_seq fun K12 hK12 => ?_
            refine cw_region ?_
            refine ow_ev ev_move ?_
            refine ow_ev ev_move ?_
            obtain ⟨x24, hx25, hM⟩ := bind_some hM
            refine ow_ev (ev_aidx (r := (⟨some ⟨b1, 0, none⟩, 4, fun _ => ()⟩ : SR (GoRep.R Bool))) (xs := lfrom_2) 1 (Kn.trow (e := 144) (r := (⟨some ⟨b1, 0, none⟩, 4, fun _ => ()⟩ : SR (GoRep.R Bool))) (by repeat (first | exact Has.head | apply Has.tail))) (fun hg => let h := idx_some hx25; ⟨h.1, h.2.1⟩)) ?_
            refine ow_cons (st_set (r := (⟨some ⟨b1, 0, none⟩, 4, fun _ => ()⟩ : SR (GoRep.R Bool))) (i := (t14_1 : Int)) (xs := lfrom_2) (u := x24) (vs := [.bool true]) 0 true hx25 rfl (fun _ _ h => h) (by repeat (first | exact Upd.head | apply Upd.tail)) ?_)
            have hx26 := idx_set_same (u := true) hx25
            obtain ⟨x27, hx28, hM⟩ := bind_some hM
            refine ow_ev (ev_aidx (r := (⟨some ⟨b2, 0, none⟩, 4, fun _ => ()⟩ : SR (GoRep.R Bool))) (xs := lto_2) 1 (Kn.trow (e := 144) (r := (⟨some ⟨b2, 0, none⟩, 4, fun _ => ()⟩ : SR (GoRep.R Bool))) (by repeat (first | exact Has.head | apply Has.tail))) (fun hg => let h := idx_some hx28; ⟨h.1, h.2.1⟩)) ?_
            refine ow_cons (st_set (r := (⟨some ⟨b2, 0, none⟩, 4, fun _ => ()⟩ : SR (GoRep.R Bool))) (i := (t22_2 : Int)) (xs := lto_2) (u := x27) (vs := [.bool true]) 0 true hx28 rfl (fun _ _ h => h) (by repeat (first | exact Upd.head | apply Upd.tail)) ?_)
            have hx29 := idx_set_same (u := true) hx28
            refine ow_nil (hK12 _ _ ?_); clear hK12
            refine cw_seq fun K13 hK13 => ?_
            refine cw_region ?_
            refine ow_ev ev_move ?_
            obtain ⟨y30, hy31, hM⟩ := bind_some hM
            refine ow_cons (st_callF (by repeat (first | exact SelL.nil | (apply SelL.cons; · (repeat (first | exact Sel.head | apply Sel.tail))))) (fun S w hs hP => keep_Source_Next_spec _ w b_s0 (Keep_Source.mk s0.l y7.2) r_s0 10 y30 hy31 hP (Kn.lend (Kn.imm (α := List Int) (r := r_s0) (x := s0.l) (by repeat (first | exact Has.head | apply Has.tail))) hs)) (by intro r c hc; simp only [List.mem_cons, List.not_mem_nil, or_false] at hc; rcases hc with rfl <;> first | exact flatC_own | exact flatC_trow (fun _ _ _ _ => trivial)) (fun r32 => ?_))
            dsimp only [List.cons_append, List.nil_append]
            obtain ⟨hI33, hM⟩ := chk_some hM
            refine ow_ev (ev_add (hr := fun hg => i64b_I64 hI33)) ?_
            refine ow_ev ev_assign ?_
            refine ow_nil (hK13 _ _ ?_); clear hK13
            refine cw_region_z [imm (α := (List Int)) r_s0 s0.l, trow 71 r_p0.1 p0.Stocks, trow 90 r_p0.2.1 p0.Routes, trow 56 r_p0.2.2.1 p0.Lines, trow 79 r_p0.2.2.2.1 p0.Changes, trow 84 r_p0.2.2.2.2.2.1 p0.Syncs, trow 86 r_p0.2.2.2.2.2.2 p0.Demands, own b_p0 35 [.int .i64 p0.Period, .slice r_p0.1.a p0.Stocks.length r_p0.1.cap, .slice r_p0.2.1.a p0.Routes.length r_p0.2.1.cap, .slice r_p0.2.2.1.a p0.Lines.length r_p0.2.2.1.cap, .slice r_p0.2.2.2.1.a p0.Changes.length r_p0.2.2.2.1.cap, .slice rb_p0_2_5.a lb_p0_2_5.length rb_p0_2_5.cap, .slice r_p0.2.2.2.2.2.1.a p0.Syncs.length r_p0.2.2.2.2.2.1.cap, .slice r_p0.2.2.2.2.2.2.a p0.Demands.length r_p0.2.2.2.2.2.2.cap], trow 144 (⟨some ⟨b1, 0, none⟩, 4, fun _ => ()⟩ : SR (GoRep.R Bool)) (lfrom_2.set (t14_1 : Int).toNat true), trow 144 (⟨some ⟨b2, 0, none⟩, 4, fun _ => ()⟩ : SR (GoRep.R Bool)) (lto_2.set (t22_2 : Int).toNat true)] 17 ?_
            refine az_ev 0 rfl ev_move ?_
            refine az_ev 1 rfl ev_move ?_
            refine az_ev 2 rfl ev_nilcheck ?_
            refine az_ev 3 rfl (ev_field_addr 5) ?_
            refine az_ev 4 rfl (ev_load_own (b := b_p0)) ?_
            refine az_ev 5 rfl ev_move ?_
            refine az_ev 6 rfl ev_move ?_
            refine az_ev 7 rfl ev_move ?_
            refine az_ev 8 rfl ev_move ?_
            refine az_ev 9 rfl ev_move ?_
            obtain ⟨y34, hy35, hM⟩ := bind_some hM
            refine az_one 10 rfl (st_callF (by repeat (first | exact SelL.nil | (apply SelL.cons; · (repeat (first | exact Sel.head | apply Sel.tail))))) (fun S w hs hP => keep_Source_Next_spec _ w b_s0 (Keep_Source.mk s0.l y30.2) r_s0 30 y34 hy35 hP (Kn.lend (Kn.imm (α := List Int) (r := r_s0) (x := s0.l) (by repeat (first | exact Has.head | apply Has.tail))) hs)) (by intro r c hc; simp only [List.mem_cons, List.not_mem_nil, or_false] at hc; rcases hc with rfl <;> first | exact flatC_own | exact flatC_trow (fun _ _ _ _ => trivial)) (fun r36 => ⟨fun w hm => hm.sub (by repeat (first | exact List.Sublist.refl _ | apply List.Sublist.cons_cons | apply List.Sublist.cons)), ?_⟩))
            dsimp only [List.cons_append, List.nil_append]
            obtain ⟨hI37, hM⟩ := chk_some hM
            refine az_ev 11 rfl (ev_add (hr := fun hg => i64b_I64 hI37)) ?_
            refine az_ev 12 rfl (ev_build [.int .i64 (t14_1 : Int), .int .i64 (t22_2 : Int), .int .i64 (10 + y30.1), .int .i64 ((10 + y30.1) + y34.1)]) ?_
            refine az_one 13 rfl (st_bslice (α := Turn) 94 (fun _ => ()) ([(Turn.mk (t14_1 : Int) (t22_2 : Int) (10 + y30.1) ((10 + y30.1) + y34.1))] : List Turn) (OkL.flat (fun _ _ _ _ => trivial)) (fun r38 => ⟨fun w hm => hm.sub (by repeat (first | exact List.Sublist.refl _ | apply List.Sublist.cons_cons | apply List.Sublist.cons)), ?_⟩))
            obtain ⟨hb40, hM⟩ := chk_some hM
            refine az_one 14 rfl (st_append (r := rb_p0_2_5) (r2 := r38) (by intro r'; repeat (first | exact Upd.head | apply Upd.tail)) (Kn.trow (e := 94) (r := r38) (by repeat (first | exact Has.head | apply Has.tail))) (OkL.flat (fun _ _ _ _ => trivial)) (of_decide_eq_true hb40) (fun r39 => ⟨fun w hm => hm.sub (by repeat (first | exact List.Sublist.refl _ | apply List.Sublist.cons_cons | apply List.Sublist.cons)), ?_⟩))
            refine az_ev 15 rfl ev_nilcheck ?_
            refine az_ev 16 rfl (ev_field_addr 5) ?_
            refine az_last rfl (st_store_own (b := b_p0) (l' := [.int .i64 p0.Period, .slice r_p0.1.a p0.Stocks.length r_p0.1.cap, .slice r_p0.2.1.a p0.Routes.length r_p0.2.1.cap, .slice r_p0.2.2.1.a p0.Lines.length r_p0.2.2.1.cap, .slice r_p0.2.2.2.1.a p0.Changes.length r_p0.2.2.2.1.cap, .slice r39.a ((lb_p0_2_5 ++ ([(Turn.mk (t14_1 : Int) (t22_2 : Int) (10 + y30.1) ((10 + y30.1) + y34.1))] : List Turn)).length) r39.cap, .slice r_p0.2.2.2.2.2.1.a p0.Syncs.length r_p0.2.2.2.2.2.1.cap, .slice r_p0.2.2.2.2.2.2.a p0.Demands.length r_p0.2.2.2.2.2.2.cap]) (k := ?_))
            refine az_done (hJ2 ((y34.2, (lb_p0_2_5 ++ ([(Turn.mk (t14_1 : Int) (t22_2 : Int) (10 + y30.1) ((10 + y30.1) + y34.1))] : List Turn)), (lfrom_2.set (t14_1 : Int).toNat true), (lto_2.set (t22_2 : Int).toNat true)), r39) _ _ hM ⟨rfl, rfl, rfl, rfl, rfl, rfl, rfl, rfl, rfl, trivial⟩ (fun w hm => hm.reord))
          ·
            replace hM := (ite_f hc23).symm.trans hM
            refine cw_skip (hJ2 ((y7.2, lb_p0_2_5, lfrom_2, lto_2), rb_p0_2_5) _ _ hM ⟨rfl, rfl, rfl, rfl, rfl, rfl, rfl, rfl, rfl, trivial⟩ (fun w hm => hm.reord))
        ·
          replace hM := (ite_f hg16).symm.trans hM
          refine aw_gskip 27 rfl rfl hg16 ?_
          refine aw_gskip 28 rfl rfl hg16 ?_
          refine aw_gskip 29 rfl rfl hg16 ?_
          refine aw_gskip 30 rfl rfl hg16 ?_
          refine aw_gskip 31 rfl rfl hg16 ?_
          refine aw_gskip 32 rfl rfl hg16 ?_
          refine aw_gskip 33 rfl rfl hg16 ?_
          refine aw_gskip 34 rfl rfl hg16 ?_
          refine aw_gskip 35 rfl rfl hg16 ?_
          refine aw_gskip 36 rfl rfl hg16 ?_
          refine aw_ev 37 rfl (ev_andF hg16) ?_
          refine aw_done (hK11 _ _ ?_); clear hK11
          refine cw_cond_false rfl rfl ?_
          refine cw_skip (hJ2 ((y7.2, lb_p0_2_5, lfrom_2, lto_2), rb_p0_2_5) _ _ hM ⟨rfl, rfl, rfl, rfl, rfl, rfl, rfl, rfl, rfl, trivial⟩ (fun w hm => hm.reord))
      ·
        clear hM
        intro g hM
        obtain ⟨⟨b_s0_j2_1, lb_p0_j2_5, lfrom_j2, lto_j2⟩, rb_p0_j2_5⟩ := g
        dsimp only at hM ⊢
        dsimp only [keep_turns_k2] at hM
        refine cw_region ?_
        refine ow_ev (ev_add (hr := fun _ => by unfold I64; omega)) ?_
        refine ow_ev ev_move ?_
        refine ow_nil (hL2 (nn2, (b_s0_j2_1, lb_p0_j2_5, lfrom_j2, lto_j2, t22_2 + 1), rb_p0_j2_5) _ _ (eqc hcont2 hM) (Nat.lt_succ_self _) ⟨rfl, rfl, rfl, rfl, rfl, rfl, rfl, rfl, rfl, trivial⟩ (fun w hm => hm.reord))
    ·
      replace hM := (ite_f hc6).symm.trans hM
      refine cw_exit (hK5 _ _ ?_); clear hK5
      dsimp only [keep_turns_k1] at hM
      refine cw_region ?_
      refine ow_ev (ev_add (hr := fun _ => by unfold I64; omega)) ?_
      refine ow_ev ev_move ?_
      refine ow_nil (hL1 (nn1, (b_s0_2_1, lb_p0_2_5, lfrom_2, lto_2, t14_1 + 1), rb_p0_2_5) _ _ (eqc hcont1 hM) (Nat.lt_succ_self _) ⟨rfl, rfl, rfl, rfl, rfl, rfl, trivial⟩ (fun w hm => hm.reord))
  ·
    replace hM := (ite_f hc4).symm.trans hM
    obtain rfl := some_inj hM
    refine cw_exit (kw_end0 rfl (fun w hm => post_of rb_p0_1_5 hm rfl))

end Go.Proofs.YtcalibhfgdncaaaGreatDoor
