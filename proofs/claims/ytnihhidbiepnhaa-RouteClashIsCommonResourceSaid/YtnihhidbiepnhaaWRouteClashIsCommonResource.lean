/- Models of functions, and that the code computes them. -/
import Derived.Test.YtnihhidbiepnhaaRf
import Derived.Test.YtnihhidbiepnhaaRl
import Derived.Test.YtnihhidbiepnhaaRm
import Derived.Test.YtnihhidbiepnhaaRq
namespace Go.Proofs.Ytnihhidbiepnhaa
open Go.Dc Go.RowKit
set_option maxRecDepth 10000
set_option linter.unusedVariables false
def law7_RouteClashIsCommonResource_k3 (cont1 : (Bool × Nat) → Option Bool) (common_2 : Bool) (t54_1 : Nat) : Unit → Option Bool := fun _ =>
  cont1 (common_2, t54_1 + 1)
def law7_RouteClashIsCommonResource_b2 (y11 : (List Int) × Int) (y8 : (List Int) × Int) (t54_1 : Nat) (cont1 : (Bool × Nat) → Option Bool) (cont2 : (Bool × Nat) → Option Bool) : (Bool × Nat) → Option Bool := fun (common_2, t59_2) =>
  if decide ((t59_2 : Int) < (y11.1.length : Int)) then
    ((whn (!common_2) default (idx y8.1 (t54_1 : Int))).bind fun x18 =>
    (whn (!common_2) default (idx y11.1 (t59_2 : Int))).bind fun x20 =>
    cont2 ((common_2 || decide (x18 = x20)), t59_2 + 1))
  else
    (law7_RouteClashIsCommonResource_k3 cont1 common_2 t54_1 ())
def law7_RouteClashIsCommonResource_k2 (y1 : Layout) (lr_j1_0 : List Step) (r_j1_1 : Int) (ls_j1_0 : List Step) (s_j1_1 : Int) (common_1 : Bool) : Unit → Option Bool := fun _ =>
  (route_Clashes_m y1 (Route.mk lr_j1_0 r_j1_1) (Route.mk ls_j1_0 s_j1_1)).bind fun y22 =>
  (route_Clashes_m y1 (Route.mk ls_j1_0 s_j1_1) (Route.mk lr_j1_0 r_j1_1)).bind fun y24 =>
  (law7_awake_m).bind fun y26 =>
  some ((((y26 && decide (y22.2 = 0)) && decide (y24.2 = 0)) && (y22.1 == common_1)) && (y24.1 == common_1))
def law7_RouteClashIsCommonResource_b1 (y8 : (List Int) × Int) (y11 : (List Int) × Int) (y1 : Layout) (lr_j1_0 : List Step) (r_j1_1 : Int) (ls_j1_0 : List Step) (s_j1_1 : Int) (cont1 : (Bool × Nat) → Option Bool) : (Bool × Nat) → Option Bool := fun (common_1, t54_1) =>
  if decide ((t54_1 : Int) < (y8.1.length : Int)) then
    (iter (law7_RouteClashIsCommonResource_b2 y11 y8 t54_1 cont1) FUEL (common_1, 0))
  else
    (law7_RouteClashIsCommonResource_k2 y1 lr_j1_0 r_j1_1 ls_j1_0 s_j1_1 common_1 ())
def law7_RouteClashIsCommonResource_k1 (y1 : Layout) : ((List Step) × Int × (List Step) × Int) → Option Bool := fun (lr_j1_0, r_j1_1, ls_j1_0, s_j1_1) =>
  if (decide ((lr_j1_0.length : Int) < 2) || decide ((ls_j1_0.length : Int) < 2)) then
    ((law7_awake_m).bind fun y6 =>
    some y6)
  else
    ((route_Resources_m y1 (Route.mk lr_j1_0 r_j1_1)).bind fun y8 =>
    (route_Resources_m y1 (Route.mk ls_j1_0 s_j1_1)).bind fun y11 =>
    iter (law7_RouteClashIsCommonResource_b1 y8 y11 y1 lr_j1_0 r_j1_1 ls_j1_0 s_j1_1) FUEL (false, 0))
def law7_RouteClashIsCommonResource_m (l0 : List Int) (c0 : List Int) (d0 : List Int) : Option Bool :=
  (keep_Layout_m l0).bind fun y1 =>
  (keep_Route_m y1 c0).bind fun y28 =>
  (keep_Route_m y1 d0).bind fun y33 =>
  law7_RouteClashIsCommonResource_k1 y1 (y28.Steps, y28.Overlap, y33.Steps, y33.Overlap)
theorem law7_RouteClashIsCommonResource_spec (S : Soup) (w : World) (l0 : List Int) (r_l0 : GoRep.R (List Int)) (c0 : List Int) (r_c0 : GoRep.R (List Int)) (d0 : List Int) (r_d0 : GoRep.R (List Int)) (y : Bool) (hM : law7_RouteClashIsCommonResource_m l0 c0 d0 = some y) (hS : ∀ k, S k → k < w.heap.size) (h_l0 : GoRep.ok S w r_l0 l0) (h_c0 : GoRep.ok S w r_c0 c0) (h_d0 : GoRep.ok S w r_d0 d0) :
    Calls Try.prog 12 #[.slice r_l0.a l0.length r_l0.cap, .slice r_c0.a c0.length r_c0.cap, .slice r_d0.a d0.length r_d0.cap] w (Ret w (.bool y)) := by
  refine calls_cw (args := [_, _, _]) Try.func12 rfl ((pre_nil hS).start |>.immP (α := List Int) (r := r_l0) (x := l0) h_l0|>.immP (α := List Int) (r := r_c0) (x := c0) h_c0|>.immP (α := List Int) (r := r_d0) (x := d0) h_d0) rfl ?_
  unfold law7_RouteClashIsCommonResource_m at hM
  refine cw_seq fun K1 hK1 => ?_
  refine cw_region ?_
  refine ow_ev ev_assign ?_
  refine ow_nil (hK1 _ _ ?_); clear hK1
  refine cw_seq fun K2 hK2 => ?_
  refine cw_region ?_
  refine ow_ev ev_move ?_
  obtain ⟨y1, hy2, hM⟩ := bind_some hM
  refine ow_cons (st_callF SelL.nil (fun S w hs hP => keep_Layout_spec _ w l0 r_l0 y1 hy2 (lend_lt hs) (Kn.lend (Kn.imm (α := List Int) (r := r_l0) (x := l0) (by repeat (first | exact Has.head | apply Has.tail))) hs)) (by intro r c hc; simp only [List.mem_cons, List.not_mem_nil, or_false] at hc; rcases hc with rfl | rfl | rfl | rfl <;> first | exact flatC_own | exact flatC_trow (fun _ _ _ _ => trivial)) (fun r3 => ?_))
  dsimp only [List.cons_append, List.nil_append]
  refine ow_cons (st_alloc rfl (k := fun b4 => ?_))
  refine ow_cons (st_store_all (b := b4) (vs := [.slice r3.1.a y1.Stations.length r3.1.cap, .slice r3.2.1.a y1.Points.length r3.2.1.cap, .slice r3.2.2.1.a y1.Sections.length r3.2.2.1.cap, .slice r3.2.2.2.a y1.Links.length r3.2.2.2.cap]) (k := ?_))
  refine ow_nil (hK2 _ _ ?_); clear hK2
  refine cw_cut (γ := ((List Step) × Int × (List Step) × Int) × (Nat × (SR (GoRep.R Step)) × Nat × (SR (GoRep.R Step)))) (env := fun ((lr_j1_0, r_j1_1, ls_j1_0, s_j1_1), (br_j1, rr_j1_0, bs_j1, rs_j1_0)) => [(7, .v (.pointer (some ⟨b4, 0, none⟩))), (8, .v (.pointer (some ⟨br_j1, 0, none⟩))), (9, .v (.pointer (some ⟨bs_j1, 0, none⟩)))]) (mem := fun ((lr_j1_0, r_j1_1, ls_j1_0, s_j1_1), (br_j1, rr_j1_0, bs_j1, rs_j1_0)) => [trow 9 r3.1 y1.Stations, trow 9 r3.2.1 y1.Points, trow 31 r3.2.2.1 y1.Sections, trow 91 r3.2.2.2 y1.Links, own b4 28 [.slice r3.1.a y1.Stations.length r3.1.cap, .slice r3.2.1.a y1.Points.length r3.2.1.cap, .slice r3.2.2.1.a y1.Sections.length r3.2.2.1.cap, .slice r3.2.2.2.a y1.Links.length r3.2.2.2.cap], trow 40 rr_j1_0 lr_j1_0, own br_j1 48 [.slice rr_j1_0.a lr_j1_0.length rr_j1_0.cap, .int .i64 r_j1_1], trow 40 rs_j1_0 ls_j1_0, own bs_j1 48 [.slice rs_j1_0.a ls_j1_0.length rs_j1_0.cap, .int .i64 s_j1_1]]) (R := fun g => law7_RouteClashIsCommonResource_k1 y1 g.1 = some y) ?_ ?_
  · intro KJ1 hJ1
    refine cw_region_any _ (List.Sublist.refl _) ?_
    refine aw_ev 0 rfl (ev_load_all (b := b4)) ?_
    refine aw_ev 1 rfl ev_move ?_
    refine aw_ev 3 rfl (ev_load_all (b := b4)) ?_
    refine aw_ev 4 rfl ev_move ?_
    obtain ⟨y28, hy29, hM⟩ := bind_some hM
    refine aw_three 2 6 7 (⟨_, rfl, rfl, st_callF SelL.nil (fun S w hs hP => keep_Route_spec _ w y1 r3 c0 r_c0 y28 hy29 (lend_lt hs) ⟨(Kn.lend (Kn.trow (e := 9) (r := r3.1) (by repeat (first | exact Has.head | apply Has.tail))) hs), (Kn.lend (Kn.trow (e := 9) (r := r3.2.1) (by repeat (first | exact Has.head | apply Has.tail))) hs), (Kn.lend (Kn.trow (e := 31) (r := r3.2.2.1) (by repeat (first | exact Has.head | apply Has.tail))) hs), (Kn.lend (Kn.trow (e := 91) (r := r3.2.2.2) (by repeat (first | exact Has.head | apply Has.tail))) hs)⟩ (Kn.lend (Kn.imm (α := List Int) (r := r_c0) (x := c0) (by repeat (first | exact Has.head | apply Has.tail))) hs)) (by intro r c hc; simp only [List.mem_cons, List.not_mem_nil, or_false] at hc; rcases hc with rfl <;> first | exact flatC_own | exact flatC_trow (fun _ _ _ _ => trivial)) (fun r30 => ⟨fun w hm => hm.sub (by repeat (first | exact List.Sublist.refl _ | apply List.Sublist.cons_cons | apply List.Sublist.cons)), ?_⟩)⟩) (⟨_, rfl, rfl, st_alloc rfl (k := fun b31 => ⟨fun w hm => hm.sub (by repeat (first | exact List.Sublist.refl _ | apply List.Sublist.cons_cons | apply List.Sublist.cons)), ?_⟩)⟩) (⟨_, rfl, rfl, st_alloc rfl (k := fun b32 => ⟨fun w hm => hm.sub (by repeat (first | exact List.Sublist.refl _ | apply List.Sublist.cons_cons | apply List.Sublist.cons)), ?_⟩)⟩)
    ·
      dsimp only [List.cons_append, List.nil_append]
      obtain ⟨y33, hy34, hM⟩ := bind_some hM
      refine aw_three 5 6 7 (⟨_, rfl, rfl, st_callF SelL.nil (fun S w hs hP => keep_Route_spec _ w y1 r3 d0 r_d0 y33 hy34 (lend_lt hs) ⟨(Kn.lend (Kn.trow (e := 9) (r := r3.1) (by repeat (first | exact Has.head | apply Has.tail))) hs), (Kn.lend (Kn.trow (e := 9) (r := r3.2.1) (by repeat (first | exact Has.head | apply Has.tail))) hs), (Kn.lend (Kn.trow (e := 31) (r := r3.2.2.1) (by repeat (first | exact Has.head | apply Has.tail))) hs), (Kn.lend (Kn.trow (e := 91) (r := r3.2.2.2) (by repeat (first | exact Has.head | apply Has.tail))) hs)⟩ (Kn.lend (Kn.imm (α := List Int) (r := r_d0) (x := d0) (by repeat (first | exact Has.head | apply Has.tail))) hs)) (by intro r c hc; simp only [List.mem_cons, List.not_mem_nil, or_false] at hc; rcases hc with rfl <;> first | exact flatC_own | exact flatC_trow (fun _ _ _ _ => trivial)) (fun r35 => ⟨fun w hm => hm.sub (by repeat (first | exact List.Sublist.refl _ | apply List.Sublist.cons_cons | apply List.Sublist.cons)), ?_⟩)⟩) (⟨_, rfl, rfl, st_alloc rfl (k := fun b36 => ⟨fun w hm => hm.sub (by repeat (first | exact List.Sublist.refl _ | apply List.Sublist.cons_cons | apply List.Sublist.cons)), ?_⟩)⟩) (⟨_, rfl, rfl, st_alloc rfl (k := fun b37 => ⟨fun w hm => hm.sub (by repeat (first | exact List.Sublist.refl _ | apply List.Sublist.cons_cons | apply List.Sublist.cons)), ?_⟩)⟩)
      ·
        dsimp only [List.cons_append, List.nil_append]
        refine aw_two 6 7 (⟨_, rfl, rfl, st_alloc rfl (k := fun b38 => ⟨fun w hm => hm.sub (by repeat (first | exact List.Sublist.refl _ | apply List.Sublist.cons_cons | apply List.Sublist.cons)), ?_⟩)⟩) (⟨_, rfl, rfl, st_alloc rfl (k := fun b39 => ⟨fun w hm => hm.sub (by repeat (first | exact List.Sublist.refl _ | apply List.Sublist.cons_cons | apply List.Sublist.cons)), ?_⟩)⟩)
        ·
          refine aw_one 7 rfl (st_alloc rfl (k := fun b40 => ⟨fun w hm => hm.sub (by repeat (first | exact List.Sublist.refl _ | apply List.Sublist.cons_cons | apply List.Sublist.cons)), ?_⟩))
          refine aw_one 8 rfl (st_store_all (b := b38) (vs := [.slice r30.a y28.Steps.length r30.cap, .int .i64 y28.Overlap]) (k := ⟨fun w hm => hm.sub (by repeat (first | exact List.Sublist.refl _ | apply List.Sublist.cons_cons | apply List.Sublist.cons)), ?_⟩))
          refine aw_one 9 rfl (st_store_all (b := b40) (vs := [.slice r35.a y33.Steps.length r35.cap, .int .i64 y33.Overlap]) (k := ⟨fun w hm => hm.sub (by repeat (first | exact List.Sublist.refl _ | apply List.Sublist.cons_cons | apply List.Sublist.cons)), ?_⟩))
          refine aw_done (hJ1 ((y28.Steps, y28.Overlap, y33.Steps, y33.Overlap), (b38, r30, b40, r35)) _ _ hM ⟨rfl, rfl, rfl, trivial⟩ (fun w hm => hm.reord))
        ·
          refine aw_one 6 rfl (st_alloc rfl (k := fun b41 => ⟨fun w hm => hm.sub (by repeat (first | exact List.Sublist.refl _ | apply List.Sublist.cons_cons | apply List.Sublist.cons)), ?_⟩))
          refine aw_one 8 rfl (st_store_all (b := b41) (vs := [.slice r30.a y28.Steps.length r30.cap, .int .i64 y28.Overlap]) (k := ⟨fun w hm => hm.sub (by repeat (first | exact List.Sublist.refl _ | apply List.Sublist.cons_cons | apply List.Sublist.cons)), ?_⟩))
          refine aw_one 9 rfl (st_store_all (b := b39) (vs := [.slice r35.a y33.Steps.length r35.cap, .int .i64 y33.Overlap]) (k := ⟨fun w hm => hm.sub (by repeat (first | exact List.Sublist.refl _ | apply List.Sublist.cons_cons | apply List.Sublist.cons)), ?_⟩))
          refine aw_done (hJ1 ((y28.Steps, y28.Overlap, y33.Steps, y33.Overlap), (b41, r30, b39, r35)) _ _ hM ⟨rfl, rfl, rfl, trivial⟩ (fun w hm => hm.reord))
      ·
        refine aw_two 5 7 (⟨_, rfl, rfl, st_callF SelL.nil (fun S w hs hP => keep_Route_spec _ w y1 r3 d0 r_d0 y33 hy34 (lend_lt hs) ⟨(Kn.lend (Kn.trow (e := 9) (r := r3.1) (by repeat (first | exact Has.head | apply Has.tail))) hs), (Kn.lend (Kn.trow (e := 9) (r := r3.2.1) (by repeat (first | exact Has.head | apply Has.tail))) hs), (Kn.lend (Kn.trow (e := 31) (r := r3.2.2.1) (by repeat (first | exact Has.head | apply Has.tail))) hs), (Kn.lend (Kn.trow (e := 91) (r := r3.2.2.2) (by repeat (first | exact Has.head | apply Has.tail))) hs)⟩ (Kn.lend (Kn.imm (α := List Int) (r := r_d0) (x := d0) (by repeat (first | exact Has.head | apply Has.tail))) hs)) (by intro r c hc; simp only [List.mem_cons, List.not_mem_nil, or_false] at hc; rcases hc with rfl <;> first | exact flatC_own | exact flatC_trow (fun _ _ _ _ => trivial)) (fun r42 => ⟨fun w hm => hm.sub (by repeat (first | exact List.Sublist.refl _ | apply List.Sublist.cons_cons | apply List.Sublist.cons)), ?_⟩)⟩) (⟨_, rfl, rfl, st_alloc rfl (k := fun b43 => ⟨fun w hm => hm.sub (by repeat (first | exact List.Sublist.refl _ | apply List.Sublist.cons_cons | apply List.Sublist.cons)), ?_⟩)⟩)
        ·
          dsimp only [List.cons_append, List.nil_append]
          refine aw_one 7 rfl (st_alloc rfl (k := fun b44 => ⟨fun w hm => hm.sub (by repeat (first | exact List.Sublist.refl _ | apply List.Sublist.cons_cons | apply List.Sublist.cons)), ?_⟩))
          refine aw_one 8 rfl (st_store_all (b := b36) (vs := [.slice r30.a y28.Steps.length r30.cap, .int .i64 y28.Overlap]) (k := ⟨fun w hm => hm.sub (by repeat (first | exact List.Sublist.refl _ | apply List.Sublist.cons_cons | apply List.Sublist.cons)), ?_⟩))
          refine aw_one 9 rfl (st_store_all (b := b44) (vs := [.slice r42.a y33.Steps.length r42.cap, .int .i64 y33.Overlap]) (k := ⟨fun w hm => hm.sub (by repeat (first | exact List.Sublist.refl _ | apply List.Sublist.cons_cons | apply List.Sublist.cons)), ?_⟩))
          refine aw_done (hJ1 ((y28.Steps, y28.Overlap, y33.Steps, y33.Overlap), (b36, r30, b44, r42)) _ _ hM ⟨rfl, rfl, rfl, trivial⟩ (fun w hm => hm.reord))
        ·
          refine aw_one 5 rfl (st_callF SelL.nil (fun S w hs hP => keep_Route_spec _ w y1 r3 d0 r_d0 y33 hy34 (lend_lt hs) ⟨(Kn.lend (Kn.trow (e := 9) (r := r3.1) (by repeat (first | exact Has.head | apply Has.tail))) hs), (Kn.lend (Kn.trow (e := 9) (r := r3.2.1) (by repeat (first | exact Has.head | apply Has.tail))) hs), (Kn.lend (Kn.trow (e := 31) (r := r3.2.2.1) (by repeat (first | exact Has.head | apply Has.tail))) hs), (Kn.lend (Kn.trow (e := 91) (r := r3.2.2.2) (by repeat (first | exact Has.head | apply Has.tail))) hs)⟩ (Kn.lend (Kn.imm (α := List Int) (r := r_d0) (x := d0) (by repeat (first | exact Has.head | apply Has.tail))) hs)) (by intro r c hc; simp only [List.mem_cons, List.not_mem_nil, or_false] at hc; rcases hc with rfl <;> first | exact flatC_own | exact flatC_trow (fun _ _ _ _ => trivial)) (fun r45 => ⟨fun w hm => hm.sub (by repeat (first | exact List.Sublist.refl _ | apply List.Sublist.cons_cons | apply List.Sublist.cons)), ?_⟩))
          dsimp only [List.cons_append, List.nil_append]
          refine aw_one 8 rfl (st_store_all (b := b36) (vs := [.slice r30.a y28.Steps.length r30.cap, .int .i64 y28.Overlap]) (k := ⟨fun w hm => hm.sub (by repeat (first | exact List.Sublist.refl _ | apply List.Sublist.cons_cons | apply List.Sublist.cons)), ?_⟩))
          refine aw_one 9 rfl (st_store_all (b := b43) (vs := [.slice r45.a y33.Steps.length r45.cap, .int .i64 y33.Overlap]) (k := ⟨fun w hm => hm.sub (by repeat (first | exact List.Sublist.refl _ | apply List.Sublist.cons_cons | apply List.Sublist.cons)), ?_⟩))
          refine aw_done (hJ1 ((y28.Steps, y28.Overlap, y33.Steps, y33.Overlap), (b36, r30, b43, r45)) _ _ hM ⟨rfl, rfl, rfl, trivial⟩ (fun w hm => hm.reord))
      ·
        refine aw_two 5 6 (⟨_, rfl, rfl, st_callF SelL.nil (fun S w hs hP => keep_Route_spec _ w y1 r3 d0 r_d0 y33 hy34 (lend_lt hs) ⟨(Kn.lend (Kn.trow (e := 9) (r := r3.1) (by repeat (first | exact Has.head | apply Has.tail))) hs), (Kn.lend (Kn.trow (e := 9) (r := r3.2.1) (by repeat (first | exact Has.head | apply Has.tail))) hs), (Kn.lend (Kn.trow (e := 31) (r := r3.2.2.1) (by repeat (first | exact Has.head | apply Has.tail))) hs), (Kn.lend (Kn.trow (e := 91) (r := r3.2.2.2) (by repeat (first | exact Has.head | apply Has.tail))) hs)⟩ (Kn.lend (Kn.imm (α := List Int) (r := r_d0) (x := d0) (by repeat (first | exact Has.head | apply Has.tail))) hs)) (by intro r c hc; simp only [List.mem_cons, List.not_mem_nil, or_false] at hc; rcases hc with rfl <;> first | exact flatC_own | exact flatC_trow (fun _ _ _ _ => trivial)) (fun r46 => ⟨fun w hm => hm.sub (by repeat (first | exact List.Sublist.refl _ | apply List.Sublist.cons_cons | apply List.Sublist.cons)), ?_⟩)⟩) (⟨_, rfl, rfl, st_alloc rfl (k := fun b47 => ⟨fun w hm => hm.sub (by repeat (first | exact List.Sublist.refl _ | apply List.Sublist.cons_cons | apply List.Sublist.cons)), ?_⟩)⟩)
        ·
          dsimp only [List.cons_append, List.nil_append]
          refine aw_one 6 rfl (st_alloc rfl (k := fun b48 => ⟨fun w hm => hm.sub (by repeat (first | exact List.Sublist.refl _ | apply List.Sublist.cons_cons | apply List.Sublist.cons)), ?_⟩))
          refine aw_one 8 rfl (st_store_all (b := b48) (vs := [.slice r30.a y28.Steps.length r30.cap, .int .i64 y28.Overlap]) (k := ⟨fun w hm => hm.sub (by repeat (first | exact List.Sublist.refl _ | apply List.Sublist.cons_cons | apply List.Sublist.cons)), ?_⟩))
          refine aw_one 9 rfl (st_store_all (b := b37) (vs := [.slice r46.a y33.Steps.length r46.cap, .int .i64 y33.Overlap]) (k := ⟨fun w hm => hm.sub (by repeat (first | exact List.Sublist.refl _ | apply List.Sublist.cons_cons | apply List.Sublist.cons)), ?_⟩))
          refine aw_done (hJ1 ((y28.Steps, y28.Overlap, y33.Steps, y33.Overlap), (b48, r30, b37, r46)) _ _ hM ⟨rfl, rfl, rfl, trivial⟩ (fun w hm => hm.reord))
        ·
          refine aw_one 5 rfl (st_callF SelL.nil (fun S w hs hP => keep_Route_spec _ w y1 r3 d0 r_d0 y33 hy34 (lend_lt hs) ⟨(Kn.lend (Kn.trow (e := 9) (r := r3.1) (by repeat (first | exact Has.head | apply Has.tail))) hs), (Kn.lend (Kn.trow (e := 9) (r := r3.2.1) (by repeat (first | exact Has.head | apply Has.tail))) hs), (Kn.lend (Kn.trow (e := 31) (r := r3.2.2.1) (by repeat (first | exact Has.head | apply Has.tail))) hs), (Kn.lend (Kn.trow (e := 91) (r := r3.2.2.2) (by repeat (first | exact Has.head | apply Has.tail))) hs)⟩ (Kn.lend (Kn.imm (α := List Int) (r := r_d0) (x := d0) (by repeat (first | exact Has.head | apply Has.tail))) hs)) (by intro r c hc; simp only [List.mem_cons, List.not_mem_nil, or_false] at hc; rcases hc with rfl <;> first | exact flatC_own | exact flatC_trow (fun _ _ _ _ => trivial)) (fun r49 => ⟨fun w hm => hm.sub (by repeat (first | exact List.Sublist.refl _ | apply List.Sublist.cons_cons | apply List.Sublist.cons)), ?_⟩))
          dsimp only [List.cons_append, List.nil_append]
          refine aw_one 8 rfl (st_store_all (b := b47) (vs := [.slice r30.a y28.Steps.length r30.cap, .int .i64 y28.Overlap]) (k := ⟨fun w hm => hm.sub (by repeat (first | exact List.Sublist.refl _ | apply List.Sublist.cons_cons | apply List.Sublist.cons)), ?_⟩))
          refine aw_one 9 rfl (st_store_all (b := b37) (vs := [.slice r49.a y33.Steps.length r49.cap, .int .i64 y33.Overlap]) (k := ⟨fun w hm => hm.sub (by repeat (first | exact List.Sublist.refl _ | apply List.Sublist.cons_cons | apply List.Sublist.cons)), ?_⟩))
          refine aw_done (hJ1 ((y28.Steps, y28.Overlap, y33.Steps, y33.Overlap), (b47, r30, b37, r49)) _ _ hM ⟨rfl, rfl, rfl, trivial⟩ (fun w hm => hm.reord))
    ·
      refine aw_two 2 7 (⟨_, rfl, rfl, st_callF SelL.nil (fun S w hs hP => keep_Route_spec _ w y1 r3 c0 r_c0 y28 hy29 (lend_lt hs) ⟨(Kn.lend (Kn.trow (e := 9) (r := r3.1) (by repeat (first | exact Has.head | apply Has.tail))) hs), (Kn.lend (Kn.trow (e := 9) (r := r3.2.1) (by repeat (first | exact Has.head | apply Has.tail))) hs), (Kn.lend (Kn.trow (e := 31) (r := r3.2.2.1) (by repeat (first | exact Has.head | apply Has.tail))) hs), (Kn.lend (Kn.trow (e := 91) (r := r3.2.2.2) (by repeat (first | exact Has.head | apply Has.tail))) hs)⟩ (Kn.lend (Kn.imm (α := List Int) (r := r_c0) (x := c0) (by repeat (first | exact Has.head | apply Has.tail))) hs)) (by intro r c hc; simp only [List.mem_cons, List.not_mem_nil, or_false] at hc; rcases hc with rfl <;> first | exact flatC_own | exact flatC_trow (fun _ _ _ _ => trivial)) (fun r50 => ⟨fun w hm => hm.sub (by repeat (first | exact List.Sublist.refl _ | apply List.Sublist.cons_cons | apply List.Sublist.cons)), ?_⟩)⟩) (⟨_, rfl, rfl, st_alloc rfl (k := fun b51 => ⟨fun w hm => hm.sub (by repeat (first | exact List.Sublist.refl _ | apply List.Sublist.cons_cons | apply List.Sublist.cons)), ?_⟩)⟩)
      ·
        dsimp only [List.cons_append, List.nil_append]
        obtain ⟨y52, hy53, hM⟩ := bind_some hM
        refine aw_two 5 7 (⟨_, rfl, rfl, st_callF SelL.nil (fun S w hs hP => keep_Route_spec _ w y1 r3 d0 r_d0 y52 hy53 (lend_lt hs) ⟨(Kn.lend (Kn.trow (e := 9) (r := r3.1) (by repeat (first | exact Has.head | apply Has.tail))) hs), (Kn.lend (Kn.trow (e := 9) (r := r3.2.1) (by repeat (first | exact Has.head | apply Has.tail))) hs), (Kn.lend (Kn.trow (e := 31) (r := r3.2.2.1) (by repeat (first | exact Has.head | apply Has.tail))) hs), (Kn.lend (Kn.trow (e := 91) (r := r3.2.2.2) (by repeat (first | exact Has.head | apply Has.tail))) hs)⟩ (Kn.lend (Kn.imm (α := List Int) (r := r_d0) (x := d0) (by repeat (first | exact Has.head | apply Has.tail))) hs)) (by intro r c hc; simp only [List.mem_cons, List.not_mem_nil, or_false] at hc; rcases hc with rfl <;> first | exact flatC_own | exact flatC_trow (fun _ _ _ _ => trivial)) (fun r54 => ⟨fun w hm => hm.sub (by repeat (first | exact List.Sublist.refl _ | apply List.Sublist.cons_cons | apply List.Sublist.cons)), ?_⟩)⟩) (⟨_, rfl, rfl, st_alloc rfl (k := fun b55 => ⟨fun w hm => hm.sub (by repeat (first | exact List.Sublist.refl _ | apply List.Sublist.cons_cons | apply List.Sublist.cons)), ?_⟩)⟩)
        ·
          dsimp only [List.cons_append, List.nil_append]
          refine aw_one 7 rfl (st_alloc rfl (k := fun b56 => ⟨fun w hm => hm.sub (by repeat (first | exact List.Sublist.refl _ | apply List.Sublist.cons_cons | apply List.Sublist.cons)), ?_⟩))
          refine aw_one 8 rfl (st_store_all (b := b31) (vs := [.slice r50.a y28.Steps.length r50.cap, .int .i64 y28.Overlap]) (k := ⟨fun w hm => hm.sub (by repeat (first | exact List.Sublist.refl _ | apply List.Sublist.cons_cons | apply List.Sublist.cons)), ?_⟩))
          refine aw_one 9 rfl (st_store_all (b := b56) (vs := [.slice r54.a y52.Steps.length r54.cap, .int .i64 y52.Overlap]) (k := ⟨fun w hm => hm.sub (by repeat (first | exact List.Sublist.refl _ | apply List.Sublist.cons_cons | apply List.Sublist.cons)), ?_⟩))
          refine aw_done (hJ1 ((y28.Steps, y28.Overlap, y52.Steps, y52.Overlap), (b31, r50, b56, r54)) _ _ hM ⟨rfl, rfl, rfl, trivial⟩ (fun w hm => hm.reord))
        ·
          refine aw_one 5 rfl (st_callF SelL.nil (fun S w hs hP => keep_Route_spec _ w y1 r3 d0 r_d0 y52 hy53 (lend_lt hs) ⟨(Kn.lend (Kn.trow (e := 9) (r := r3.1) (by repeat (first | exact Has.head | apply Has.tail))) hs), (Kn.lend (Kn.trow (e := 9) (r := r3.2.1) (by repeat (first | exact Has.head | apply Has.tail))) hs), (Kn.lend (Kn.trow (e := 31) (r := r3.2.2.1) (by repeat (first | exact Has.head | apply Has.tail))) hs), (Kn.lend (Kn.trow (e := 91) (r := r3.2.2.2) (by repeat (first | exact Has.head | apply Has.tail))) hs)⟩ (Kn.lend (Kn.imm (α := List Int) (r := r_d0) (x := d0) (by repeat (first | exact Has.head | apply Has.tail))) hs)) (by intro r c hc; simp only [List.mem_cons, List.not_mem_nil, or_false] at hc; rcases hc with rfl <;> first | exact flatC_own | exact flatC_trow (fun _ _ _ _ => trivial)) (fun r57 => ⟨fun w hm => hm.sub (by repeat (first | exact List.Sublist.refl _ | apply List.Sublist.cons_cons | apply List.Sublist.cons)), ?_⟩))
          dsimp only [List.cons_append, List.nil_append]
          refine aw_one 8 rfl (st_store_all (b := b31) (vs := [.slice r50.a y28.Steps.length r50.cap, .int .i64 y28.Overlap]) (k := ⟨fun w hm => hm.sub (by repeat (first | exact List.Sublist.refl _ | apply List.Sublist.cons_cons | apply List.Sublist.cons)), ?_⟩))
          refine aw_one 9 rfl (st_store_all (b := b55) (vs := [.slice r57.a y52.Steps.length r57.cap, .int .i64 y52.Overlap]) (k := ⟨fun w hm => hm.sub (by repeat (first | exact List.Sublist.refl _ | apply List.Sublist.cons_cons | apply List.Sublist.cons)), ?_⟩))
          refine aw_done (hJ1 ((y28.Steps, y28.Overlap, y52.Steps, y52.Overlap), (b31, r50, b55, r57)) _ _ hM ⟨rfl, rfl, rfl, trivial⟩ (fun w hm => hm.reord))
      ·
        refine aw_one 2 rfl (st_callF SelL.nil (fun S w hs hP => keep_Route_spec _ w y1 r3 c0 r_c0 y28 hy29 (lend_lt hs) ⟨(Kn.lend (Kn.trow (e := 9) (r := r3.1) (by repeat (first | exact Has.head | apply Has.tail))) hs), (Kn.lend (Kn.trow (e := 9) (r := r3.2.1) (by repeat (first | exact Has.head | apply Has.tail))) hs), (Kn.lend (Kn.trow (e := 31) (r := r3.2.2.1) (by repeat (first | exact Has.head | apply Has.tail))) hs), (Kn.lend (Kn.trow (e := 91) (r := r3.2.2.2) (by repeat (first | exact Has.head | apply Has.tail))) hs)⟩ (Kn.lend (Kn.imm (α := List Int) (r := r_c0) (x := c0) (by repeat (first | exact Has.head | apply Has.tail))) hs)) (by intro r c hc; simp only [List.mem_cons, List.not_mem_nil, or_false] at hc; rcases hc with rfl <;> first | exact flatC_own | exact flatC_trow (fun _ _ _ _ => trivial)) (fun r58 => ⟨fun w hm => hm.sub (by repeat (first | exact List.Sublist.refl _ | apply List.Sublist.cons_cons | apply List.Sublist.cons)), ?_⟩))
        dsimp only [List.cons_append, List.nil_append]
        obtain ⟨y59, hy60, hM⟩ := bind_some hM
        refine aw_one 5 rfl (st_callF SelL.nil (fun S w hs hP => keep_Route_spec _ w y1 r3 d0 r_d0 y59 hy60 (lend_lt hs) ⟨(Kn.lend (Kn.trow (e := 9) (r := r3.1) (by repeat (first | exact Has.head | apply Has.tail))) hs), (Kn.lend (Kn.trow (e := 9) (r := r3.2.1) (by repeat (first | exact Has.head | apply Has.tail))) hs), (Kn.lend (Kn.trow (e := 31) (r := r3.2.2.1) (by repeat (first | exact Has.head | apply Has.tail))) hs), (Kn.lend (Kn.trow (e := 91) (r := r3.2.2.2) (by repeat (first | exact Has.head | apply Has.tail))) hs)⟩ (Kn.lend (Kn.imm (α := List Int) (r := r_d0) (x := d0) (by repeat (first | exact Has.head | apply Has.tail))) hs)) (by intro r c hc; simp only [List.mem_cons, List.not_mem_nil, or_false] at hc; rcases hc with rfl <;> first | exact flatC_own | exact flatC_trow (fun _ _ _ _ => trivial)) (fun r61 => ⟨fun w hm => hm.sub (by repeat (first | exact List.Sublist.refl _ | apply List.Sublist.cons_cons | apply List.Sublist.cons)), ?_⟩))
        dsimp only [List.cons_append, List.nil_append]
        refine aw_one 8 rfl (st_store_all (b := b31) (vs := [.slice r58.a y28.Steps.length r58.cap, .int .i64 y28.Overlap]) (k := ⟨fun w hm => hm.sub (by repeat (first | exact List.Sublist.refl _ | apply List.Sublist.cons_cons | apply List.Sublist.cons)), ?_⟩))
        refine aw_one 9 rfl (st_store_all (b := b51) (vs := [.slice r61.a y59.Steps.length r61.cap, .int .i64 y59.Overlap]) (k := ⟨fun w hm => hm.sub (by repeat (first | exact List.Sublist.refl _ | apply List.Sublist.cons_cons | apply List.Sublist.cons)), ?_⟩))
        refine aw_done (hJ1 ((y28.Steps, y28.Overlap, y59.Steps, y59.Overlap), (b31, r58, b51, r61)) _ _ hM ⟨rfl, rfl, rfl, trivial⟩ (fun w hm => hm.reord))
    ·
      refine aw_two 2 6 (⟨_, rfl, rfl, st_callF SelL.nil (fun S w hs hP => keep_Route_spec _ w y1 r3 c0 r_c0 y28 hy29 (lend_lt hs) ⟨(Kn.lend (Kn.trow (e := 9) (r := r3.1) (by repeat (first | exact Has.head | apply Has.tail))) hs), (Kn.lend (Kn.trow (e := 9) (r := r3.2.1) (by repeat (first | exact Has.head | apply Has.tail))) hs), (Kn.lend (Kn.trow (e := 31) (r := r3.2.2.1) (by repeat (first | exact Has.head | apply Has.tail))) hs), (Kn.lend (Kn.trow (e := 91) (r := r3.2.2.2) (by repeat (first | exact Has.head | apply Has.tail))) hs)⟩ (Kn.lend (Kn.imm (α := List Int) (r := r_c0) (x := c0) (by repeat (first | exact Has.head | apply Has.tail))) hs)) (by intro r c hc; simp only [List.mem_cons, List.not_mem_nil, or_false] at hc; rcases hc with rfl <;> first | exact flatC_own | exact flatC_trow (fun _ _ _ _ => trivial)) (fun r62 => ⟨fun w hm => hm.sub (by repeat (first | exact List.Sublist.refl _ | apply List.Sublist.cons_cons | apply List.Sublist.cons)), ?_⟩)⟩) (⟨_, rfl, rfl, st_alloc rfl (k := fun b63 => ⟨fun w hm => hm.sub (by repeat (first | exact List.Sublist.refl _ | apply List.Sublist.cons_cons | apply List.Sublist.cons)), ?_⟩)⟩)
      ·
        dsimp only [List.cons_append, List.nil_append]
        obtain ⟨y64, hy65, hM⟩ := bind_some hM
        refine aw_two 5 6 (⟨_, rfl, rfl, st_callF SelL.nil (fun S w hs hP => keep_Route_spec _ w y1 r3 d0 r_d0 y64 hy65 (lend_lt hs) ⟨(Kn.lend (Kn.trow (e := 9) (r := r3.1) (by repeat (first | exact Has.head | apply Has.tail))) hs), (Kn.lend (Kn.trow (e := 9) (r := r3.2.1) (by repeat (first | exact Has.head | apply Has.tail))) hs), (Kn.lend (Kn.trow (e := 31) (r := r3.2.2.1) (by repeat (first | exact Has.head | apply Has.tail))) hs), (Kn.lend (Kn.trow (e := 91) (r := r3.2.2.2) (by repeat (first | exact Has.head | apply Has.tail))) hs)⟩ (Kn.lend (Kn.imm (α := List Int) (r := r_d0) (x := d0) (by repeat (first | exact Has.head | apply Has.tail))) hs)) (by intro r c hc; simp only [List.mem_cons, List.not_mem_nil, or_false] at hc; rcases hc with rfl <;> first | exact flatC_own | exact flatC_trow (fun _ _ _ _ => trivial)) (fun r66 => ⟨fun w hm => hm.sub (by repeat (first | exact List.Sublist.refl _ | apply List.Sublist.cons_cons | apply List.Sublist.cons)), ?_⟩)⟩) (⟨_, rfl, rfl, st_alloc rfl (k := fun b67 => ⟨fun w hm => hm.sub (by repeat (first | exact List.Sublist.refl _ | apply List.Sublist.cons_cons | apply List.Sublist.cons)), ?_⟩)⟩)
        ·
          dsimp only [List.cons_append, List.nil_append]
          refine aw_one 6 rfl (st_alloc rfl (k := fun b68 => ⟨fun w hm => hm.sub (by repeat (first | exact List.Sublist.refl _ | apply List.Sublist.cons_cons | apply List.Sublist.cons)), ?_⟩))
          refine aw_one 8 rfl (st_store_all (b := b68) (vs := [.slice r62.a y28.Steps.length r62.cap, .int .i64 y28.Overlap]) (k := ⟨fun w hm => hm.sub (by repeat (first | exact List.Sublist.refl _ | apply List.Sublist.cons_cons | apply List.Sublist.cons)), ?_⟩))
          refine aw_one 9 rfl (st_store_all (b := b32) (vs := [.slice r66.a y64.Steps.length r66.cap, .int .i64 y64.Overlap]) (k := ⟨fun w hm => hm.sub (by repeat (first | exact List.Sublist.refl _ | apply List.Sublist.cons_cons | apply List.Sublist.cons)), ?_⟩))
          refine aw_done (hJ1 ((y28.Steps, y28.Overlap, y64.Steps, y64.Overlap), (b68, r62, b32, r66)) _ _ hM ⟨rfl, rfl, rfl, trivial⟩ (fun w hm => hm.reord))
        ·
          refine aw_one 5 rfl (st_callF SelL.nil (fun S w hs hP => keep_Route_spec _ w y1 r3 d0 r_d0 y64 hy65 (lend_lt hs) ⟨(Kn.lend (Kn.trow (e := 9) (r := r3.1) (by repeat (first | exact Has.head | apply Has.tail))) hs), (Kn.lend (Kn.trow (e := 9) (r := r3.2.1) (by repeat (first | exact Has.head | apply Has.tail))) hs), (Kn.lend (Kn.trow (e := 31) (r := r3.2.2.1) (by repeat (first | exact Has.head | apply Has.tail))) hs), (Kn.lend (Kn.trow (e := 91) (r := r3.2.2.2) (by repeat (first | exact Has.head | apply Has.tail))) hs)⟩ (Kn.lend (Kn.imm (α := List Int) (r := r_d0) (x := d0) (by repeat (first | exact Has.head | apply Has.tail))) hs)) (by intro r c hc; simp only [List.mem_cons, List.not_mem_nil, or_false] at hc; rcases hc with rfl <;> first | exact flatC_own | exact flatC_trow (fun _ _ _ _ => trivial)) (fun r69 => ⟨fun w hm => hm.sub (by repeat (first | exact List.Sublist.refl _ | apply List.Sublist.cons_cons | apply List.Sublist.cons)), ?_⟩))
          dsimp only [List.cons_append, List.nil_append]
          refine aw_one 8 rfl (st_store_all (b := b67) (vs := [.slice r62.a y28.Steps.length r62.cap, .int .i64 y28.Overlap]) (k := ⟨fun w hm => hm.sub (by repeat (first | exact List.Sublist.refl _ | apply List.Sublist.cons_cons | apply List.Sublist.cons)), ?_⟩))
          refine aw_one 9 rfl (st_store_all (b := b32) (vs := [.slice r69.a y64.Steps.length r69.cap, .int .i64 y64.Overlap]) (k := ⟨fun w hm => hm.sub (by repeat (first | exact List.Sublist.refl _ | apply List.Sublist.cons_cons | apply List.Sublist.cons)), ?_⟩))
          refine aw_done (hJ1 ((y28.Steps, y28.Overlap, y64.Steps, y64.Overlap), (b67, r62, b32, r69)) _ _ hM ⟨rfl, rfl, rfl, trivial⟩ (fun w hm => hm.reord))
      ·
        refine aw_one 2 rfl (st_callF SelL.nil (fun S w hs hP => keep_Route_spec _ w y1 r3 c0 r_c0 y28 hy29 (lend_lt hs) ⟨(Kn.lend (Kn.trow (e := 9) (r := r3.1) (by repeat (first | exact Has.head | apply Has.tail))) hs), (Kn.lend (Kn.trow (e := 9) (r := r3.2.1) (by repeat (first | exact Has.head | apply Has.tail))) hs), (Kn.lend (Kn.trow (e := 31) (r := r3.2.2.1) (by repeat (first | exact Has.head | apply Has.tail))) hs), (Kn.lend (Kn.trow (e := 91) (r := r3.2.2.2) (by repeat (first | exact Has.head | apply Has.tail))) hs)⟩ (Kn.lend (Kn.imm (α := List Int) (r := r_c0) (x := c0) (by repeat (first | exact Has.head | apply Has.tail))) hs)) (by intro r c hc; simp only [List.mem_cons, List.not_mem_nil, or_false] at hc; rcases hc with rfl <;> first | exact flatC_own | exact flatC_trow (fun _ _ _ _ => trivial)) (fun r70 => ⟨fun w hm => hm.sub (by repeat (first | exact List.Sublist.refl _ | apply List.Sublist.cons_cons | apply List.Sublist.cons)), ?_⟩))
        dsimp only [List.cons_append, List.nil_append]
        obtain ⟨y71, hy72, hM⟩ := bind_some hM
        refine aw_one 5 rfl (st_callF SelL.nil (fun S w hs hP => keep_Route_spec _ w y1 r3 d0 r_d0 y71 hy72 (lend_lt hs) ⟨(Kn.lend (Kn.trow (e := 9) (r := r3.1) (by repeat (first | exact Has.head | apply Has.tail))) hs), (Kn.lend (Kn.trow (e := 9) (r := r3.2.1) (by repeat (first | exact Has.head | apply Has.tail))) hs), (Kn.lend (Kn.trow (e := 31) (r := r3.2.2.1) (by repeat (first | exact Has.head | apply Has.tail))) hs), (Kn.lend (Kn.trow (e := 91) (r := r3.2.2.2) (by repeat (first | exact Has.head | apply Has.tail))) hs)⟩ (Kn.lend (Kn.imm (α := List Int) (r := r_d0) (x := d0) (by repeat (first | exact Has.head | apply Has.tail))) hs)) (by intro r c hc; simp only [List.mem_cons, List.not_mem_nil, or_false] at hc; rcases hc with rfl <;> first | exact flatC_own | exact flatC_trow (fun _ _ _ _ => trivial)) (fun r73 => ⟨fun w hm => hm.sub (by repeat (first | exact List.Sublist.refl _ | apply List.Sublist.cons_cons | apply List.Sublist.cons)), ?_⟩))
        dsimp only [List.cons_append, List.nil_append]
        refine aw_one 8 rfl (st_store_all (b := b63) (vs := [.slice r70.a y28.Steps.length r70.cap, .int .i64 y28.Overlap]) (k := ⟨fun w hm => hm.sub (by repeat (first | exact List.Sublist.refl _ | apply List.Sublist.cons_cons | apply List.Sublist.cons)), ?_⟩))
        refine aw_one 9 rfl (st_store_all (b := b32) (vs := [.slice r73.a y71.Steps.length r73.cap, .int .i64 y71.Overlap]) (k := ⟨fun w hm => hm.sub (by repeat (first | exact List.Sublist.refl _ | apply List.Sublist.cons_cons | apply List.Sublist.cons)), ?_⟩))
        refine aw_done (hJ1 ((y28.Steps, y28.Overlap, y71.Steps, y71.Overlap), (b63, r70, b32, r73)) _ _ hM ⟨rfl, rfl, rfl, trivial⟩ (fun w hm => hm.reord))
  ·
    clear hM
    intro g hM
    obtain ⟨⟨lr_j1_0, r_j1_1, ls_j1_0, s_j1_1⟩, ⟨br_j1, rr_j1_0, bs_j1, rs_j1_0⟩⟩ := g
    dsimp only at hM ⊢
    dsimp only [law7_RouteClashIsCommonResource_k1] at hM
    refine cw_seq fun K3 hK3 => ?_
    refine cw_seq fun K4 hK4 => ?_
    refine cw_region ?_
    refine ow_ev (ev_field_addr 0) ?_
    refine ow_ev (ev_load_own (b := br_j1)) ?_
    refine ow_ev ev_len ?_
    refine ow_ev ev_lss ?_
    refine ow_ev ev_move ?_
    refine ow_evg rfl (ev_field_addr 0) ?_
    refine ow_evg rfl (ev_load_own (b := bs_j1)) ?_
    refine ow_evg rfl ev_len ?_
    refine ow_evg rfl ev_lss ?_
    refine ow_ev ev_or ?_
    refine ow_nil (hK4 _ _ ?_); clear hK4
    refine cw_cond rfl (fun hc5 => ?_) (fun hc5 => ?_)
    ·
      replace hM := (ite_t hc5).symm.trans hM
      refine cw_seq fun K5 hK5 => ?_
      refine cw_region ?_
      obtain ⟨y6, hy7, hM⟩ := bind_some hM
      refine ow_cons (st_callv (fun w hm => let ⟨S, hs⟩ := hm; law7_awake_spec _ w  y6 hy7 (lend_lt hs) ) ?_)
      refine ow_ev ev_assign ?_
      refine ow_nil (hK5 _ _ ?_); clear hK5
      obtain rfl := some_inj hM
      refine cw_ret (kw_retc1 (fun w hm => ret_of hm rfl))
    ·
      replace hM := (ite_f hc5).symm.trans hM
      refine cw_skip (hK3 _ _ ?_); clear hK3
      refine cw_seq fun K6 hK6 => ?_
      refine cw_region ?_
      refine ow_ev (ev_load_all (b := b4)) ?_
      refine ow_ev (ev_load_all (b := br_j1)) ?_
      obtain ⟨y8, hy9, hM⟩ := bind_some hM
      refine ow_cons (st_callF SelL.nil (fun S w hs hP => route_Resources_spec _ w y1 r3 (Route.mk lr_j1_0 r_j1_1) rr_j1_0 y8 hy9 (lend_lt hs) ⟨(Kn.lend (Kn.trow (e := 9) (r := r3.1) (by repeat (first | exact Has.head | apply Has.tail))) hs), (Kn.lend (Kn.trow (e := 9) (r := r3.2.1) (by repeat (first | exact Has.head | apply Has.tail))) hs), (Kn.lend (Kn.trow (e := 31) (r := r3.2.2.1) (by repeat (first | exact Has.head | apply Has.tail))) hs), (Kn.lend (Kn.trow (e := 91) (r := r3.2.2.2) (by repeat (first | exact Has.head | apply Has.tail))) hs)⟩ (Kn.lend (Kn.trow (e := 40) (r := rr_j1_0) (by repeat (first | exact Has.head | apply Has.tail))) hs)) (by intro r c hc; simp only [List.mem_cons, List.not_mem_nil, or_false] at hc; rcases hc with rfl <;> first | exact flatC_own | exact flatC_trow (fun _ _ _ _ => trivial)) (fun r10 => ?_))
      dsimp only [List.cons_append, List.nil_append]
      refine ow_ev ev_move ?_
      refine ow_ev (ev_extract (vs := [.slice r10.a y8.1.length r10.cap, .int .i64 y8.2])) ?_
      refine ow_ev (ev_extract (vs := [.slice r10.a y8.1.length r10.cap, .int .i64 y8.2])) ?_
      refine ow_ev ev_assign ?_
      refine ow_ev ev_assign ?_
      refine ow_nil (hK6 _ _ ?_); clear hK6
      refine cw_seq fun K7 hK7 => ?_
      refine cw_region ?_
      refine ow_ev (ev_load_all (b := b4)) ?_
      refine ow_ev (ev_load_all (b := bs_j1)) ?_
      obtain ⟨y11, hy12, hM⟩ := bind_some hM
      refine ow_cons (st_callF SelL.nil (fun S w hs hP => route_Resources_spec _ w y1 r3 (Route.mk ls_j1_0 s_j1_1) rs_j1_0 y11 hy12 (lend_lt hs) ⟨(Kn.lend (Kn.trow (e := 9) (r := r3.1) (by repeat (first | exact Has.head | apply Has.tail))) hs), (Kn.lend (Kn.trow (e := 9) (r := r3.2.1) (by repeat (first | exact Has.head | apply Has.tail))) hs), (Kn.lend (Kn.trow (e := 31) (r := r3.2.2.1) (by repeat (first | exact Has.head | apply Has.tail))) hs), (Kn.lend (Kn.trow (e := 91) (r := r3.2.2.2) (by repeat (first | exact Has.head | apply Has.tail))) hs)⟩ (Kn.lend (Kn.trow (e := 40) (r := rs_j1_0) (by repeat (first | exact Has.head | apply Has.tail))) hs)) (by intro r c hc; simp only [List.mem_cons, List.not_mem_nil, or_false] at hc; rcases hc with rfl <;> first | exact flatC_own | exact flatC_trow (fun _ _ _ _ => trivial)) (fun r13 => ?_))
      dsimp only [List.cons_append, List.nil_append]
      refine ow_ev ev_move ?_
      refine ow_ev (ev_extract (vs := [.slice r13.a y11.1.length r13.cap, .int .i64 y11.2])) ?_
      refine ow_ev (ev_extract (vs := [.slice r13.a y11.1.length r13.cap, .int .i64 y11.2])) ?_
      refine ow_ev ev_assign ?_
      refine ow_ev ev_assign ?_
      refine ow_nil (hK7 _ _ ?_); clear hK7
      refine cw_seq fun K8 hK8 => ?_
      refine cw_region ?_
      refine ow_ev ev_assign ?_
      refine ow_nil (hK8 _ _ ?_); clear hK8
      refine cw_seq fun K9 hK9 => ?_
      refine cw_seq fun K10 hK10 => ?_
      refine cw_region ?_
      refine ow_ev ev_move ?_
      refine ow_have (fun w hm => Kn.len (Kn.trow (e := 3) (r := r10) (by repeat (first | exact Has.head | apply Has.tail))) hm) fun hl14 => ?_
      refine ow_ev ev_len ?_
      refine ow_ev ev_move ?_
      refine ow_nil (hK10 _ _ ?_); clear hK10
      refine cw_block ?_
      refine cw_loop (γ := Nat × (Bool × Nat) × Unit) (env := fun (_, (common_1, t54_1), _) => [(7, .v (.pointer (some ⟨b4, 0, none⟩))), (8, .v (.pointer (some ⟨br_j1, 0, none⟩))), (9, .v (.pointer (some ⟨bs_j1, 0, none⟩))), (10, .v (.slice r10.a y8.1.length r10.cap)), (12, .v (.slice r13.a y11.1.length r13.cap)), (14, .v (.bool common_1)), (53, .v (.int .i64 (y8.1.length : Int))), (54, .v (.int .i64 (t54_1 : Int)))]) (mem := fun (_, (common_1, t54_1), _) => [trow 9 r3.1 y1.Stations, trow 9 r3.2.1 y1.Points, trow 31 r3.2.2.1 y1.Sections, trow 91 r3.2.2.2 y1.Links, own b4 28 [.slice r3.1.a y1.Stations.length r3.1.cap, .slice r3.2.1.a y1.Points.length r3.2.1.cap, .slice r3.2.2.1.a y1.Sections.length r3.2.2.1.cap, .slice r3.2.2.2.a y1.Links.length r3.2.2.2.cap], trow 40 rr_j1_0 lr_j1_0, own br_j1 48 [.slice rr_j1_0.a lr_j1_0.length rr_j1_0.cap, .int .i64 r_j1_1], trow 40 rs_j1_0 ls_j1_0, own bs_j1 48 [.slice rs_j1_0.a ls_j1_0.length rs_j1_0.cap, .int .i64 s_j1_1], trow 3 r10 y8.1, trow 3 r13 y11.1]) (R := fun g => iter (law7_RouteClashIsCommonResource_b1 y8 y11 y1 lr_j1_0 r_j1_1 ls_j1_0 s_j1_1) g.1 g.2.1 = some y) (μ := fun g => g.1) (FUEL, (false, 0), ()) hM ⟨rfl, rfl, rfl, rfl, rfl, rfl, rfl, rfl, trivial⟩ (fun w hm => hm.reord) ?_
      clear hM
      intro g hM KL1 hL1
      obtain ⟨nn1, ⟨common_1, t54_1⟩, ⟨⟩⟩ := g
      dsimp only at hM ⊢
      obtain ⟨nn1, cont1, rfl, hcont1, hM⟩ := iter_open' hM
      dsimp only [law7_RouteClashIsCommonResource_b1] at hM
      refine cw_seq fun K11 hK11 => ?_
      refine cw_region ?_
      refine ow_ev ev_lss ?_
      refine ow_nil (hK11 _ _ ?_); clear hK11
      refine cw_seq fun K12 hK12 => ?_
      refine cw_cond rfl (fun hc15 => ?_) (fun hc15 => ?_)
      ·
        replace hM := (ite_t hc15).symm.trans hM
        have hc15d := of_decide_eq_true hc15
        refine cw_skip (hK12 _ _ ?_); clear hK12
        refine cw_seq fun K13 hK13 => ?_
        refine cw_block ?_
        refine cw_seq fun K14 hK14 => ?_
        refine cw_region ?_
        refine ow_ev ev_move ?_
        refine ow_ev ev_assign ?_
        refine ow_nil (hK14 _ _ ?_); clear hK14
        refine cw_seq fun K15 hK15 => ?_
        refine cw_region ?_
        refine ow_ev ev_move ?_
        refine ow_have (fun w hm => Kn.len (Kn.trow (e := 3) (r := r13) (by repeat (first | exact Has.head | apply Has.tail))) hm) fun hl16 => ?_
        refine ow_ev ev_len ?_
        refine ow_ev ev_move ?_
        refine ow_nil (hK15 _ _ ?_); clear hK15
        refine cw_block ?_
        refine cw_loop (γ := Nat × (Bool × Nat) × Unit) (env := fun (_, (common_2, t59_2), _) => [(7, .v (.pointer (some ⟨b4, 0, none⟩))), (8, .v (.pointer (some ⟨br_j1, 0, none⟩))), (9, .v (.pointer (some ⟨bs_j1, 0, none⟩))), (10, .v (.slice r10.a y8.1.length r10.cap)), (12, .v (.slice r13.a y11.1.length r13.cap)), (14, .v (.bool common_2)), (15, .v (.int .i64 (t54_1 : Int))), (53, .v (.int .i64 (y8.1.length : Int))), (54, .v (.int .i64 (t54_1 : Int))), (58, .v (.int .i64 (y11.1.length : Int))), (59, .v (.int .i64 (t59_2 : Int)))]) (mem := fun (_, (common_2, t59_2), _) => [trow 9 r3.1 y1.Stations, trow 9 r3.2.1 y1.Points, trow 31 r3.2.2.1 y1.Sections, trow 91 r3.2.2.2 y1.Links, own b4 28 [.slice r3.1.a y1.Stations.length r3.1.cap, .slice r3.2.1.a y1.Points.length r3.2.1.cap, .slice r3.2.2.1.a y1.Sections.length r3.2.2.1.cap, .slice r3.2.2.2.a y1.Links.length r3.2.2.2.cap], trow 40 rr_j1_0 lr_j1_0, own br_j1 48 [.slice rr_j1_0.a lr_j1_0.length rr_j1_0.cap, .int .i64 r_j1_1], trow 40 rs_j1_0 ls_j1_0, own bs_j1 48 [.slice rs_j1_0.a ls_j1_0.length rs_j1_0.cap, .int .i64 s_j1_1], trow 3 r10 y8.1, trow 3 r13 y11.1]) (R := fun g => iter (law7_RouteClashIsCommonResource_b2 y11 y8 t54_1 cont1) g.1 g.2.1 = some y) (μ := fun g => g.1) (FUEL, (common_1, 0), ()) hM ⟨rfl, rfl, rfl, rfl, rfl, rfl, rfl, rfl, rfl, rfl, rfl, trivial⟩ (fun w hm => hm.reord) ?_
        clear hM
        intro g hM KL2 hL2
        obtain ⟨nn2, ⟨common_2, t59_2⟩, ⟨⟩⟩ := g
        dsimp only at hM ⊢
        obtain ⟨nn2, cont2, rfl, hcont2, hM⟩ := iter_open' hM
        dsimp only [law7_RouteClashIsCommonResource_b2] at hM
        refine cw_seq fun K16 hK16 => ?_
        refine cw_region ?_
        refine ow_ev ev_lss ?_
        refine ow_nil (hK16 _ _ ?_); clear hK16
        refine cw_seq fun K17 hK17 => ?_
        refine cw_cond rfl (fun hc17 => ?_) (fun hc17 => ?_)
        ·
          replace hM := (ite_t hc17).symm.trans hM
          have hc17d := of_decide_eq_true hc17
          refine cw_skip (hK17 _ _ ?_); clear hK17
          refine cw_seq fun K18 hK18 => ?_
          refine cw_block ?_
          refine cw_seq fun K19 hK19 => ?_
          refine cw_region ?_
          refine ow_ev ev_move ?_
          refine ow_ev ev_assign ?_
          refine ow_nil (hK19 _ _ ?_); clear hK19
          refine cw_region_any _ (List.Sublist.refl _) ?_
          refine aw_ev 0 rfl ev_move ?_
          refine aw_ev 1 rfl ev_move ?_
          refine aw_evg 2 rfl rfl ev_move ?_
          refine aw_evg 3 rfl rfl ev_move ?_
          obtain ⟨x18, hx19, hM⟩ := bind_some hM
          refine aw_evg 4 rfl rfl (ev_idx (xs := y8.1) 1 (Kn.trow (e := 3) (r := r10) (by repeat (first | exact Has.head | apply Has.tail))) (fun hg => let h := idx_some (whn_some hx19 hg); ⟨h.1, h.2.1⟩)) ?_
          refine aw_evg 5 rfl rfl (ev_ld (i := (t54_1 : Int)) (xs := y8.1) (y := x18) 0 (Kn.trow (e := 3) (r := r10) (by repeat (first | exact Has.head | apply Has.tail))) (fun hg => whn_some hx19 hg)) ?_
          refine aw_evg 6 rfl rfl ev_move ?_
          refine aw_evg 7 rfl rfl ev_move ?_
          obtain ⟨x20, hx21, hM⟩ := bind_some hM
          refine aw_evg 8 rfl rfl (ev_idx (xs := y11.1) 1 (Kn.trow (e := 3) (r := r13) (by repeat (first | exact Has.head | apply Has.tail))) (fun hg => let h := idx_some (whn_some hx21 hg); ⟨h.1, h.2.1⟩)) ?_
          refine aw_evg 9 rfl rfl (ev_ld (i := (t59_2 : Int)) (xs := y11.1) (y := x20) 0 (Kn.trow (e := 3) (r := r13) (by repeat (first | exact Has.head | apply Has.tail))) (fun hg => whn_some hx21 hg)) ?_
          refine aw_evg 10 rfl rfl ev_eql ?_
          refine aw_ev 11 rfl ev_or ?_
          refine aw_ev 12 rfl ev_assign ?_
          refine aw_done (hK18 _ _ ?_); clear hK18
          refine cw_region ?_
          refine ow_ev (ev_add (hr := fun _ => by unfold I64; omega)) ?_
          refine ow_ev ev_move ?_
          refine ow_nil (hL2 (nn2, ((common_2 || decide (x18 = x20)), t59_2 + 1), ()) _ _ (eqc hcont2 hM) (Nat.lt_succ_self _) ⟨rfl, rfl, rfl, rfl, rfl, rfl, rfl, rfl, rfl, rfl, rfl, trivial⟩ (fun w hm => hm.reord))
        ·
          replace hM := (ite_f hc17).symm.trans hM
          refine cw_exit (hK13 _ _ ?_); clear hK13
          dsimp only [law7_RouteClashIsCommonResource_k3] at hM
          refine cw_region ?_
          refine ow_ev (ev_add (hr := fun _ => by unfold I64; omega)) ?_
          refine ow_ev ev_move ?_
          refine ow_nil (hL1 (nn1, (common_2, t54_1 + 1), ()) _ _ (eqc hcont1 hM) (Nat.lt_succ_self _) ⟨rfl, rfl, rfl, rfl, rfl, rfl, rfl, rfl, trivial⟩ (fun w hm => hm.reord))
      ·
        replace hM := (ite_f hc15).symm.trans hM
        refine cw_exit (hK9 _ _ ?_); clear hK9
        dsimp only [law7_RouteClashIsCommonResource_k2] at hM
        refine cw_seq fun K20 hK20 => ?_
        refine cw_region ?_
        refine ow_ev (ev_load_all (b := b4)) ?_
        refine ow_ev (ev_load_all (b := br_j1)) ?_
        refine ow_ev (ev_load_all (b := bs_j1)) ?_
        obtain ⟨y22, hy23, hM⟩ := bind_some hM
        refine ow_cons (st_callv (fun w hm => let ⟨S, hs⟩ := hm; route_Clashes_spec _ w y1 r3 (Route.mk lr_j1_0 r_j1_1) rr_j1_0 (Route.mk ls_j1_0 s_j1_1) rs_j1_0 y22 hy23 (lend_lt hs) ⟨(Kn.lend (Kn.trow (e := 9) (r := r3.1) (by repeat (first | exact Has.head | apply Has.tail))) hs), (Kn.lend (Kn.trow (e := 9) (r := r3.2.1) (by repeat (first | exact Has.head | apply Has.tail))) hs), (Kn.lend (Kn.trow (e := 31) (r := r3.2.2.1) (by repeat (first | exact Has.head | apply Has.tail))) hs), (Kn.lend (Kn.trow (e := 91) (r := r3.2.2.2) (by repeat (first | exact Has.head | apply Has.tail))) hs)⟩ (Kn.lend (Kn.trow (e := 40) (r := rr_j1_0) (by repeat (first | exact Has.head | apply Has.tail))) hs) (Kn.lend (Kn.trow (e := 40) (r := rs_j1_0) (by repeat (first | exact Has.head | apply Has.tail))) hs)) ?_)
        refine ow_ev ev_move ?_
        refine ow_ev (ev_extract (vs := [.bool y22.1, .int .i64 y22.2])) ?_
        refine ow_ev (ev_extract (vs := [.bool y22.1, .int .i64 y22.2])) ?_
        refine ow_ev ev_assign ?_
        refine ow_ev ev_assign ?_
        refine ow_nil (hK20 _ _ ?_); clear hK20
        refine cw_seq fun K21 hK21 => ?_
        refine cw_region ?_
        refine ow_ev (ev_load_all (b := b4)) ?_
        refine ow_ev (ev_load_all (b := bs_j1)) ?_
        refine ow_ev (ev_load_all (b := br_j1)) ?_
        obtain ⟨y24, hy25, hM⟩ := bind_some hM
        refine ow_cons (st_callv (fun w hm => let ⟨S, hs⟩ := hm; route_Clashes_spec _ w y1 r3 (Route.mk ls_j1_0 s_j1_1) rs_j1_0 (Route.mk lr_j1_0 r_j1_1) rr_j1_0 y24 hy25 (lend_lt hs) ⟨(Kn.lend (Kn.trow (e := 9) (r := r3.1) (by repeat (first | exact Has.head | apply Has.tail))) hs), (Kn.lend (Kn.trow (e := 9) (r := r3.2.1) (by repeat (first | exact Has.head | apply Has.tail))) hs), (Kn.lend (Kn.trow (e := 31) (r := r3.2.2.1) (by repeat (first | exact Has.head | apply Has.tail))) hs), (Kn.lend (Kn.trow (e := 91) (r := r3.2.2.2) (by repeat (first | exact Has.head | apply Has.tail))) hs)⟩ (Kn.lend (Kn.trow (e := 40) (r := rs_j1_0) (by repeat (first | exact Has.head | apply Has.tail))) hs) (Kn.lend (Kn.trow (e := 40) (r := rr_j1_0) (by repeat (first | exact Has.head | apply Has.tail))) hs)) ?_)
        refine ow_ev ev_move ?_
        refine ow_ev (ev_extract (vs := [.bool y24.1, .int .i64 y24.2])) ?_
        refine ow_ev (ev_extract (vs := [.bool y24.1, .int .i64 y24.2])) ?_
        refine ow_ev ev_assign ?_
        refine ow_ev ev_assign ?_
        refine ow_nil (hK21 _ _ ?_); clear hK21
        refine cw_seq fun K22 hK22 => ?_
        refine cw_region ?_
        obtain ⟨y26, hy27, hM⟩ := bind_some hM
        refine ow_cons (st_callv (fun w hm => let ⟨S, hs⟩ := hm; law7_awake_spec _ w  y26 hy27 (lend_lt hs) ) ?_)
        refine ow_ev ev_move ?_
        refine ow_evg rfl ev_move ?_
        refine ow_evg rfl ev_eql ?_
        refine ow_ev ev_and ?_
        refine ow_ev ev_move ?_
        refine ow_evg rfl ev_move ?_
        refine ow_evg rfl ev_eql ?_
        refine ow_ev ev_and ?_
        refine ow_ev ev_move ?_
        refine ow_evg rfl ev_move ?_
        refine ow_evg rfl ev_move ?_
        refine ow_evg rfl ev_bool_eql ?_
        refine ow_ev ev_and ?_
        refine ow_ev ev_move ?_
        refine ow_evg rfl ev_move ?_
        refine ow_evg rfl ev_move ?_
        refine ow_evg rfl ev_bool_eql ?_
        refine ow_ev ev_and ?_
        refine ow_ev ev_assign ?_
        refine ow_nil (hK22 _ _ ?_); clear hK22
        obtain rfl := some_inj hM
        refine cw_ret (kw_retc1 (fun w hm => ret_of hm rfl))

end Go.Proofs.Ytnihhidbiepnhaa
