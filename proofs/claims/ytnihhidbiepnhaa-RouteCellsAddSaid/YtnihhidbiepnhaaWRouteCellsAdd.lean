/- Models of functions, and that the code computes them. -/
import Derived.Test.YtnihhidbiepnhaaRf
import Derived.Test.YtnihhidbiepnhaaRl
import Derived.Test.YtnihhidbiepnhaaRm
namespace Go.Proofs.Ytnihhidbiepnhaa
open Go.Dc Go.RowKit
set_option maxRecDepth 10000
set_option linter.unusedVariables false
def law7_RouteCellsAdd_k3 (y12 : (List Cell) × Int × Int) (at_2 : Int) (x19 : Section) (k_2 : Nat) (cont2 : (Int × Nat) → Option Bool) : Int → Option Bool := fun g_j3 =>
  (whn (!(decide ((y12.1.length : Int) ≤ at_2))) default (idx y12.1 at_2)).bind fun x23 =>
  if (decide ((y12.1.length : Int) ≤ at_2) || (!decide (x23 = (Cell.mk x19.Limit g_j3)))) then
    (some false)
  else
    (chk (i64b (at_2 + 1)) <|
    chk (i64b ((k_2 : Int) + 1)) <|
    cont2 ((at_2 + 1), k_2 + 1))
def law7_RouteCellsAdd_k2 (i_1 : Nat) (cont1 : (Int × Nat) → Option Bool) (at_2 : Int) : Unit → Option Bool := fun _ =>
  chk (i64b ((i_1 : Int) + 1)) <|
  cont1 (at_2, i_1 + 1)
def law7_RouteCellsAdd_b2 (x19 : Section) (y5 : Route) (i_1 : Nat) (y12 : (List Cell) × Int × Int) (cont1 : (Int × Nat) → Option Bool) (cont2 : (Int × Nat) → Option Bool) : (Int × Nat) → Option Bool := fun (at_2, k_2) =>
  if decide ((k_2 : Int) < x19.Length) then
    ((idx y5.Steps (i_1 : Int)).bind fun x28 =>
    if decide (x28.Dir = 1) then
      (chk (i64b (-x19.Grade)) <|
      law7_RouteCellsAdd_k3 y12 at_2 x19 k_2 cont2 (-x19.Grade))
    else
      (law7_RouteCellsAdd_k3 y12 at_2 x19 k_2 cont2 x19.Grade))
  else
    (law7_RouteCellsAdd_k2 i_1 cont1 at_2 ())
def law7_RouteCellsAdd_k1 (y12 : (List Cell) × Int × Int) (at_1 : Int) (y5 : Route) (y1 : Layout) : Unit → Option Bool := fun _ =>
  (law7_awake_m).bind fun y33 =>
  (whn ((y33 && decide (y12.2.2 = 0)) && decide (at_1 = (y12.1.length : Int))) default (idx y5.Steps 0)).bind fun x35 =>
  (whn ((y33 && decide (y12.2.2 = 0)) && decide (at_1 = (y12.1.length : Int))) default (idx y1.Sections x35.Section)).bind fun x37 =>
  some (((y33 && decide (y12.2.2 = 0)) && decide (at_1 = (y12.1.length : Int))) && decide (y12.2.1 = x37.Length))
def law7_RouteCellsAdd_b1 (y5 : Route) (y1 : Layout) (y12 : (List Cell) × Int × Int) (cont1 : (Int × Nat) → Option Bool) : (Int × Nat) → Option Bool := fun (at_1, i_1) =>
  chk (i64b ((y5.Steps.length : Int) - y5.Overlap)) <|
  if decide ((i_1 : Int) < ((y5.Steps.length : Int) - y5.Overlap)) then
    ((idx y5.Steps (i_1 : Int)).bind fun x17 =>
    (idx y1.Sections x17.Section).bind fun x19 =>
    iter (law7_RouteCellsAdd_b2 x19 y5 i_1 y12 cont1) FUEL (at_1, 0))
  else
    (law7_RouteCellsAdd_k1 y12 at_1 y5 y1 ())
def law7_RouteCellsAdd_m (l0 : List Int) (c0 : List Int) : Option Bool :=
  (keep_Layout_m l0).bind fun y1 =>
  (keep_Route_m y1 c0).bind fun y5 =>
  if decide ((y5.Steps.length : Int) < 2) then
    ((law7_awake_m).bind fun y10 =>
    some y10)
  else
    ((route_Cells_m y1 y5).bind fun y12 =>
    iter (law7_RouteCellsAdd_b1 y5 y1 y12) FUEL (0, 0))
theorem law7_RouteCellsAdd_spec (S : Soup) (w : World) (l0 : List Int) (r_l0 : GoRep.R (List Int)) (c0 : List Int) (r_c0 : GoRep.R (List Int)) (y : Bool) (hM : law7_RouteCellsAdd_m l0 c0 = some y) (hS : ∀ k, S k → k < w.heap.size) (h_l0 : GoRep.ok S w r_l0 l0) (h_c0 : GoRep.ok S w r_c0 c0) :
    Calls Try.prog 7 #[.slice r_l0.a l0.length r_l0.cap, .slice r_c0.a c0.length r_c0.cap] w (Ret w (.bool y)) := by
  refine calls_cw (args := [_, _]) Try.func7 rfl ((pre_nil hS).start |>.immP (α := List Int) (r := r_l0) (x := l0) h_l0|>.immP (α := List Int) (r := r_c0) (x := c0) h_c0) rfl ?_
  unfold law7_RouteCellsAdd_m at hM
  refine cw_seq fun K1 hK1 => ?_
  refine cw_region ?_
  refine ow_ev ev_assign ?_
  refine ow_nil (hK1 _ _ ?_); clear hK1
  refine cw_seq fun K2 hK2 => ?_
  refine cw_region ?_
  refine ow_ev ev_move ?_
  obtain ⟨y1, hy2, hM⟩ := bind_some hM
  refine ow_cons (st_callF SelL.nil (fun S w hs hP => keep_Layout_spec _ w l0 r_l0 y1 hy2 (lend_lt hs) (Kn.lend (Kn.imm (α := List Int) (r := r_l0) (x := l0) (by repeat (first | exact Has.head | apply Has.tail))) hs)) (by intro r c hc; simp only [List.mem_cons, List.not_mem_nil, or_false] at hc; rcases hc with rfl | rfl | rfl | rfl <;> first | exact flatC_own | exact flatC_trow (fun _ _ _ _ => trivial)) (fun r3 => ?_))
  dsimp only [List.cons_append, List.nil_append]
  refine ow_cons (st_alloc rfl (k := fun b4 => ?_))
  refine ow_cons (st_store_all (b := b4) (vs := [.slice r3.1.a y1.Stations.length r3.1.cap, .slice r3.2.1.a y1.Points.length r3.2.1.cap, .slice r3.2.2.1.a y1.Sections.length r3.2.2.1.cap, .slice r3.2.2.2.a y1.Links.length r3.2.2.2.cap]) (k := ?_))
  refine ow_nil (hK2 _ _ ?_); clear hK2
  refine cw_seq fun K3 hK3 => ?_
  refine cw_region ?_
  refine ow_ev (ev_load_all (b := b4)) ?_
  refine ow_ev ev_move ?_
  obtain ⟨y5, hy6, hM⟩ := bind_some hM
  refine ow_cons (st_callF SelL.nil (fun S w hs hP => keep_Route_spec _ w y1 r3 c0 r_c0 y5 hy6 (lend_lt hs) ⟨(Kn.lend (Kn.trow (e := 9) (r := r3.1) (by repeat (first | exact Has.head | apply Has.tail))) hs), (Kn.lend (Kn.trow (e := 9) (r := r3.2.1) (by repeat (first | exact Has.head | apply Has.tail))) hs), (Kn.lend (Kn.trow (e := 31) (r := r3.2.2.1) (by repeat (first | exact Has.head | apply Has.tail))) hs), (Kn.lend (Kn.trow (e := 91) (r := r3.2.2.2) (by repeat (first | exact Has.head | apply Has.tail))) hs)⟩ (Kn.lend (Kn.imm (α := List Int) (r := r_c0) (x := c0) (by repeat (first | exact Has.head | apply Has.tail))) hs)) (by intro r c hc; simp only [List.mem_cons, List.not_mem_nil, or_false] at hc; rcases hc with rfl <;> first | exact flatC_own | exact flatC_trow (fun _ _ _ _ => trivial)) (fun r7 => ?_))
  dsimp only [List.cons_append, List.nil_append]
  refine ow_cons (st_alloc rfl (k := fun b8 => ?_))
  refine ow_cons (st_store_all (b := b8) (vs := [.slice r7.a y5.Steps.length r7.cap, .int .i64 y5.Overlap]) (k := ?_))
  refine ow_nil (hK3 _ _ ?_); clear hK3
  refine cw_seq fun K4 hK4 => ?_
  refine cw_seq fun K5 hK5 => ?_
  refine cw_region ?_
  refine ow_ev (ev_field_addr 0) ?_
  refine ow_ev (ev_load_own (b := b8)) ?_
  refine ow_ev ev_len ?_
  refine ow_ev ev_lss ?_
  refine ow_nil (hK5 _ _ ?_); clear hK5
  refine cw_cond rfl (fun hc9 => ?_) (fun hc9 => ?_)
  ·
    replace hM := (ite_t hc9).symm.trans hM
    refine cw_seq fun K6 hK6 => ?_
    refine cw_region ?_
    obtain ⟨y10, hy11, hM⟩ := bind_some hM
    refine ow_cons (st_callv (fun w hm => let ⟨S, hs⟩ := hm; law7_awake_spec _ w  y10 hy11 (lend_lt hs) ) ?_)
    refine ow_ev ev_assign ?_
    refine ow_nil (hK6 _ _ ?_); clear hK6
    obtain rfl := some_inj hM
    refine cw_ret (kw_retc1 (fun w hm => ret_of hm rfl))
  ·
    replace hM := (ite_f hc9).symm.trans hM
    refine cw_skip (hK4 _ _ ?_); clear hK4
    refine cw_seq fun K7 hK7 => ?_
    refine cw_region ?_
    refine ow_ev (ev_load_all (b := b4)) ?_
    refine ow_ev (ev_load_all (b := b8)) ?_
    obtain ⟨y12, hy13, hM⟩ := bind_some hM
    refine ow_cons (st_callF SelL.nil (fun S w hs hP => route_Cells_spec _ w y1 r3 y5 r7 y12 hy13 (lend_lt hs) ⟨(Kn.lend (Kn.trow (e := 9) (r := r3.1) (by repeat (first | exact Has.head | apply Has.tail))) hs), (Kn.lend (Kn.trow (e := 9) (r := r3.2.1) (by repeat (first | exact Has.head | apply Has.tail))) hs), (Kn.lend (Kn.trow (e := 31) (r := r3.2.2.1) (by repeat (first | exact Has.head | apply Has.tail))) hs), (Kn.lend (Kn.trow (e := 91) (r := r3.2.2.2) (by repeat (first | exact Has.head | apply Has.tail))) hs)⟩ (Kn.lend (Kn.trow (e := 40) (r := r7) (by repeat (first | exact Has.head | apply Has.tail))) hs)) (by intro r c hc; simp only [List.mem_cons, List.not_mem_nil, or_false] at hc; rcases hc with rfl <;> first | exact flatC_own | exact flatC_trow (fun _ _ _ _ => trivial)) (fun r14 => ?_))
    dsimp only [List.cons_append, List.nil_append]
    refine ow_ev ev_move ?_
    refine ow_ev (ev_extract (vs := [.slice r14.a y12.1.length r14.cap, .int .i64 y12.2.1, .int .i64 y12.2.2])) ?_
    refine ow_ev (ev_extract (vs := [.slice r14.a y12.1.length r14.cap, .int .i64 y12.2.1, .int .i64 y12.2.2])) ?_
    refine ow_ev (ev_extract (vs := [.slice r14.a y12.1.length r14.cap, .int .i64 y12.2.1, .int .i64 y12.2.2])) ?_
    refine ow_ev ev_assign ?_
    refine ow_ev ev_assign ?_
    refine ow_ev ev_assign ?_
    refine ow_nil (hK7 _ _ ?_); clear hK7
    refine cw_seq fun K8 hK8 => ?_
    refine cw_region ?_
    refine ow_ev ev_assign ?_
    refine ow_nil (hK8 _ _ ?_); clear hK8
    refine cw_seq fun K9 hK9 => ?_
    refine cw_seq fun K10 hK10 => ?_
    refine cw_region ?_
    refine ow_ev ev_assign ?_
    refine ow_nil (hK10 _ _ ?_); clear hK10
    refine cw_block ?_
    refine cw_loop (γ := Nat × (Int × Nat) × Unit) (env := fun (_, (at_1, i_1), _) => [(5, .v (.pointer (some ⟨b4, 0, none⟩))), (6, .v (.pointer (some ⟨b8, 0, none⟩))), (7, .v (.slice r14.a y12.1.length r14.cap)), (8, .v (.int .i64 y12.2.1)), (9, .v (.int .i64 y12.2.2)), (10, .v (.int .i64 at_1)), (11, .v (.int .i64 (i_1 : Int)))]) (mem := fun (_, (at_1, i_1), _) => [trow 9 r3.1 y1.Stations, trow 9 r3.2.1 y1.Points, trow 31 r3.2.2.1 y1.Sections, trow 91 r3.2.2.2 y1.Links, own b4 28 [.slice r3.1.a y1.Stations.length r3.1.cap, .slice r3.2.1.a y1.Points.length r3.2.1.cap, .slice r3.2.2.1.a y1.Sections.length r3.2.2.1.cap, .slice r3.2.2.2.a y1.Links.length r3.2.2.2.cap], trow 40 r7 y5.Steps, own b8 48 [.slice r7.a y5.Steps.length r7.cap, .int .i64 y5.Overlap], trow 57 r14 y12.1]) (R := fun g => iter (law7_RouteCellsAdd_b1 y5 y1 y12) g.1 g.2.1 = some y) (μ := fun g => g.1) (FUEL, (0, 0), ()) hM ⟨rfl, rfl, rfl, rfl, rfl, rfl, rfl, trivial⟩ (fun w hm => hm.reord) ?_
    clear hM
    intro g hM KL1 hL1
    obtain ⟨nn1, ⟨at_1, i_1⟩, ⟨⟩⟩ := g
    dsimp only at hM ⊢
    obtain ⟨nn1, cont1, rfl, hcont1, hM⟩ := iter_open' hM
    dsimp only [law7_RouteCellsAdd_b1] at hM
    refine cw_seq fun K11 hK11 => ?_
    refine cw_seq fun K12 hK12 => ?_
    refine cw_region ?_
    refine ow_ev ev_move ?_
    refine ow_ev (ev_field_addr 0) ?_
    refine ow_ev (ev_load_own (b := b8)) ?_
    refine ow_ev ev_len ?_
    refine ow_ev (ev_field_addr 1) ?_
    refine ow_ev (ev_load_own (b := b8)) ?_
    obtain ⟨hI15, hM⟩ := chk_some hM
    refine ow_ev (ev_sub (hr := fun hg => i64b_I64 hI15)) ?_
    refine ow_ev ev_lss ?_
    refine ow_nil (hK12 _ _ ?_); clear hK12
    refine cw_cond rfl (fun hc16 => ?_) (fun hc16 => ?_)
    ·
      replace hM := (ite_t hc16).symm.trans hM
      refine cw_skip (hK11 _ _ ?_); clear hK11
      refine cw_seq fun K13 hK13 => ?_
      refine cw_block ?_
      refine cw_seq fun K14 hK14 => ?_
      refine cw_region_any _ (List.Sublist.refl _) ?_
      refine aw_ev 0 rfl (ev_field_addr 2) ?_
      refine aw_ev 1 rfl (ev_load_own (b := b4)) ?_
      refine aw_ev 2 rfl (ev_field_addr 0) ?_
      refine aw_ev 3 rfl (ev_load_own (b := b8)) ?_
      refine aw_ev 4 rfl ev_move ?_
      obtain ⟨x17, hx18, hM⟩ := bind_some hM
      refine aw_ev 5 rfl (ev_idx (xs := y5.Steps) 2 (Kn.trow (e := 40) (r := r7) (by repeat (first | exact Has.head | apply Has.tail))) (fun hg => let h := idx_some hx18; ⟨h.1, h.2.1⟩)) ?_
      refine aw_ev 6 rfl (ev_field_addr 0) ?_
      refine aw_ev 7 rfl (ev_ld (i := (i_1 : Int)) (xs := y5.Steps) (y := x17) 0 (Kn.trow (e := 40) (r := r7) (by repeat (first | exact Has.head | apply Has.tail))) (fun _ => hx18)) ?_
      obtain ⟨x19, hx20, hM⟩ := bind_some hM
      refine aw_ev 8 rfl (ev_idx (xs := y1.Sections) 5 (Kn.trow (e := 31) (r := r3.2.2.1) (by repeat (first | exact Has.head | apply Has.tail))) (fun hg => let h := idx_some hx20; ⟨h.1, h.2.1⟩)) ?_
      refine aw_ev 9 rfl (ev_lds (m := 5) (i := x17.Section) (xs := y1.Sections) (y := x19) (l := [.string x19.Name.ba, .int .i64 x19.Length, .int .i64 x19.Limit, .int .i64 x19.Grade, .int .i64 x19.Station]) 0 (Kn.trow (e := 31) (r := r3.2.2.1) (by repeat (first | exact Has.head | apply Has.tail))) (fun _ => hx20)) ?_
      refine aw_one 10 rfl (st_alloc rfl (k := fun b21 => ⟨fun w hm => hm.sub (by repeat (first | exact List.Sublist.refl _ | apply List.Sublist.cons_cons | apply List.Sublist.cons)), ?_⟩))
      refine aw_one 11 rfl (st_store_all (b := b21) (vs := [.string x19.Name.ba, .int .i64 x19.Length, .int .i64 x19.Limit, .int .i64 x19.Grade, .int .i64 x19.Station]) (k := ⟨fun w hm => hm.sub (by repeat (first | exact List.Sublist.refl _ | apply List.Sublist.cons_cons | apply List.Sublist.cons)), ?_⟩))
      refine aw_done (hK14 _ _ ?_); clear hK14
      refine cw_seq fun K15 hK15 => ?_
      refine cw_region ?_
      refine ow_ev ev_assign ?_
      refine ow_nil (hK15 _ _ ?_); clear hK15
      refine cw_block ?_
      refine cw_loop (γ := Nat × (Int × Nat) × Unit) (env := fun (_, (at_2, k_2), _) => [(5, .v (.pointer (some ⟨b4, 0, none⟩))), (6, .v (.pointer (some ⟨b8, 0, none⟩))), (7, .v (.slice r14.a y12.1.length r14.cap)), (8, .v (.int .i64 y12.2.1)), (9, .v (.int .i64 y12.2.2)), (10, .v (.int .i64 at_2)), (11, .v (.int .i64 (i_1 : Int))), (12, .v (.pointer (some ⟨b21, 0, none⟩))), (13, .v (.int .i64 (k_2 : Int)))]) (mem := fun (_, (at_2, k_2), _) => [trow 9 r3.1 y1.Stations, trow 9 r3.2.1 y1.Points, trow 31 r3.2.2.1 y1.Sections, trow 91 r3.2.2.2 y1.Links, own b4 28 [.slice r3.1.a y1.Stations.length r3.1.cap, .slice r3.2.1.a y1.Points.length r3.2.1.cap, .slice r3.2.2.1.a y1.Sections.length r3.2.2.1.cap, .slice r3.2.2.2.a y1.Links.length r3.2.2.2.cap], trow 40 r7 y5.Steps, own b8 48 [.slice r7.a y5.Steps.length r7.cap, .int .i64 y5.Overlap], trow 57 r14 y12.1, own b21 31 [.string x19.Name.ba, .int .i64 x19.Length, .int .i64 x19.Limit, .int .i64 x19.Grade, .int .i64 x19.Station]]) (R := fun g => iter (law7_RouteCellsAdd_b2 x19 y5 i_1 y12 cont1) g.1 g.2.1 = some y) (μ := fun g => g.1) (FUEL, (at_1, 0), ()) hM ⟨rfl, rfl, rfl, rfl, rfl, rfl, rfl, rfl, rfl, trivial⟩ (fun w hm => hm.reord) ?_
      clear hM
      intro g hM KL2 hL2
      obtain ⟨nn2, ⟨at_2, k_2⟩, ⟨⟩⟩ := g
      dsimp only at hM ⊢
      obtain ⟨nn2, cont2, rfl, hcont2, hM⟩ := iter_open' hM
      dsimp only [law7_RouteCellsAdd_b2] at hM
      refine cw_seq fun K16 hK16 => ?_
      refine cw_seq fun K17 hK17 => ?_
      refine cw_region ?_
      refine ow_ev ev_move ?_
      refine ow_ev (ev_field_addr 1) ?_
      refine ow_ev (ev_load_own (b := b21)) ?_
      refine ow_ev ev_lss ?_
      refine ow_nil (hK17 _ _ ?_); clear hK17
      refine cw_cond rfl (fun hc22 => ?_) (fun hc22 => ?_)
      ·
        replace hM := (ite_t hc22).symm.trans hM
        refine cw_skip (hK16 _ _ ?_); clear hK16
        refine cw_seq fun K18 hK18 => ?_
        refine cw_block ?_
        refine cw_seq fun K19 hK19 => ?_
        refine cw_region ?_
        refine ow_ev (ev_field_addr 3) ?_
        refine ow_ev (ev_load_own (b := b21)) ?_
        refine ow_ev ev_assign ?_
        refine ow_nil (hK19 _ _ ?_); clear hK19
        refine cw_cut (γ := Int × Unit) (env := fun (g_j3, _) => [(5, .v (.pointer (some ⟨b4, 0, none⟩))), (6, .v (.pointer (some ⟨b8, 0, none⟩))), (7, .v (.slice r14.a y12.1.length r14.cap)), (8, .v (.int .i64 y12.2.1)), (9, .v (.int .i64 y12.2.2)), (10, .v (.int .i64 at_2)), (11, .v (.int .i64 (i_1 : Int))), (12, .v (.pointer (some ⟨b21, 0, none⟩))), (13, .v (.int .i64 (k_2 : Int))), (14, .v (.int .i64 g_j3))]) (mem := fun (g_j3, _) => [trow 9 r3.1 y1.Stations, trow 9 r3.2.1 y1.Points, trow 31 r3.2.2.1 y1.Sections, trow 91 r3.2.2.2 y1.Links, own b4 28 [.slice r3.1.a y1.Stations.length r3.1.cap, .slice r3.2.1.a y1.Points.length r3.2.1.cap, .slice r3.2.2.1.a y1.Sections.length r3.2.2.1.cap, .slice r3.2.2.2.a y1.Links.length r3.2.2.2.cap], trow 40 r7 y5.Steps, own b8 48 [.slice r7.a y5.Steps.length r7.cap, .int .i64 y5.Overlap], trow 57 r14 y12.1, own b21 31 [.string x19.Name.ba, .int .i64 x19.Length, .int .i64 x19.Limit, .int .i64 x19.Grade, .int .i64 x19.Station]]) (R := fun g => law7_RouteCellsAdd_k3 y12 at_2 x19 k_2 cont2 g.1 = some y) ?_ ?_
        · intro KJ3 hJ3
          refine cw_seq fun K23 hK23 => ?_
          refine cw_region ?_
          refine ow_ev (ev_field_addr 0) ?_
          refine ow_ev (ev_load_own (b := b8)) ?_
          refine ow_ev ev_move ?_
          obtain ⟨x28, hx29, hM⟩ := bind_some hM
          refine ow_ev (ev_idx (xs := y5.Steps) 2 (Kn.trow (e := 40) (r := r7) (by repeat (first | exact Has.head | apply Has.tail))) (fun hg => let h := idx_some hx29; ⟨h.1, h.2.1⟩)) ?_
          refine ow_ev (ev_field_addr 1) ?_
          refine ow_ev (ev_ld (i := (i_1 : Int)) (xs := y5.Steps) (y := x28) 1 (Kn.trow (e := 40) (r := r7) (by repeat (first | exact Has.head | apply Has.tail))) (fun _ => hx29)) ?_
          refine ow_ev ev_eql ?_
          refine ow_nil (hK23 _ _ ?_); clear hK23
          refine cw_cond rfl (fun hc30 => ?_) (fun hc30 => ?_)
          ·
            replace hM := (ite_t hc30).symm.trans hM
            refine cw_region ?_
            refine ow_ev ev_move ?_
            obtain ⟨hI31, hM⟩ := chk_some hM
            refine ow_ev (ev_neg (hr := fun hg => i64b_I64 hI31)) ?_
            refine ow_ev ev_assign ?_
            refine ow_nil (hJ3 ((-x19.Grade), ()) _ _ hM ⟨rfl, rfl, rfl, rfl, rfl, rfl, rfl, rfl, rfl, rfl, trivial⟩ (fun w hm => hm.reord))
          ·
            replace hM := (ite_f hc30).symm.trans hM
            refine cw_skip (hJ3 (x19.Grade, ()) _ _ hM ⟨rfl, rfl, rfl, rfl, rfl, rfl, rfl, rfl, rfl, rfl, trivial⟩ (fun w hm => hm.reord))
        ·
          clear hM
          intro g hM
          obtain ⟨g_j3, ⟨⟩⟩ := g
          dsimp only at hM ⊢
          dsimp only [law7_RouteCellsAdd_k3] at hM
          refine cw_seq fun K20 hK20 => ?_
          refine cw_seq fun K21 hK21 => ?_
          refine cw_region_any _ (List.Sublist.refl _) ?_
          refine aw_ev 0 rfl ev_move ?_
          refine aw_ev 1 rfl ev_move ?_
          refine aw_ev 2 rfl ev_len ?_
          refine aw_ev 3 rfl ev_geq ?_
          refine aw_ev 4 rfl ev_move ?_
          refine aw_evg 5 rfl rfl ev_move ?_
          refine aw_evg 6 rfl rfl ev_move ?_
          obtain ⟨x23, hx24, hM⟩ := bind_some hM
          refine aw_evg 7 rfl rfl (ev_idx (xs := y12.1) 2 (Kn.trow (e := 57) (r := r14) (by repeat (first | exact Has.head | apply Has.tail))) (fun hg => let h := idx_some (whn_some hx24 hg); ⟨h.1, h.2.1⟩)) ?_
          refine aw_evg 8 rfl rfl (ev_lds (m := 2) (i := at_2) (xs := y12.1) (y := x23) (l := [.int .i64 x23.Limit, .int .i64 x23.Grade]) 0 (Kn.trow (e := 57) (r := r14) (by repeat (first | exact Has.head | apply Has.tail))) (fun hg => whn_some hx24 hg)) ?_
          refine aw_evg 9 rfl rfl (ev_field_addr 2) ?_
          refine aw_evg 10 rfl rfl (ev_load_own (b := b21)) ?_
          refine aw_evg 11 rfl rfl ev_move ?_
          refine aw_evg 12 rfl rfl (ev_build [.int .i64 x19.Limit, .int .i64 g_j3]) ?_
          refine aw_evg 13 rfl rfl (ev_neqF [.int .i64, .int .i64] (decide (x23 = (Cell.mk x19.Limit g_j3))) (Cell_eqv _ _)) ?_
          refine aw_ev 14 rfl ev_or ?_
          refine aw_done (hK21 _ _ ?_); clear hK21
          refine cw_cond rfl (fun hc25 => ?_) (fun hc25 => ?_)
          ·
            replace hM := (ite_t hc25).symm.trans hM
            refine cw_seq fun K22 hK22 => ?_
            refine cw_region ?_
            refine ow_ev ev_assign ?_
            refine ow_nil (hK22 _ _ ?_); clear hK22
            obtain rfl := some_inj hM
            refine cw_ret (kw_retc1 (fun w hm => ret_of hm rfl))
          ·
            replace hM := (ite_f hc25).symm.trans hM
            refine cw_skip (hK20 _ _ ?_); clear hK20
            refine cw_region ?_
            refine ow_ev ev_move ?_
            obtain ⟨hI26, hM⟩ := chk_some hM
            refine ow_ev (ev_add (hr := fun hg => i64b_I64 hI26)) ?_
            refine ow_ev ev_assign ?_
            refine ow_nil (hK18 _ _ ?_); clear hK18
            refine cw_region ?_
            refine ow_ev ev_move ?_
            obtain ⟨hI27, hM⟩ := chk_some hM
            refine ow_ev (ev_add (hr := fun hg => i64b_I64 hI27)) ?_
            refine ow_ev ev_assign ?_
            refine ow_nil (hL2 (nn2, ((at_2 + 1), k_2 + 1), ()) _ _ (eqc hcont2 hM) (Nat.lt_succ_self _) ⟨rfl, rfl, rfl, rfl, rfl, rfl, rfl, rfl, rfl, trivial⟩ (fun w hm => hm.reord))
      ·
        replace hM := (ite_f hc22).symm.trans hM
        refine cw_exit (hK13 _ _ ?_); clear hK13
        dsimp only [law7_RouteCellsAdd_k2] at hM
        refine cw_region ?_
        refine ow_ev ev_move ?_
        obtain ⟨hI32, hM⟩ := chk_some hM
        refine ow_ev (ev_add (hr := fun hg => i64b_I64 hI32)) ?_
        refine ow_ev ev_assign ?_
        refine ow_nil (hL1 (nn1, (at_2, i_1 + 1), ()) _ _ (eqc hcont1 hM) (Nat.lt_succ_self _) ⟨rfl, rfl, rfl, rfl, rfl, rfl, rfl, trivial⟩ (fun w hm => hm.reord))
    ·
      replace hM := (ite_f hc16).symm.trans hM
      refine cw_exit (hK9 _ _ ?_); clear hK9
      dsimp only [law7_RouteCellsAdd_k1] at hM
      refine cw_seq fun K24 hK24 => ?_
      refine cw_region_any _ (List.Sublist.refl _) ?_
      obtain ⟨y33, hy34, hM⟩ := bind_some hM
      refine aw_one 0 rfl (st_callv (fun w hm => let ⟨S, hs⟩ := hm; law7_awake_spec _ w  y33 hy34 (lend_lt hs) ) ⟨fun w hm => hm.sub (by repeat (first | exact List.Sublist.refl _ | apply List.Sublist.cons_cons | apply List.Sublist.cons)), ?_⟩)
      refine aw_ev 1 rfl ev_move ?_
      refine aw_evg 2 rfl rfl ev_move ?_
      refine aw_evg 3 rfl rfl ev_eql ?_
      refine aw_ev 4 rfl ev_and ?_
      refine aw_ev 5 rfl ev_move ?_
      refine aw_evg 6 rfl rfl ev_move ?_
      refine aw_evg 7 rfl rfl ev_move ?_
      refine aw_evg 8 rfl rfl ev_len ?_
      refine aw_evg 9 rfl rfl ev_eql ?_
      refine aw_ev 10 rfl ev_and ?_
      refine aw_ev 11 rfl ev_move ?_
      refine aw_evg 12 rfl rfl ev_move ?_
      refine aw_evg 13 rfl rfl (ev_field_addr 2) ?_
      refine aw_evg 14 rfl rfl (ev_load_own (b := b4)) ?_
      refine aw_evg 15 rfl rfl (ev_field_addr 0) ?_
      refine aw_evg 16 rfl rfl (ev_load_own (b := b8)) ?_
      obtain ⟨x35, hx36, hM⟩ := bind_some hM
      refine aw_evg 17 rfl rfl (ev_idx (xs := y5.Steps) 2 (Kn.trow (e := 40) (r := r7) (by repeat (first | exact Has.head | apply Has.tail))) (fun hg => let h := idx_some (whn_some hx36 hg); ⟨h.1, h.2.1⟩)) ?_
      refine aw_evg 18 rfl rfl (ev_field_addr 0) ?_
      refine aw_evg 19 rfl rfl (ev_ld (i := 0) (xs := y5.Steps) (y := x35) 0 (Kn.trow (e := 40) (r := r7) (by repeat (first | exact Has.head | apply Has.tail))) (fun hg => whn_some hx36 hg)) ?_
      obtain ⟨x37, hx38, hM⟩ := bind_some hM
      refine aw_evg 20 rfl rfl (ev_idx (xs := y1.Sections) 5 (Kn.trow (e := 31) (r := r3.2.2.1) (by repeat (first | exact Has.head | apply Has.tail))) (fun hg => let h := idx_some (whn_some hx38 hg); ⟨h.1, h.2.1⟩)) ?_
      refine aw_evg 21 rfl rfl (ev_field_addr 1) ?_
      refine aw_evg 22 rfl rfl (ev_ld (i := x35.Section) (xs := y1.Sections) (y := x37) 1 (Kn.trow (e := 31) (r := r3.2.2.1) (by repeat (first | exact Has.head | apply Has.tail))) (fun hg => whn_some hx38 hg)) ?_
      refine aw_evg 23 rfl rfl ev_eql ?_
      refine aw_ev 24 rfl ev_and ?_
      refine aw_ev 25 rfl ev_assign ?_
      refine aw_done (hK24 _ _ ?_); clear hK24
      obtain rfl := some_inj hM
      refine cw_ret (kw_retc1 (fun w hm => ret_of hm rfl))

end Go.Proofs.Ytnihhidbiepnhaa
