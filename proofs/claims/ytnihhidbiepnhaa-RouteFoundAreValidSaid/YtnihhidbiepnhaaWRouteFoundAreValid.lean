/- Models of functions, and that the code computes them. -/
import Derived.Test.YtnihhidbiepnhaaRf
import Derived.Test.YtnihhidbiepnhaaRl
import Derived.Test.YtnihhidbiepnhaaFl
namespace Go.Proofs.Ytnihhidbiepnhaa
open Go.Dc Go.RowKit
set_option maxRecDepth 10000
set_option linter.unusedVariables false
def law7_RouteFoundAreValid_k2 (cont1 : Nat → Option Bool) (t57_1 : Nat) : Unit → Option Bool := fun _ =>
  cont1 (t57_1 + 1)
def law7_RouteFoundAreValid_b2 (t57_1 : Nat) (y13 : (List Route) × Int × Int) (cont1 : Nat → Option Bool) (cont2 : Nat → Option Bool) : Nat → Option Bool := fun k_2 =>
  if decide ((k_2 : Int) < (t57_1 : Int)) then
    ((idx y13.1 (t57_1 : Int)).bind fun x38 =>
    (idx y13.1 (k_2 : Int)).bind fun x40 =>
    (keep_SameRoute_m x38 x40).bind fun y42 =>
    if y42 then
      (some false)
    else
      (chk (i64b ((k_2 : Int) + 1)) <|
      cont2 (k_2 + 1)))
  else
    (law7_RouteFoundAreValid_k2 cont1 t57_1 ())
def law7_RouteFoundAreValid_k1 (y13 : (List Route) × Int × Int) : Unit → Option Bool := fun _ =>
  (law7_awake_m).bind fun y46 =>
  some ((y46 && decide (0 < (y13.1.length : Int))) && decide ((y13.1.length : Int) < y13.2.1))
def law7_RouteFoundAreValid_b1 (y13 : (List Route) × Int × Int) (y5 : Int) (y8 : Int) (y11 : Int) (y1 : Layout) (cont1 : Nat → Option Bool) : Nat → Option Bool := fun t57_1 =>
  if decide ((t57_1 : Int) < (y13.1.length : Int)) then
    ((idx y13.1 (t57_1 : Int)).bind fun x21 =>
    (idx y13.1 (t57_1 : Int)).bind fun x23 =>
    (whn (!(decide (x23.Overlap ≠ 0) || decide ((x21.Steps.length : Int) < 2))) default (idx x21.Steps 0)).bind fun x25 =>
    chk (!(!((decide (x23.Overlap ≠ 0) || decide ((x21.Steps.length : Int) < 2)) || (!decide (x25 = (Step.mk y5 y8))))) || i64b ((x21.Steps.length : Int) - 1)) <|
    (whn (!((decide (x23.Overlap ≠ 0) || decide ((x21.Steps.length : Int) < 2)) || (!decide (x25 = (Step.mk y5 y8))))) default (idx x21.Steps ((x21.Steps.length : Int) - 1))).bind fun x28 =>
    (whn (!(((decide (x23.Overlap ≠ 0) || decide ((x21.Steps.length : Int) < 2)) || (!decide (x25 = (Step.mk y5 y8)))) || decide (x28.Section ≠ y11))) default (idx y13.1 (t57_1 : Int))).bind fun x30 =>
    if (!(((decide (x23.Overlap ≠ 0) || decide ((x21.Steps.length : Int) < 2)) || (!decide (x25 = (Step.mk y5 y8)))) || decide (x28.Section ≠ y11))) then
    ((route_Check_m y1 x30).bind fun y34 =>
    if ((((decide (x23.Overlap ≠ 0) || decide ((x21.Steps.length : Int) < 2)) || (!decide (x25 = (Step.mk y5 y8)))) || decide (x28.Section ≠ y11)) || decide (y34 ≠ 0)) then
      (some false)
    else
      (iter (law7_RouteFoundAreValid_b2 t57_1 y13 cont1) FUEL 0))
    else
    (some false))
  else
    (law7_RouteFoundAreValid_k1 y13 ())
def law7_RouteFoundAreValid_m (l0 : List Int) (v0 : Int) (to0 : Int) : Option Bool :=
  (keep_Layout_m l0).bind fun y1 =>
  (keep_Pick_m v0 (y1.Sections.length : Int)).bind fun y5 =>
  chk (decide (50 ≠ 0) && i64b (v0.tdiv 50)) <|
  (keep_Pick_m (v0.tdiv 50) 2).bind fun y8 =>
  (keep_Pick_m to0 (y1.Sections.length : Int)).bind fun y11 =>
  (route_Find_m y1 (Step.mk y5 y8) y11 1000).bind fun y13 =>
  if decide (y13.2.2 ≠ 0) then
    ((law7_awake_m).bind fun y17 =>
    some (((y17 && decide (y13.2.2 = 6)) && decide ((y13.1.length : Int) = 0)) && decide (y13.2.1 = 0)))
  else
    (iter (law7_RouteFoundAreValid_b1 y13 y5 y8 y11 y1) FUEL 0)
theorem law7_RouteFoundAreValid_spec (S : Soup) (w : World) (l0 : List Int) (r_l0 : GoRep.R (List Int)) (v0 : Int) (to0 : Int) (y : Bool) (hM : law7_RouteFoundAreValid_m l0 v0 to0 = some y) (hS : ∀ k, S k → k < w.heap.size) (h_l0 : GoRep.ok S w r_l0 l0) :
    Calls Try.prog 14 #[.slice r_l0.a l0.length r_l0.cap, .int .i64 v0, .int .i64 to0] w (Ret w (.bool y)) := by
  refine calls_cw (args := [_, _, _]) Try.func14 rfl ((pre_nil hS).start |>.immP (α := List Int) (r := r_l0) (x := l0) h_l0) rfl ?_
  unfold law7_RouteFoundAreValid_m at hM
  refine cw_seq fun K1 hK1 => ?_
  refine cw_region ?_
  refine ow_ev ev_assign ?_
  refine ow_nil (hK1 _ _ ?_); clear hK1
  refine cw_seq fun K2 hK2 => ?_
  refine cw_region ?_
  refine ow_ev ev_move ?_
  obtain ⟨y1, hy2, hM⟩ := bind_some hM
  refine ow_cons (st_callF SelL.nil (fun S w hs hP => keep_Layout_spec _ w l0 r_l0 y1 hy2 (lend_lt hs) (Kn.lend (Kn.imm (α := List Int) (r := r_l0) (x := l0) (by repeat (first | exact Has.head | apply Has.tail))) hs)) (by intro r c hc; simp only [List.mem_cons, List.not_mem_nil, or_false] at hc; rcases hc with rfl | rfl | rfl | rfl <;> first | exact flatC_own | exact flatC_trow (fun _ _ _ _ => trivial)) (fun r3 => ?_))
  dsimp only [List.cons_append, List.nil_append]
  refine ow_cons (st_alloc rfl (k := fun b4 => ?_))
  refine ow_cons (st_store_all (b := b4) (vs := [.slice r3.1.a y1.Stations.length r3.1.cap, .slice r3.2.1.a y1.Points.length r3.2.1.cap, .slice r3.2.2.1.a y1.Sections.length r3.2.2.1.cap, .slice r3.2.2.2.a y1.Links.length r3.2.2.2.cap]) (k := ?_))
  refine ow_nil (hK2 _ _ ?_); clear hK2
  refine cw_seq fun K3 hK3 => ?_
  refine cw_region ?_
  refine ow_ev ev_move ?_
  refine ow_ev (ev_field_addr 2) ?_
  refine ow_ev (ev_load_own (b := b4)) ?_
  refine ow_ev ev_len ?_
  obtain ⟨y5, hy6, hM⟩ := bind_some hM
  refine ow_cons (st_callv (fun w hm => let ⟨S, hs⟩ := hm; keep_Pick_spec _ w v0 (y1.Sections.length : Int) y5 hy6 (lend_lt hs) ) ?_)
  refine ow_ev ev_move ?_
  obtain ⟨hI7, hM⟩ := chk_some hM
  refine ow_ev (ev_quo' (hr := fun hg => quo_ok hI7)) ?_
  obtain ⟨y8, hy9, hM⟩ := bind_some hM
  refine ow_cons (st_callv (fun w hm => let ⟨S, hs⟩ := hm; keep_Pick_spec _ w (v0.tdiv 50) 2 y8 hy9 (lend_lt hs) ) ?_)
  refine ow_ev (ev_build [.int .i64 y5, .int .i64 y8]) ?_
  refine ow_cons (st_alloc rfl (k := fun b10 => ?_))
  refine ow_cons (st_store_all (b := b10) (vs := [.int .i64 y5, .int .i64 y8]) (k := ?_))
  refine ow_nil (hK3 _ _ ?_); clear hK3
  refine cw_seq fun K4 hK4 => ?_
  refine cw_region ?_
  refine ow_ev ev_move ?_
  refine ow_ev (ev_field_addr 2) ?_
  refine ow_ev (ev_load_own (b := b4)) ?_
  refine ow_ev ev_len ?_
  obtain ⟨y11, hy12, hM⟩ := bind_some hM
  refine ow_cons (st_callv (fun w hm => let ⟨S, hs⟩ := hm; keep_Pick_spec _ w to0 (y1.Sections.length : Int) y11 hy12 (lend_lt hs) ) ?_)
  refine ow_ev ev_assign ?_
  refine ow_nil (hK4 _ _ ?_); clear hK4
  refine cw_seq fun K5 hK5 => ?_
  refine cw_region ?_
  refine ow_ev (ev_load_all (b := b4)) ?_
  refine ow_ev (ev_load_all (b := b10)) ?_
  refine ow_ev ev_move ?_
  refine ow_imp (fun w hm => hm.freeze (r := r3.1) (by repeat (first | exact Upd.head | apply Upd.tail))) ?_
  refine ow_imp (fun w hm => hm.freeze (r := r3.2.1) (by repeat (first | exact Upd.head | apply Upd.tail))) ?_
  refine ow_imp (fun w hm => hm.freeze (r := r3.2.2.1) (by repeat (first | exact Upd.head | apply Upd.tail))) ?_
  refine ow_imp (fun w hm => hm.freeze (r := r3.2.2.2) (by repeat (first | exact Upd.head | apply Upd.tail))) ?_
  obtain ⟨y13, hy14, hM⟩ := bind_some hM
  refine ow_cons (st_callS SelL.nil (fun S w hs hP => route_Find_spec _ w y1 r3 (Step.mk y5 y8) y11 1000 y13 hy14 hs.lt ⟨((Sk.imm (α := List Str) (r := r3.1) (x := y1.Stations) (by repeat (first | exact Has.head | apply Has.tail))) S w hs), ((Sk.imm (α := List Str) (r := r3.2.1) (x := y1.Points) (by repeat (first | exact Has.head | apply Has.tail))) S w hs), ((Sk.imm (α := List Section) (r := r3.2.2.1) (x := y1.Sections) (by repeat (first | exact Has.head | apply Has.tail))) S w hs), ((Sk.imm (α := List Link) (r := r3.2.2.2) (x := y1.Links) (by repeat (first | exact Has.head | apply Has.tail))) S w hs)⟩)  (fun r15 => ?_))
  dsimp only [List.cons_append, List.nil_append]
  refine ow_ev ev_move ?_
  refine ow_ev (ev_extract (vs := [.slice r15.a y13.1.length r15.cap, .int .i64 y13.2.1, .int .i64 y13.2.2])) ?_
  refine ow_ev (ev_extract (vs := [.slice r15.a y13.1.length r15.cap, .int .i64 y13.2.1, .int .i64 y13.2.2])) ?_
  refine ow_ev (ev_extract (vs := [.slice r15.a y13.1.length r15.cap, .int .i64 y13.2.1, .int .i64 y13.2.2])) ?_
  refine ow_ev ev_assign ?_
  refine ow_ev ev_assign ?_
  refine ow_ev ev_assign ?_
  refine ow_nil (hK5 _ _ ?_); clear hK5
  refine cw_seq fun K6 hK6 => ?_
  refine cw_seq fun K7 hK7 => ?_
  refine cw_region ?_
  refine ow_ev ev_move ?_
  refine ow_ev ev_neq ?_
  refine ow_nil (hK7 _ _ ?_); clear hK7
  refine cw_cond rfl (fun hc16 => ?_) (fun hc16 => ?_)
  ·
    replace hM := (ite_t hc16).symm.trans hM
    refine cw_seq fun K8 hK8 => ?_
    refine cw_region ?_
    obtain ⟨y17, hy18, hM⟩ := bind_some hM
    refine ow_cons (st_callv (fun w hm => let ⟨S, hs⟩ := hm; law7_awake_spec _ w  y17 hy18 (lend_lt hs) ) ?_)
    refine ow_ev ev_move ?_
    refine ow_evg rfl ev_move ?_
    refine ow_evg rfl ev_eql ?_
    refine ow_ev ev_and ?_
    refine ow_ev ev_move ?_
    refine ow_evg rfl ev_move ?_
    refine ow_evg rfl ev_len ?_
    refine ow_evg rfl ev_eql ?_
    refine ow_ev ev_and ?_
    refine ow_ev ev_move ?_
    refine ow_evg rfl ev_move ?_
    refine ow_evg rfl ev_eql ?_
    refine ow_ev ev_and ?_
    refine ow_ev ev_assign ?_
    refine ow_nil (hK8 _ _ ?_); clear hK8
    obtain rfl := some_inj hM
    refine cw_ret (kw_retc1 (fun w hm => ret_of hm rfl))
  ·
    replace hM := (ite_f hc16).symm.trans hM
    refine cw_skip (hK6 _ _ ?_); clear hK6
    refine cw_seq fun K9 hK9 => ?_
    refine cw_seq fun K10 hK10 => ?_
    refine cw_region ?_
    refine ow_ev ev_move ?_
    refine ow_have (fun w hm => Kn.len (Kn.trow (e := 48) (r := r15) (by repeat (first | exact Has.head | apply Has.tail))) hm) fun hl19 => ?_
    refine ow_ev ev_len ?_
    refine ow_ev ev_move ?_
    refine ow_nil (hK10 _ _ ?_); clear hK10
    refine cw_block ?_
    refine cw_loop (γ := Nat × Nat × Unit) (env := fun (_, t57_1, _) => [(2, .v (.int .i64 y11)), (7, .v (.pointer (some ⟨b4, 0, none⟩))), (8, .v (.pointer (some ⟨b10, 0, none⟩))), (9, .v (.slice r15.a y13.1.length r15.cap)), (10, .v (.int .i64 y13.2.1)), (56, .v (.int .i64 (y13.1.length : Int))), (57, .v (.int .i64 (t57_1 : Int)))]) (mem := fun (_, t57_1, _) => [imm (α := (List Str)) r3.1 y1.Stations, imm (α := (List Str)) r3.2.1 y1.Points, imm (α := (List Section)) r3.2.2.1 y1.Sections, imm (α := (List Link)) r3.2.2.2 y1.Links, own b4 28 [.slice r3.1.a y1.Stations.length r3.1.cap, .slice r3.2.1.a y1.Points.length r3.2.1.cap, .slice r3.2.2.1.a y1.Sections.length r3.2.2.1.cap, .slice r3.2.2.2.a y1.Links.length r3.2.2.2.cap], own b10 40 [.int .i64 y5, .int .i64 y8], trow 48 r15 y13.1]) (R := fun g => iter (law7_RouteFoundAreValid_b1 y13 y5 y8 y11 y1) g.1 g.2.1 = some y) (μ := fun g => g.1) (FUEL, 0, ()) hM ⟨rfl, rfl, rfl, rfl, rfl, rfl, rfl, trivial⟩ (fun w hm => hm.reord) ?_
    clear hM
    intro g hM KL1 hL1
    obtain ⟨nn1, t57_1, ⟨⟩⟩ := g
    dsimp only at hM ⊢
    obtain ⟨nn1, cont1, rfl, hcont1, hM⟩ := iter_open' hM
    dsimp only [law7_RouteFoundAreValid_b1] at hM
    refine cw_seq fun K11 hK11 => ?_
    refine cw_region ?_
    refine ow_ev ev_lss ?_
    refine ow_nil (hK11 _ _ ?_); clear hK11
    refine cw_seq fun K12 hK12 => ?_
    refine cw_cond rfl (fun hc20 => ?_) (fun hc20 => ?_)
    ·
      replace hM := (ite_t hc20).symm.trans hM
      have hc20d := of_decide_eq_true hc20
      refine cw_skip (hK12 _ _ ?_); clear hK12
      refine cw_seq fun K13 hK13 => ?_
      refine cw_block ?_
      refine cw_seq fun K14 hK14 => ?_
      refine cw_region ?_
      refine ow_ev ev_move ?_
      refine ow_ev ev_assign ?_
      refine ow_nil (hK14 _ _ ?_); clear hK14
      refine cw_seq fun K15 hK15 => ?_
      refine cw_region ?_
      refine ow_ev ev_move ?_
      refine ow_ev ev_move ?_
      obtain ⟨x21, hx22, hM⟩ := bind_some hM
      refine ow_ev (ev_idx (xs := y13.1) 2 (Kn.trow (e := 48) (r := r15) (by repeat (first | exact Has.head | apply Has.tail))) (fun hg => let h := idx_some hx22; ⟨h.1, h.2.1⟩)) ?_
      refine ow_ev (ev_field_addr 0) ?_
      refine ow_ev (ev_ld (i := (t57_1 : Int)) (xs := y13.1) (y := x21) 0 (Kn.trow (e := 48) (r := r15) (by repeat (first | exact Has.head | apply Has.tail))) (fun _ => hx22)) ?_
      refine ow_ev ev_assign ?_
      refine ow_nil (hK15 _ _ ?_); clear hK15
      refine cw_seq fun K16 hK16 => ?_
      refine cw_seq fun K17 hK17 => ?_
      refine cw_region_any _ (List.Sublist.refl _) ?_
      refine aw_ev 0 rfl ev_move ?_
      refine aw_ev 1 rfl ev_move ?_
      obtain ⟨x23, hx24, hM⟩ := bind_some hM
      refine aw_ev 2 rfl (ev_idx (xs := y13.1) 2 (Kn.trow (e := 48) (r := r15) (by repeat (first | exact Has.head | apply Has.tail))) (fun hg => let h := idx_some hx24; ⟨h.1, h.2.1⟩)) ?_
      refine aw_ev 3 rfl (ev_field_addr 1) ?_
      refine aw_ev 4 rfl (ev_ld (i := (t57_1 : Int)) (xs := y13.1) (y := x23) 1 (Kn.trow (e := 48) (r := r15) (by repeat (first | exact Has.head | apply Has.tail))) (fun _ => hx24)) ?_
      refine aw_ev 5 rfl ev_neq ?_
      refine aw_ev 6 rfl ev_move ?_
      refine aw_evg 7 rfl rfl ev_move ?_
      refine aw_evg 8 rfl rfl ev_len ?_
      refine aw_evg 9 rfl rfl ev_lss ?_
      refine aw_ev 10 rfl ev_or ?_
      refine aw_ev 11 rfl ev_move ?_
      refine aw_evg 12 rfl rfl ev_move ?_
      obtain ⟨x25, hx26, hM⟩ := bind_some hM
      refine aw_evg 13 rfl rfl (ev_idx (xs := x21.Steps) 2 ((Sk.row (e := 48) (r := r15) (by repeat (first | exact Has.head | apply Has.tail)) hx22)).kn (fun hg => let h := idx_some (whn_some hx26 hg); ⟨h.1, h.2.1⟩)) ?_
      refine aw_evg 14 rfl rfl (ev_lds (m := 2) (i := 0) (xs := x21.Steps) (y := x25) (l := [.int .i64 x25.Section, .int .i64 x25.Dir]) 0 ((Sk.row (e := 48) (r := r15) (by repeat (first | exact Has.head | apply Has.tail)) hx22)).kn (fun hg => whn_some hx26 hg)) ?_
      refine aw_evg 15 rfl rfl (ev_load_all (b := b10)) ?_
      refine aw_evg 16 rfl rfl (ev_neqF [.int .i64, .int .i64] (decide (x25 = (Step.mk y5 y8))) (Step_eqv _ _)) ?_
      refine aw_ev 17 rfl ev_or ?_
      refine aw_ev 18 rfl ev_move ?_
      refine aw_evg 19 rfl rfl ev_move ?_
      refine aw_evg 20 rfl rfl ev_move ?_
      refine aw_evg 21 rfl rfl ev_len ?_
      obtain ⟨hI27, hM⟩ := chk_some hM
      refine aw_evg 22 rfl rfl (ev_sub (hr := fun hg => i64b_I64 (gor hI27 hg))) ?_
      obtain ⟨x28, hx29, hM⟩ := bind_some hM
      refine aw_evg 23 rfl rfl (ev_idx (xs := x21.Steps) 2 ((Sk.row (e := 48) (r := r15) (by repeat (first | exact Has.head | apply Has.tail)) hx22)).kn (fun hg => let h := idx_some (whn_some hx29 hg); ⟨h.1, h.2.1⟩)) ?_
      refine aw_evg 24 rfl rfl (ev_field_addr 0) ?_
      refine aw_evg 25 rfl rfl (ev_ld (i := ((x21.Steps.length : Int) - 1)) (xs := x21.Steps) (y := x28) 0 ((Sk.row (e := 48) (r := r15) (by repeat (first | exact Has.head | apply Has.tail)) hx22)).kn (fun hg => whn_some hx29 hg)) ?_
      refine aw_evg 26 rfl rfl ev_move ?_
      refine aw_evg 27 rfl rfl ev_neq ?_
      refine aw_ev 28 rfl ev_or ?_
      refine aw_ev 29 rfl ev_move ?_
      refine aw_evg 30 rfl rfl (ev_load_all (b := b4)) ?_
      refine aw_evg 31 rfl rfl ev_move ?_
      refine aw_evg 32 rfl rfl ev_move ?_
      obtain ⟨x30, hx31, hM⟩ := bind_some hM
      refine aw_evg 33 rfl rfl (ev_idx (xs := y13.1) 2 (Kn.trow (e := 48) (r := r15) (by repeat (first | exact Has.head | apply Has.tail))) (fun hg => let h := idx_some (whn_some hx31 hg); ⟨h.1, h.2.1⟩)) ?_
      refine aw_cases (!(((decide (x23.Overlap ≠ 0) || decide ((x21.Steps.length : Int) < 2)) || (!decide (x25 = (Step.mk y5 y8)))) || decide (x28.Section ≠ y11))) (fun hg32 => ?_) (fun hg32 => ?_)
      ·
        replace hM := (ite_t hg32).symm.trans hM
        have hx33 := whn_some hx31 hg32
        refine aw_know 95 hg32 rfl ?_
        refine aw_know 96 hg32 rfl ?_
        refine aw_know 97 hg32 rfl ?_
        refine aw_know 98 hg32 rfl ?_
        refine aw_evk 34 rfl rfl hg32 (ev_lds (m := 2) (i := (t57_1 : Int)) (xs := y13.1) (y := x30) (l := [.slice (r15.es (t57_1 : Int).toNat).a x30.Steps.length (r15.es (t57_1 : Int).toNat).cap, .int .i64 x30.Overlap]) 0 (Kn.trow (e := 48) (r := r15) (by repeat (first | exact Has.head | apply Has.tail))) (fun _ => hx33)) ?_
        obtain ⟨y34, hy35, hM⟩ := bind_some hM
        refine aw_gtrue 35 rfl rfl hg32 (st_callv (fun w hm => let ⟨S, hs⟩ := hm; route_Check_spec _ w y1 r3 x30 (r15.es (t57_1 : Int).toNat) y34 hy35 (lend_lt hs) ⟨(Kn.lend (Kn.imm (α := List Str) (r := r3.1) (x := y1.Stations) (by repeat (first | exact Has.head | apply Has.tail))) hs), (Kn.lend (Kn.imm (α := List Str) (r := r3.2.1) (x := y1.Points) (by repeat (first | exact Has.head | apply Has.tail))) hs), (Kn.lend (Kn.imm (α := List Section) (r := r3.2.2.1) (x := y1.Sections) (by repeat (first | exact Has.head | apply Has.tail))) hs), (Kn.lend (Kn.imm (α := List Link) (r := r3.2.2.2) (x := y1.Links) (by repeat (first | exact Has.head | apply Has.tail))) hs)⟩ (Kn.lend ((Sk.row (e := 48) (r := r15) (by repeat (first | exact Has.head | apply Has.tail)) hx33)).kn hs)) ⟨fun w hm => hm.sub (by repeat (first | exact List.Sublist.refl _ | apply List.Sublist.cons_cons | apply List.Sublist.cons)), ?_⟩)
        refine aw_evk 36 rfl rfl hg32 ev_neq ?_
        refine aw_ev 37 rfl ev_or ?_
        refine aw_done (hK17 _ _ ?_); clear hK17
        refine cw_cond rfl (fun hc36 => ?_) (fun hc36 => ?_)
        ·
          replace hM := (ite_t hc36).symm.trans hM
          refine cw_seq fun K18 hK18 => ?_
          refine cw_region ?_
          refine ow_ev ev_assign ?_
          refine ow_nil (hK18 _ _ ?_); clear hK18
          obtain rfl := some_inj hM
          refine cw_ret (kw_retc1 (fun w hm => ret_of hm rfl))
        ·
          replace hM := (ite_f hc36).symm.trans hM
          refine cw_skip (hK16 _ _ ?_); clear hK16
          refine cw_seq fun K19 hK19 => ?_
          refine cw_region ?_
          refine ow_ev ev_assign ?_
          refine ow_nil (hK19 _ _ ?_); clear hK19
          refine cw_block ?_
          refine cw_loop (γ := Nat × Nat × Unit) (env := fun (_, k_2, _) => [(2, .v (.int .i64 y11)), (7, .v (.pointer (some ⟨b4, 0, none⟩))), (8, .v (.pointer (some ⟨b10, 0, none⟩))), (9, .v (.slice r15.a y13.1.length r15.cap)), (10, .v (.int .i64 y13.2.1)), (12, .v (.int .i64 (t57_1 : Int))), (14, .v (.int .i64 (k_2 : Int))), (56, .v (.int .i64 (y13.1.length : Int))), (57, .v (.int .i64 (t57_1 : Int)))]) (mem := fun (_, k_2, _) => [imm (α := (List Str)) r3.1 y1.Stations, imm (α := (List Str)) r3.2.1 y1.Points, imm (α := (List Section)) r3.2.2.1 y1.Sections, imm (α := (List Link)) r3.2.2.2 y1.Links, own b4 28 [.slice r3.1.a y1.Stations.length r3.1.cap, .slice r3.2.1.a y1.Points.length r3.2.1.cap, .slice r3.2.2.1.a y1.Sections.length r3.2.2.1.cap, .slice r3.2.2.2.a y1.Links.length r3.2.2.2.cap], own b10 40 [.int .i64 y5, .int .i64 y8], trow 48 r15 y13.1]) (R := fun g => iter (law7_RouteFoundAreValid_b2 t57_1 y13 cont1) g.1 g.2.1 = some y) (μ := fun g => g.1) (FUEL, 0, ()) hM ⟨rfl, rfl, rfl, rfl, rfl, rfl, rfl, rfl, rfl, trivial⟩ (fun w hm => hm.reord) ?_
          clear hM
          intro g hM KL2 hL2
          obtain ⟨nn2, k_2, ⟨⟩⟩ := g
          dsimp only at hM ⊢
          obtain ⟨nn2, cont2, rfl, hcont2, hM⟩ := iter_open' hM
          dsimp only [law7_RouteFoundAreValid_b2] at hM
          refine cw_seq fun K20 hK20 => ?_
          refine cw_seq fun K21 hK21 => ?_
          refine cw_region ?_
          refine ow_ev ev_move ?_
          refine ow_ev ev_move ?_
          refine ow_ev ev_lss ?_
          refine ow_nil (hK21 _ _ ?_); clear hK21
          refine cw_cond rfl (fun hc37 => ?_) (fun hc37 => ?_)
          ·
            replace hM := (ite_t hc37).symm.trans hM
            refine cw_skip (hK20 _ _ ?_); clear hK20
            refine cw_seq fun K22 hK22 => ?_
            refine cw_block ?_
            refine cw_seq fun K23 hK23 => ?_
            refine cw_region_any _ (List.Sublist.refl _) ?_
            refine aw_ev 0 rfl ev_move ?_
            refine aw_ev 1 rfl ev_move ?_
            obtain ⟨x38, hx39, hM⟩ := bind_some hM
            refine aw_ev 2 rfl (ev_idx (xs := y13.1) 2 (Kn.trow (e := 48) (r := r15) (by repeat (first | exact Has.head | apply Has.tail))) (fun hg => let h := idx_some hx39; ⟨h.1, h.2.1⟩)) ?_
            refine aw_ev 3 rfl (ev_lds (m := 2) (i := (t57_1 : Int)) (xs := y13.1) (y := x38) (l := [.slice (r15.es (t57_1 : Int).toNat).a x38.Steps.length (r15.es (t57_1 : Int).toNat).cap, .int .i64 x38.Overlap]) 0 (Kn.trow (e := 48) (r := r15) (by repeat (first | exact Has.head | apply Has.tail))) (fun _ => hx39)) ?_
            refine aw_ev 4 rfl ev_move ?_
            refine aw_ev 5 rfl ev_move ?_
            obtain ⟨x40, hx41, hM⟩ := bind_some hM
            refine aw_ev 6 rfl (ev_idx (xs := y13.1) 2 (Kn.trow (e := 48) (r := r15) (by repeat (first | exact Has.head | apply Has.tail))) (fun hg => let h := idx_some hx41; ⟨h.1, h.2.1⟩)) ?_
            refine aw_ev 7 rfl (ev_lds (m := 2) (i := (k_2 : Int)) (xs := y13.1) (y := x40) (l := [.slice (r15.es (k_2 : Int).toNat).a x40.Steps.length (r15.es (k_2 : Int).toNat).cap, .int .i64 x40.Overlap]) 0 (Kn.trow (e := 48) (r := r15) (by repeat (first | exact Has.head | apply Has.tail))) (fun _ => hx41)) ?_
            obtain ⟨y42, hy43, hM⟩ := bind_some hM
            refine aw_one 8 rfl (st_callv (fun w hm => let ⟨S, hs⟩ := hm; keep_SameRoute_spec _ w x38 (r15.es (t57_1 : Int).toNat) x40 (r15.es (k_2 : Int).toNat) y42 hy43 (lend_lt hs) (Kn.lend ((Sk.row (e := 48) (r := r15) (by repeat (first | exact Has.head | apply Has.tail)) hx39)).kn hs) (Kn.lend ((Sk.row (e := 48) (r := r15) (by repeat (first | exact Has.head | apply Has.tail)) hx41)).kn hs)) ⟨fun w hm => hm.sub (by repeat (first | exact List.Sublist.refl _ | apply List.Sublist.cons_cons | apply List.Sublist.cons)), ?_⟩)
            refine aw_done (hK23 _ _ ?_); clear hK23
            refine cw_cond rfl (fun hc44 => ?_) (fun hc44 => ?_)
            ·
              replace hM := (ite_t hc44).symm.trans hM
              refine cw_seq fun K24 hK24 => ?_
              refine cw_region ?_
              refine ow_ev ev_assign ?_
              refine ow_nil (hK24 _ _ ?_); clear hK24
              obtain rfl := some_inj hM
              refine cw_ret (kw_retc1 (fun w hm => ret_of hm rfl))
            ·
              replace hM := (ite_f hc44).symm.trans hM
              refine cw_skip (hK22 _ _ ?_); clear hK22
              refine cw_region ?_
              refine ow_ev ev_move ?_
              obtain ⟨hI45, hM⟩ := chk_some hM
              refine ow_ev (ev_add (hr := fun hg => i64b_I64 hI45)) ?_
              refine ow_ev ev_assign ?_
              refine ow_nil (hL2 (nn2, (k_2 + 1), ()) _ _ (eqc hcont2 hM) (Nat.lt_succ_self _) ⟨rfl, rfl, rfl, rfl, rfl, rfl, rfl, rfl, rfl, trivial⟩ (fun w hm => hm.reord))
          ·
            replace hM := (ite_f hc37).symm.trans hM
            refine cw_exit (hK13 _ _ ?_); clear hK13
            dsimp only [law7_RouteFoundAreValid_k2] at hM
            refine cw_region ?_
            refine ow_ev (ev_add (hr := fun _ => by unfold I64; omega)) ?_
            refine ow_ev ev_move ?_
            refine ow_nil (hL1 (nn1, (t57_1 + 1), ()) _ _ (eqc hcont1 hM) (Nat.lt_succ_self _) ⟨rfl, rfl, rfl, rfl, rfl, rfl, rfl, trivial⟩ (fun w hm => hm.reord))
      ·
        replace hM := (ite_f hg32).symm.trans hM
        refine aw_gskip 34 rfl rfl hg32 ?_
        refine aw_gskip 35 rfl rfl hg32 ?_
        refine aw_gskip 36 rfl rfl hg32 ?_
        refine aw_ev 37 rfl (ev_orT (bnT hg32)) ?_
        refine aw_done (hK17 _ _ ?_); clear hK17
        refine cw_cond_true rfl rfl ?_
        refine cw_seq fun K25 hK25 => ?_
        refine cw_region ?_
        refine ow_ev ev_assign ?_
        refine ow_nil (hK25 _ _ ?_); clear hK25
        obtain rfl := some_inj hM
        refine cw_ret (kw_retc1 (fun w hm => ret_of hm rfl))
    ·
      replace hM := (ite_f hc20).symm.trans hM
      refine cw_exit (hK9 _ _ ?_); clear hK9
      dsimp only [law7_RouteFoundAreValid_k1] at hM
      refine cw_seq fun K26 hK26 => ?_
      refine cw_region ?_
      obtain ⟨y46, hy47, hM⟩ := bind_some hM
      refine ow_cons (st_callv (fun w hm => let ⟨S, hs⟩ := hm; law7_awake_spec _ w  y46 hy47 (lend_lt hs) ) ?_)
      refine ow_ev ev_move ?_
      refine ow_evg rfl ev_move ?_
      refine ow_evg rfl ev_len ?_
      refine ow_evg rfl ev_gtr ?_
      refine ow_ev ev_and ?_
      refine ow_ev ev_move ?_
      refine ow_evg rfl ev_move ?_
      refine ow_evg rfl ev_move ?_
      refine ow_evg rfl ev_len ?_
      refine ow_evg rfl ev_gtr ?_
      refine ow_ev ev_and ?_
      refine ow_ev ev_assign ?_
      refine ow_nil (hK26 _ _ ?_); clear hK26
      obtain rfl := some_inj hM
      refine cw_ret (kw_retc1 (fun w hm => ret_of hm rfl))

end Go.Proofs.Ytnihhidbiepnhaa
