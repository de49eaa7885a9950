/- Models of functions, and that the code computes them. -/
import Derived.Test.YtnihhidbiepnhaaRd
namespace Go.Proofs.Ytnihhidbiepnhaa
open Go.Dc Go.RowKit
set_option maxRecDepth 10000
set_option linter.unusedVariables false
def route_Resources_k3 (cont2 : ((List Bool) × Nat) → Option ((List Int) × Int)) (t47_2 : Nat) : (List Bool) → Option ((List Int) × Int) := fun lused_j3 =>
  cont2 (lused_j3, t47_2 + 1)
def route_Resources_k5 (cont3 : ((List Int) × Nat) → Option ((List Int) × Int)) (t63_3 : Nat) : (List Int) → Option ((List Int) × Int) := fun lresources_j5 =>
  cont3 (lresources_j5, t63_3 + 1)
def route_Resources_k4 (lresources_3 : List Int) : Unit → Option ((List Int) × Int) := fun _ =>
  some (lresources_3, 0)
def route_Resources_b3 (lused_2 : List Bool) (cont3 : ((List Int) × Nat) → Option ((List Int) × Int)) : ((List Int) × Nat) → Option ((List Int) × Int) := fun (lresources_3, t63_3) =>
  if decide ((t63_3 : Int) < (lused_2.length : Int)) then
    ((idx lused_2 (t63_3 : Int)).bind fun x30 =>
    if x30 then
      (chk (decide ((lresources_3.length + ([(t63_3 : Int)] : List Int).length) * 8 ≤ 140737488355328)) <|
      route_Resources_k5 cont3 t63_3 (lresources_3 ++ ([(t63_3 : Int)] : List Int)))
    else
      (route_Resources_k5 cont3 t63_3 lresources_3))
  else
    (route_Resources_k4 lresources_3 ())
def route_Resources_k2 (lused_2 : List Bool) : Unit → Option ((List Int) × Int) := fun _ =>
  iter (route_Resources_b3 lused_2) FUEL (([] : List Int), 0)
def route_Resources_b2 (y3 : (List Int) × Int) (l0 : Layout) (cont2 : ((List Bool) × Nat) → Option ((List Int) × Int)) : ((List Bool) × Nat) → Option ((List Int) × Int) := fun (lused_2, t47_2) =>
  if decide ((t47_2 : Int) < (y3.1.length : Int)) then
    ((idx y3.1 (t47_2 : Int)).bind fun x21 =>
    if decide (0 ≤ x21) then
      (chk (i64b ((l0.Sections.length : Int) + x21)) <|
      (idx lused_2 ((l0.Sections.length : Int) + x21)).bind fun x25 =>
      route_Resources_k3 cont2 t47_2 (lused_2.set ((l0.Sections.length : Int) + x21).toNat true))
    else
      (route_Resources_k3 cont2 t47_2 lused_2))
  else
    (route_Resources_k2 lused_2 ())
def route_Resources_k1 (y3 : (List Int) × Int) (l0 : Layout) (lused_1 : List Bool) : Unit → Option ((List Int) × Int) := fun _ =>
  iter (route_Resources_b2 y3 l0) FUEL (lused_1, 0)
def route_Resources_b1 (r0 : Route) (y3 : (List Int) × Int) (l0 : Layout) (cont1 : ((List Bool) × Nat) → Option ((List Int) × Int)) : ((List Bool) × Nat) → Option ((List Int) × Int) := fun (lused_1, t36_1) =>
  if decide ((t36_1 : Int) < (r0.Steps.length : Int)) then
    ((idx r0.Steps (t36_1 : Int)).bind fun x14 =>
    (idx lused_1 x14.Section).bind fun x17 =>
    cont1 ((lused_1.set x14.Section.toNat true), t36_1 + 1))
  else
    (route_Resources_k1 y3 l0 lused_1 ())
def route_Resources_m (l0 : Layout) (r0 : Route) : Option ((List Int) × Int) :=
  (route_points_m l0 r0).bind fun y3 =>
  if decide (y3.2 ≠ 0) then
    (some (([] : List Int), y3.2))
  else
    (chk (i64b ((l0.Sections.length : Int) + (l0.Points.length : Int))) <|
    (mk (α := Bool) false ((l0.Sections.length : Int) + (l0.Points.length : Int))).bind fun m9 =>
    iter (route_Resources_b1 r0 y3 l0) FUEL (m9, 0))
theorem route_Resources_spec (S : Soup) (w : World) (l0 : Layout) (r_l0 : GoRep.R Layout) (r0 : Route) (r_r0 : GoRep.R Route) (y : (List Int) × Int) (hM : route_Resources_m l0 r0 = some y) (hS : ∀ k, S k → k < w.heap.size) (h_l0 : GoRep.ok S w r_l0 l0) (h_r0 : GoRep.ok S w r_r0 r0) :
    Calls Try.prog 31 #[.agg #[.slice r_l0.1.a l0.Stations.length r_l0.1.cap, .slice r_l0.2.1.a l0.Points.length r_l0.2.1.cap, .slice r_l0.2.2.1.a l0.Sections.length r_l0.2.2.1.cap, .slice r_l0.2.2.2.a l0.Links.length r_l0.2.2.2.cap], .agg #[.slice r_r0.a r0.Steps.length r_r0.cap, .int .i64 r0.Overlap]] w (Post (β := (GoRep.R (List Int))) S [] (fun g => .tuple #[.slice g.a y.1.length g.cap, .int .i64 y.2]) (fun g => [trow 3 g y.1]) w) := by
  refine calls_cw (args := [_, _]) Try.func31 rfl ((pre_nil hS).start |>.immP (α := List Str) (r := r_l0.1) (x := l0.Stations) h_l0.1|>.immP (α := List Str) (r := r_l0.2.1) (x := l0.Points) h_l0.2.1|>.immP (α := List Section) (r := r_l0.2.2.1) (x := l0.Sections) h_l0.2.2.1|>.immP (α := List Link) (r := r_l0.2.2.2) (x := l0.Links) h_l0.2.2.2|>.immP (α := List Step) (r := r_r0) (x := r0.Steps) h_r0) rfl ?_
  unfold route_Resources_m at hM
  refine cw_seq fun K1 hK1 => ?_
  refine cw_region ?_
  refine ow_cons (st_box (l := [.slice r_l0.1.a l0.Stations.length r_l0.1.cap, .slice r_l0.2.1.a l0.Points.length r_l0.2.1.cap, .slice r_l0.2.2.1.a l0.Sections.length r_l0.2.2.1.cap, .slice r_l0.2.2.2.a l0.Links.length r_l0.2.2.2.cap]) (k := fun b1 => ?_))
  refine ow_cons (st_box (l := [.slice r_r0.a r0.Steps.length r_r0.cap, .int .i64 r0.Overlap]) (k := fun b2 => ?_))
  refine ow_ev ev_assign ?_
  refine ow_ev ev_assign ?_
  refine ow_nil (hK1 _ _ ?_); clear hK1
  refine cw_seq fun K2 hK2 => ?_
  refine cw_region ?_
  refine ow_ev (ev_load_all (b := b1)) ?_
  refine ow_ev (ev_load_all (b := b2)) ?_
  obtain ⟨y3, hy4, hM⟩ := bind_some hM
  refine ow_cons (st_callF SelL.nil (fun S w hs hP => route_points_spec _ w l0 r_l0 r0 r_r0 y3 hy4 (lend_lt hs) ⟨(Kn.lend (Kn.imm (α := List Str) (r := r_l0.1) (x := l0.Stations) (by repeat (first | exact Has.head | apply Has.tail))) hs), (Kn.lend (Kn.imm (α := List Str) (r := r_l0.2.1) (x := l0.Points) (by repeat (first | exact Has.head | apply Has.tail))) hs), (Kn.lend (Kn.imm (α := List Section) (r := r_l0.2.2.1) (x := l0.Sections) (by repeat (first | exact Has.head | apply Has.tail))) hs), (Kn.lend (Kn.imm (α := List Link) (r := r_l0.2.2.2) (x := l0.Links) (by repeat (first | exact Has.head | apply Has.tail))) hs)⟩ (Kn.lend (Kn.imm (α := List Step) (r := r_r0) (x := r0.Steps) (by repeat (first | exact Has.head | apply Has.tail))) hs)) (by intro r c hc; simp only [List.mem_cons, List.not_mem_nil, or_false] at hc; rcases hc with rfl <;> first | exact flatC_own | exact flatC_trow (fun _ _ _ _ => trivial)) (fun r5 => ?_))
  dsimp only [List.cons_append, List.nil_append]
  refine ow_ev ev_move ?_
  refine ow_ev (ev_extract (vs := [.slice r5.a y3.1.length r5.cap, .int .i64 y3.2])) ?_
  refine ow_ev (ev_extract (vs := [.slice r5.a y3.1.length r5.cap, .int .i64 y3.2])) ?_
  refine ow_ev ev_assign ?_
  refine ow_ev ev_assign ?_
  refine ow_nil (hK2 _ _ ?_); clear hK2
  refine cw_seq fun K3 hK3 => ?_
  refine cw_seq fun K4 hK4 => ?_
  refine cw_region ?_
  refine ow_ev ev_move ?_
  refine ow_ev ev_neq ?_
  refine ow_nil (hK4 _ _ ?_); clear hK4
  refine cw_cond rfl (fun hc6 => ?_) (fun hc6 => ?_)
  ·
    replace hM := (ite_t hc6).symm.trans hM
    refine cw_seq fun K5 hK5 => ?_
    refine cw_region ?_
    refine ow_ev ev_move ?_
    refine ow_ev ev_assign ?_
    refine ow_ev ev_assign ?_
    refine ow_nil (hK5 _ _ ?_); clear hK5
    refine cw_imp (fun w hm => hm.row_nil (α := Int) 3 (fun _ => ())) ?_
    obtain rfl := some_inj hM
    refine cw_ret (kw_retc2 (fun w hm => post_of (⟨none, 0, (fun _ => ())⟩ : SR (GoRep.R Int) ) hm rfl))
  ·
    replace hM := (ite_f hc6).symm.trans hM
    refine cw_skip (hK3 _ _ ?_); clear hK3
    refine cw_seq fun K6 hK6 => ?_
    refine cw_region ?_
    refine ow_ev (ev_field_addr 2) ?_
    refine ow_ev (ev_load_own (b := b1)) ?_
    refine ow_ev ev_len ?_
    refine ow_ev (ev_field_addr 1) ?_
    refine ow_ev (ev_load_own (b := b1)) ?_
    refine ow_ev ev_len ?_
    obtain ⟨hI8, hM⟩ := chk_some hM
    refine ow_ev (ev_add (hr := fun hg => i64b_I64 hI8)) ?_
    obtain ⟨m9, hm10, hM⟩ := bind_some hM
    refine ow_cons (st_make (α := Bool) (e := 4) false () hm10 (fun _ _ => trivial) (fun r11 hr11 => ?_))
    refine ow_ev ev_assign ?_
    refine ow_nil (hK6 _ _ ?_); clear hK6
    refine cw_seq fun K7 hK7 => ?_
    refine cw_seq fun K8 hK8 => ?_
    refine cw_region ?_
    refine ow_ev (ev_field_addr 0) ?_
    refine ow_ev (ev_load_own (b := b2)) ?_
    refine ow_have (fun w hm => Kn.len (Kn.imm (α := List Step) (r := r_r0) (x := r0.Steps) (by repeat (first | exact Has.head | apply Has.tail))) hm) fun hl12 => ?_
    refine ow_ev ev_len ?_
    refine ow_ev ev_move ?_
    refine ow_nil (hK8 _ _ ?_); clear hK8
    refine cw_block ?_
    refine cw_loop (γ := Nat × ((List Bool) × Nat) × Unit) (env := fun (_, (lused_1, t36_1), _) => [(2, .v (.pointer (some ⟨b1, 0, none⟩))), (6, .v (.slice r5.a y3.1.length r5.cap)), (8, .v (.slice r11.a lused_1.length r11.cap)), (34, .v (.slice r_r0.a r0.Steps.length r_r0.cap)), (35, .v (.int .i64 (r0.Steps.length : Int))), (36, .v (.int .i64 (t36_1 : Int)))]) (mem := fun (_, (lused_1, t36_1), _) => [imm (α := (List Str)) r_l0.1 l0.Stations, imm (α := (List Str)) r_l0.2.1 l0.Points, imm (α := (List Section)) r_l0.2.2.1 l0.Sections, imm (α := (List Link)) r_l0.2.2.2 l0.Links, own b1 28 [.slice r_l0.1.a l0.Stations.length r_l0.1.cap, .slice r_l0.2.1.a l0.Points.length r_l0.2.1.cap, .slice r_l0.2.2.1.a l0.Sections.length r_l0.2.2.1.cap, .slice r_l0.2.2.2.a l0.Links.length r_l0.2.2.2.cap], trow 3 r5 y3.1, trow 4 r11 lused_1, imm (α := (List Step)) r_r0 r0.Steps]) (R := fun g => iter (route_Resources_b1 r0 y3 l0) g.1 g.2.1 = some y) (μ := fun g => g.1) (FUEL, (m9, 0), ()) hM ⟨rfl, rfl, rfl, rfl, rfl, rfl, trivial⟩ (fun w hm => hm.reord) ?_
    clear hM
    intro g hM KL1 hL1
    obtain ⟨nn1, ⟨lused_1, t36_1⟩, ⟨⟩⟩ := g
    dsimp only at hM ⊢
    obtain ⟨nn1, cont1, rfl, hcont1, hM⟩ := iter_open' hM
    dsimp only [route_Resources_b1] at hM
    refine cw_seq fun K9 hK9 => ?_
    refine cw_region ?_
    refine ow_ev ev_lss ?_
    refine ow_nil (hK9 _ _ ?_); clear hK9
    refine cw_seq fun K10 hK10 => ?_
    refine cw_cond rfl (fun hc13 => ?_) (fun hc13 => ?_)
    ·
      replace hM := (ite_t hc13).symm.trans hM
      have hc13d := of_decide_eq_true hc13
      refine cw_skip (hK10 _ _ ?_); clear hK10
      refine cw_seq fun K11 hK11 => ?_
      refine cw_block ?_
      refine cw_seq fun K12 hK12 => ?_
      refine cw_region ?_
      obtain ⟨x14, hx15, hM⟩ := bind_some hM
      refine ow_ev (ev_idx (xs := r0.Steps) 2 (Kn.imm (α := List Step) (r := r_r0) (x := r0.Steps) (by repeat (first | exact Has.head | apply Has.tail))) (fun hg => let h := idx_some hx15; ⟨h.1, h.2.1⟩)) ?_
      refine ow_ev (ev_lds (m := 2) (i := (t36_1 : Int)) (xs := r0.Steps) (y := x14) (l := [.int .i64 x14.Section, .int .i64 x14.Dir]) 0 (Kn.imm (α := List Step) (r := r_r0) (x := r0.Steps) (by repeat (first | exact Has.head | apply Has.tail))) (fun _ => hx15)) ?_
      refine ow_cons (st_alloc rfl (k := fun b16 => ?_))
      refine ow_cons (st_store_all (b := b16) (vs := [.int .i64 x14.Section, .int .i64 x14.Dir]) (k := ?_))
      refine ow_nil (hK12 _ _ ?_); clear hK12
      refine cw_region ?_
      refine ow_ev ev_move ?_
      refine ow_ev (ev_field_addr 0) ?_
      refine ow_ev (ev_load_own (b := b16)) ?_
      obtain ⟨x17, hx18, hM⟩ := bind_some hM
      refine ow_ev (ev_idx (xs := lused_1) 1 (Kn.trow (e := 4) (r := r11) (by repeat (first | exact Has.head | apply Has.tail))) (fun hg => let h := idx_some hx18; ⟨h.1, h.2.1⟩)) ?_
      refine ow_cons (st_set (r := r11) (i := x14.Section) (xs := lused_1) (u := x17) (vs := [.bool true]) 0 true hx18 rfl (fun _ _ h => h) (by repeat (first | exact Upd.head | apply Upd.tail)) ?_)
      refine ow_nil (hK11 _ _ ?_); clear hK11
      refine cw_region ?_
      refine ow_ev (ev_add (hr := fun _ => by unfold I64; omega)) ?_
      refine ow_ev ev_move ?_
      refine ow_nil (hL1 (nn1, ((lused_1.set x14.Section.toNat true), t36_1 + 1), ()) _ _ (eqc hcont1 hM) (Nat.lt_succ_self _) ⟨rfl, rfl, (by simp only [List.length_set]; rfl), rfl, rfl, rfl, trivial⟩ (fun w hm => hm.reord))
    ·
      replace hM := (ite_f hc13).symm.trans hM
      refine cw_exit (hK7 _ _ ?_); clear hK7
      dsimp only [route_Resources_k1] at hM
      refine cw_seq fun K13 hK13 => ?_
      refine cw_seq fun K14 hK14 => ?_
      refine cw_region ?_
      refine ow_ev ev_move ?_
      refine ow_have (fun w hm => Kn.len (Kn.trow (e := 3) (r := r5) (by repeat (first | exact Has.head | apply Has.tail))) hm) fun hl19 => ?_
      refine ow_ev ev_len ?_
      refine ow_ev ev_move ?_
      refine ow_nil (hK14 _ _ ?_); clear hK14
      refine cw_block ?_
      refine cw_loop (γ := Nat × ((List Bool) × Nat) × Unit) (env := fun (_, (lused_2, t47_2), _) => [(2, .v (.pointer (some ⟨b1, 0, none⟩))), (8, .v (.slice r11.a lused_2.length r11.cap)), (45, .v (.slice r5.a y3.1.length r5.cap)), (46, .v (.int .i64 (y3.1.length : Int))), (47, .v (.int .i64 (t47_2 : Int)))]) (mem := fun (_, (lused_2, t47_2), _) => [imm (α := (List Str)) r_l0.1 l0.Stations, imm (α := (List Str)) r_l0.2.1 l0.Points, imm (α := (List Section)) r_l0.2.2.1 l0.Sections, imm (α := (List Link)) r_l0.2.2.2 l0.Links, own b1 28 [.slice r_l0.1.a l0.Stations.length r_l0.1.cap, .slice r_l0.2.1.a l0.Points.length r_l0.2.1.cap, .slice r_l0.2.2.1.a l0.Sections.length r_l0.2.2.1.cap, .slice r_l0.2.2.2.a l0.Links.length r_l0.2.2.2.cap], trow 4 r11 lused_2, trow 3 r5 y3.1]) (R := fun g => iter (route_Resources_b2 y3 l0) g.1 g.2.1 = some y) (μ := fun g => g.1) (FUEL, (lused_1, 0), ()) hM ⟨rfl, rfl, rfl, rfl, rfl, trivial⟩ (fun w hm => hm.reord) ?_
      clear hM
      intro g hM KL2 hL2
      obtain ⟨nn2, ⟨lused_2, t47_2⟩, ⟨⟩⟩ := g
      dsimp only at hM ⊢
      obtain ⟨nn2, cont2, rfl, hcont2, hM⟩ := iter_open' hM
      dsimp only [route_Resources_b2] at hM
      refine cw_seq fun K15 hK15 => ?_
      refine cw_region ?_
      refine ow_ev ev_lss ?_
      refine ow_nil (hK15 _ _ ?_); clear hK15
      refine cw_seq fun K16 hK16 => ?_
      refine cw_cond rfl (fun hc20 => ?_) (fun hc20 => ?_)
      ·
        replace hM := (ite_t hc20).symm.trans hM
        have hc20d := of_decide_eq_true hc20
        refine cw_skip (hK16 _ _ ?_); clear hK16
        refine cw_cut (γ := (List Bool) × Unit) (env := fun (lused_j3, _) => [(2, .v (.pointer (some ⟨b1, 0, none⟩))), (8, .v (.slice r11.a lused_j3.length r11.cap)), (45, .v (.slice r5.a y3.1.length r5.cap)), (46, .v (.int .i64 (y3.1.length : Int))), (47, .v (.int .i64 (t47_2 : Int)))]) (mem := fun (lused_j3, _) => [imm (α := (List Str)) r_l0.1 l0.Stations, imm (α := (List Str)) r_l0.2.1 l0.Points, imm (α := (List Section)) r_l0.2.2.1 l0.Sections, imm (α := (List Link)) r_l0.2.2.2 l0.Links, own b1 28 [.slice r_l0.1.a l0.Stations.length r_l0.1.cap, .slice r_l0.2.1.a l0.Points.length r_l0.2.1.cap, .slice r_l0.2.2.1.a l0.Sections.length r_l0.2.2.1.cap, .slice r_l0.2.2.2.a l0.Links.length r_l0.2.2.2.cap], trow 4 r11 lused_j3, trow 3 r5 y3.1]) (R := fun g => route_Resources_k3 cont2 t47_2 g.1 = some y) ?_ ?_
        · intro KJ3 hJ3
          refine cw_block ?_
          refine cw_seq fun K17 hK17 => ?_
          refine cw_region ?_
          obtain ⟨x21, hx22, hM⟩ := bind_some hM
          refine ow_ev (ev_idx (xs := y3.1) 1 (Kn.trow (e := 3) (r := r5) (by repeat (first | exact Has.head | apply Has.tail))) (fun hg => let h := idx_some hx22; ⟨h.1, h.2.1⟩)) ?_
          refine ow_ev (ev_ld (i := (t47_2 : Int)) (xs := y3.1) (y := x21) 0 (Kn.trow (e := 3) (r := r5) (by repeat (first | exact Has.head | apply Has.tail))) (fun _ => hx22)) ?_
          refine ow_ev ev_assign ?_
          refine ow_nil (hK17 _ _ ?_); clear hK17
          refine cw_seq fun K18 hK18 => ?_
          refine cw_region ?_
          refine ow_ev ev_move ?_
          refine ow_ev ev_geq ?_
          refine ow_nil (hK18 _ _ ?_); clear hK18
          refine cw_cond rfl (fun hc23 => ?_) (fun hc23 => ?_)
          ·
            replace hM := (ite_t hc23).symm.trans hM
            refine cw_region ?_
            refine ow_ev ev_move ?_
            refine ow_ev (ev_field_addr 2) ?_
            refine ow_ev (ev_load_own (b := b1)) ?_
            refine ow_ev ev_len ?_
            refine ow_ev ev_move ?_
            obtain ⟨hI24, hM⟩ := chk_some hM
            refine ow_ev (ev_add (hr := fun hg => i64b_I64 hI24)) ?_
            obtain ⟨x25, hx26, hM⟩ := bind_some hM
            refine ow_ev (ev_idx (xs := lused_2) 1 (Kn.trow (e := 4) (r := r11) (by repeat (first | exact Has.head | apply Has.tail))) (fun hg => let h := idx_some hx26; ⟨h.1, h.2.1⟩)) ?_
            refine ow_cons (st_set (r := r11) (i := ((l0.Sections.length : Int) + x21)) (xs := lused_2) (u := x25) (vs := [.bool true]) 0 true hx26 rfl (fun _ _ h => h) (by repeat (first | exact Upd.head | apply Upd.tail)) ?_)
            refine ow_nil (hJ3 ((lused_2.set ((l0.Sections.length : Int) + x21).toNat true), ()) _ _ hM ⟨rfl, (by simp only [List.length_set]; rfl), rfl, rfl, rfl, trivial⟩ (fun w hm => hm.reord))
          ·
            replace hM := (ite_f hc23).symm.trans hM
            refine cw_skip (hJ3 (lused_2, ()) _ _ hM ⟨rfl, rfl, rfl, rfl, rfl, trivial⟩ (fun w hm => hm.reord))
        ·
          clear hM
          intro g hM
          obtain ⟨lused_j3, ⟨⟩⟩ := g
          dsimp only at hM ⊢
          dsimp only [route_Resources_k3] at hM
          refine cw_region ?_
          refine ow_ev (ev_add (hr := fun _ => by unfold I64; omega)) ?_
          refine ow_ev ev_move ?_
          refine ow_nil (hL2 (nn2, (lused_j3, t47_2 + 1), ()) _ _ (eqc hcont2 hM) (Nat.lt_succ_self _) ⟨rfl, rfl, rfl, rfl, rfl, trivial⟩ (fun w hm => hm.reord))
      ·
        replace hM := (ite_f hc20).symm.trans hM
        refine cw_exit (hK13 _ _ ?_); clear hK13
        dsimp only [route_Resources_k2] at hM
        refine cw_seq fun K19 hK19 => ?_
        refine cw_region ?_
        refine ow_ev ev_assign ?_
        refine ow_nil (hK19 _ _ ?_); clear hK19
        refine cw_seq fun K20 hK20 => ?_
        refine cw_seq fun K21 hK21 => ?_
        refine cw_region ?_
        refine ow_ev ev_move ?_
        refine ow_have (fun w hm => Kn.len (Kn.trow (e := 4) (r := r11) (by repeat (first | exact Has.head | apply Has.tail))) hm) fun hl27 => ?_
        refine ow_ev ev_len ?_
        refine ow_ev ev_move ?_
        refine ow_nil (hK21 _ _ ?_); clear hK21
        refine cw_block ?_
        refine cw_imp (fun w hm => hm.row_nil (α := Int) 3 (fun _ => ())) ?_
        refine cw_loop (γ := Nat × ((List Int) × Nat) × (SR (GoRep.R Int))) (env := fun (_, (lresources_3, t63_3), rresources_3) => [(13, .v (.slice rresources_3.a lresources_3.length rresources_3.cap)), (61, .v (.slice r11.a lused_2.length r11.cap)), (62, .v (.int .i64 (lused_2.length : Int))), (63, .v (.int .i64 (t63_3 : Int)))]) (mem := fun (_, (lresources_3, t63_3), rresources_3) => [trow 3 rresources_3 lresources_3, trow 4 r11 lused_2]) (R := fun g => iter (route_Resources_b3 lused_2) g.1 g.2.1 = some y) (μ := fun g => g.1) (FUEL, (([] : List Int), 0), (⟨none, 0, (fun _ => ())⟩ : SR (GoRep.R Int)                          )) hM ⟨rfl, rfl, rfl, rfl, trivial⟩ (fun w hm => hm.reord) ?_
        clear hM
        intro g hM KL3 hL3
        obtain ⟨nn3, ⟨lresources_3, t63_3⟩, rresources_3⟩ := g
        dsimp only at hM ⊢
        obtain ⟨nn3, cont3, rfl, hcont3, hM⟩ := iter_open' hM
        dsimp only [route_Resources_b3] at hM
        refine cw_seq fun K22 hK22 => ?_
        refine cw_region ?_
        refine ow_ev ev_lss ?_
        refine ow_nil (hK22 _ _ ?_); clear hK22
        refine cw_seq fun K23 hK23 => ?_
        refine cw_cond rfl (fun hc29 => ?_) (fun hc29 => ?_)
        ·
          replace hM := (ite_t hc29).symm.trans hM
          have hc29d := of_decide_eq_true hc29
          refine cw_skip (hK23 _ _ ?_); clear hK23
          refine cw_cut (γ := (List Int) × (SR (GoRep.R Int))) (env := fun (lresources_j5, rresources_j5) => [(13, .v (.slice rresources_j5.a lresources_j5.length rresources_j5.cap)), (61, .v (.slice r11.a lused_2.length r11.cap)), (62, .v (.int .i64 (lused_2.length : Int))), (63, .v (.int .i64 (t63_3 : Int)))]) (mem := fun (lresources_j5, rresources_j5) => [trow 3 rresources_j5 lresources_j5, trow 4 r11 lused_2]) (R := fun g => route_Resources_k5 cont3 t63_3 g.1 = some y) ?_ ?_
          · intro KJ5 hJ5
            refine cw_block ?_
            refine cw_seq fun K24 hK24 => ?_
            refine cw_region ?_
            refine ow_ev ev_move ?_
            obtain ⟨x30, hx31, hM⟩ := bind_some hM
            refine ow_ev (ev_idx (xs := lused_2) 1 (Kn.trow (e := 4) (r := r11) (by repeat (first | exact Has.head | apply Has.tail))) (fun hg => let h := idx_some hx31; ⟨h.1, h.2.1⟩)) ?_
            refine ow_ev (ev_ld (i := (t63_3 : Int)) (xs := lused_2) (y := x30) 0 (Kn.trow (e := 4) (r := r11) (by repeat (first | exact Has.head | apply Has.tail))) (fun _ => hx31)) ?_
            refine ow_ev ev_assign ?_
            refine ow_ev ev_assign ?_
            refine ow_nil (hK24 _ _ ?_); clear hK24
            refine cw_seq fun K25 hK25 => ?_
            refine cw_region ?_
            refine ow_ev ev_move ?_
            refine ow_nil (hK25 _ _ ?_); clear hK25
            refine cw_cond rfl (fun hc32 => ?_) (fun hc32 => ?_)
            ·
              replace hM := (ite_t hc32).symm.trans hM
              refine cw_region ?_
              refine ow_ev ev_move ?_
              refine ow_ev ev_move ?_
              refine ow_cons (st_bslice (α := Int) 3 (fun _ => ()) ([(t63_3 : Int)] : List Int) (OkL.flat (fun _ _ _ _ => trivial)) (fun r33 => ?_))
              obtain ⟨hb34, hM⟩ := chk_some hM
              refine ow_cons (st_append (r := rresources_3) (r2 := r33) (by intro r'; repeat (first | exact Upd.head | apply Upd.tail)) (Kn.trow (e := 3) (r := r33) (by repeat (first | exact Has.head | apply Has.tail))) (OkL.flat (fun _ _ _ _ => trivial)) (of_decide_eq_true hb34) (fun r35 => ?_))
              refine ow_ev ev_assign ?_
              refine ow_nil (hJ5 ((lresources_3 ++ ([(t63_3 : Int)] : List Int)), r35) _ _ hM ⟨rfl, rfl, rfl, rfl, trivial⟩ (fun w hm => hm.reord))
            ·
              replace hM := (ite_f hc32).symm.trans hM
              refine cw_skip (hJ5 (lresources_3, rresources_3) _ _ hM ⟨rfl, rfl, rfl, rfl, trivial⟩ (fun w hm => hm.reord))
          ·
            clear hM
            intro g hM
            obtain ⟨lresources_j5, rresources_j5⟩ := g
            dsimp only at hM ⊢
            dsimp only [route_Resources_k5] at hM
            refine cw_region ?_
            refine ow_ev (ev_add (hr := fun _ => by unfold I64; omega)) ?_
            refine ow_ev ev_move ?_
            refine ow_nil (hL3 (nn3, (lresources_j5, t63_3 + 1), rresources_j5) _ _ (eqc hcont3 hM) (Nat.lt_succ_self _) ⟨rfl, rfl, rfl, rfl, trivial⟩ (fun w hm => hm.reord))
        ·
          replace hM := (ite_f hc29).symm.trans hM
          refine cw_exit (hK20 _ _ ?_); clear hK20
          dsimp only [route_Resources_k4] at hM
          refine cw_seq fun K26 hK26 => ?_
          refine cw_region ?_
          refine ow_ev ev_move ?_
          refine ow_ev ev_assign ?_
          refine ow_ev ev_assign ?_
          refine ow_nil (hK26 _ _ ?_); clear hK26
          obtain rfl := some_inj hM
          refine cw_ret (kw_retc2 (fun w hm => post_of rresources_3 hm rfl))

def keep_Same_int_k1 : Unit → Option Bool := fun _ =>
  some true
def keep_Same_int_b1 (a0 : List Int) (b0 : List Int) (cont1 : Nat → Option Bool) : Nat → Option Bool := fun t13_1 =>
  if decide ((t13_1 : Int) < (a0.length : Int)) then
    ((idx a0 (t13_1 : Int)).bind fun x4 =>
    (idx b0 (t13_1 : Int)).bind fun x6 =>
    if decide (x4 ≠ x6) then
      (some false)
    else
      (cont1 (t13_1 + 1)))
  else
    (keep_Same_int_k1 ())
def keep_Same_int_m (a0 : List Int) (b0 : List Int) : Option Bool :=
  if decide ((a0.length : Int) ≠ (b0.length : Int)) then
    (some false)
  else
    (iter (keep_Same_int_b1 a0 b0) FUEL 0)
theorem keep_Same_int_spec (S : Soup) (w : World) (a0 : List Int) (r_a0 : GoRep.R (List Int)) (b0 : List Int) (r_b0 : GoRep.R (List Int)) (y : Bool) (hM : keep_Same_int_m a0 b0 = some y) (hS : ∀ k, S k → k < w.heap.size) (h_a0 : GoRep.ok S w r_a0 a0) (h_b0 : GoRep.ok S w r_b0 b0) :
    Calls Try.prog 32 #[.slice r_a0.a a0.length r_a0.cap, .slice r_b0.a b0.length r_b0.cap] w (Ret w (.bool y)) := by
  refine calls_cw (args := [_, _]) Try.func32 rfl ((pre_nil hS).start |>.immP (α := List Int) (r := r_a0) (x := a0) h_a0|>.immP (α := List Int) (r := r_b0) (x := b0) h_b0) rfl ?_
  unfold keep_Same_int_m at hM
  refine cw_seq fun K1 hK1 => ?_
  refine cw_region ?_
  refine ow_ev ev_assign ?_
  refine ow_nil (hK1 _ _ ?_); clear hK1
  refine cw_seq fun K2 hK2 => ?_
  refine cw_seq fun K3 hK3 => ?_
  refine cw_region ?_
  refine ow_ev ev_move ?_
  refine ow_ev ev_len ?_
  refine ow_ev ev_move ?_
  refine ow_ev ev_len ?_
  refine ow_ev ev_neq ?_
  refine ow_nil (hK3 _ _ ?_); clear hK3
  refine cw_cond rfl (fun hc1 => ?_) (fun hc1 => ?_)
  ·
    replace hM := (ite_t hc1).symm.trans hM
    refine cw_seq fun K4 hK4 => ?_
    refine cw_region ?_
    refine ow_ev ev_assign ?_
    refine ow_nil (hK4 _ _ ?_); clear hK4
    obtain rfl := some_inj hM
    refine cw_ret (kw_retc1 (fun w hm => ret_of hm rfl))
  ·
    replace hM := (ite_f hc1).symm.trans hM
    refine cw_skip (hK2 _ _ ?_); clear hK2
    refine cw_seq fun K5 hK5 => ?_
    refine cw_seq fun K6 hK6 => ?_
    refine cw_region ?_
    refine ow_ev ev_move ?_
    refine ow_have (fun w hm => Kn.len (Kn.imm (α := List Int) (r := r_a0) (x := a0) (by repeat (first | exact Has.head | apply Has.tail))) hm) fun hl2 => ?_
    refine ow_ev ev_len ?_
    refine ow_ev ev_move ?_
    refine ow_nil (hK6 _ _ ?_); clear hK6
    refine cw_block ?_
    refine cw_loop (γ := Nat × Nat × Unit) (env := fun (_, t13_1, _) => [(0, .v (.slice r_a0.a a0.length r_a0.cap)), (1, .v (.slice r_b0.a b0.length r_b0.cap)), (12, .v (.int .i64 (a0.length : Int))), (13, .v (.int .i64 (t13_1 : Int)))]) (mem := fun (_, t13_1, _) => [imm (α := (List Int)) r_a0 a0, imm (α := (List Int)) r_b0 b0]) (R := fun g => iter (keep_Same_int_b1 a0 b0) g.1 g.2.1 = some y) (μ := fun g => g.1) (FUEL, 0, ()) hM ⟨rfl, rfl, rfl, rfl, trivial⟩ (fun w hm => hm.reord) ?_
    clear hM
    intro g hM KL1 hL1
    obtain ⟨nn1, t13_1, ⟨⟩⟩ := g
    dsimp only at hM ⊢
    obtain ⟨nn1, cont1, rfl, hcont1, hM⟩ := iter_open' hM
    dsimp only [keep_Same_int_b1] at hM
    refine cw_seq fun K7 hK7 => ?_
    refine cw_region ?_
    refine ow_ev ev_lss ?_
    refine ow_nil (hK7 _ _ ?_); clear hK7
    refine cw_seq fun K8 hK8 => ?_
    refine cw_cond rfl (fun hc3 => ?_) (fun hc3 => ?_)
    ·
      replace hM := (ite_t hc3).symm.trans hM
      have hc3d := of_decide_eq_true hc3
      refine cw_skip (hK8 _ _ ?_); clear hK8
      refine cw_seq fun K9 hK9 => ?_
      refine cw_block ?_
      refine cw_seq fun K10 hK10 => ?_
      refine cw_region ?_
      refine ow_ev ev_move ?_
      refine ow_ev ev_assign ?_
      refine ow_nil (hK10 _ _ ?_); clear hK10
      refine cw_seq fun K11 hK11 => ?_
      refine cw_region_any _ (List.Sublist.refl _) ?_
      refine aw_ev 0 rfl ev_move ?_
      refine aw_ev 1 rfl ev_move ?_
      obtain ⟨x4, hx5, hM⟩ := bind_some hM
      refine aw_ev 2 rfl (ev_idx (xs := a0) 1 (Kn.imm (α := List Int) (r := r_a0) (x := a0) (by repeat (first | exact Has.head | apply Has.tail))) (fun hg => let h := idx_some hx5; ⟨h.1, h.2.1⟩)) ?_
      refine aw_ev 3 rfl (ev_ld (i := (t13_1 : Int)) (xs := a0) (y := x4) 0 (Kn.imm (α := List Int) (r := r_a0) (x := a0) (by repeat (first | exact Has.head | apply Has.tail))) (fun _ => hx5)) ?_
      refine aw_ev 4 rfl ev_move ?_
      refine aw_ev 5 rfl ev_move ?_
      obtain ⟨x6, hx7, hM⟩ := bind_some hM
      refine aw_ev 6 rfl (ev_idx (xs := b0) 1 (Kn.imm (α := List Int) (r := r_b0) (x := b0) (by repeat (first | exact Has.head | apply Has.tail))) (fun hg => let h := idx_some hx7; ⟨h.1, h.2.1⟩)) ?_
      refine aw_ev 7 rfl (ev_ld (i := (t13_1 : Int)) (xs := b0) (y := x6) 0 (Kn.imm (α := List Int) (r := r_b0) (x := b0) (by repeat (first | exact Has.head | apply Has.tail))) (fun _ => hx7)) ?_
      refine aw_ev 8 rfl ev_neq ?_
      refine aw_done (hK11 _ _ ?_); clear hK11
      refine cw_cond rfl (fun hc8 => ?_) (fun hc8 => ?_)
      ·
        replace hM := (ite_t hc8).symm.trans hM
        refine cw_seq fun K12 hK12 => ?_
        refine cw_region ?_
        refine ow_ev ev_assign ?_
        refine ow_nil (hK12 _ _ ?_); clear hK12
        obtain rfl := some_inj hM
        refine cw_ret (kw_retc1 (fun w hm => ret_of hm rfl))
      ·
        replace hM := (ite_f hc8).symm.trans hM
        refine cw_skip (hK9 _ _ ?_); clear hK9
        refine cw_region ?_
        refine ow_ev (ev_add (hr := fun _ => by unfold I64; omega)) ?_
        refine ow_ev ev_move ?_
        refine ow_nil (hL1 (nn1, (t13_1 + 1), ()) _ _ (eqc hcont1 hM) (Nat.lt_succ_self _) ⟨rfl, rfl, rfl, rfl, trivial⟩ (fun w hm => hm.reord))
    ·
      replace hM := (ite_f hc3).symm.trans hM
      refine cw_exit (hK5 _ _ ?_); clear hK5
      dsimp only [keep_Same_int_k1] at hM
      refine cw_seq fun K13 hK13 => ?_
      refine cw_region ?_
      refine ow_ev ev_assign ?_
      refine ow_nil (hK13 _ _ ?_); clear hK13
      obtain rfl := some_inj hM
      refine cw_ret (kw_retc1 (fun w hm => ret_of hm rfl))

end Go.Proofs.Ytnihhidbiepnhaa
