/- Models of functions, and that the code computes them. -/
import Derived.Test.YtnihhidbiepnhaaFi
import Derived.Test.YtnihhidbiepnhaaClone
namespace Go.Proofs.Ytnihhidbiepnhaa
open Go.Dc Go.RowKit
set_option maxRecDepth 10000
set_option linter.unusedVariables false
def route_search_extend_k2 (cont1 : (Int × (List Step) × (List Bool) × (List Ment_Entry101) × (List Route) × Nat) → Option (Bool × Int × (List Step) × (List Bool) × (GMap Ment_Entry101) × (List Route))) (t26_1 : Nat) : (Int × (List Step) × (List Bool) × (List Ment_Entry101) × (List Route)) → Option (Bool × Int × (List Step) × (List Bool) × (GMap Ment_Entry101) × (List Route)) := fun (b_s0_j2_6, lb_s0_j2_7, lb_s0_j2_8, lb_s0_j2_9, lb_s0_j2_10) =>
  cont1 (b_s0_j2_6, lb_s0_j2_7, lb_s0_j2_8, lb_s0_j2_9, lb_s0_j2_10, t26_1 + 1)
def route_search_extend_k3 (s0 : Route_search) (cont1 : (Int × (List Step) × (List Bool) × (List Ment_Entry101) × (List Route) × Nat) → Option (Bool × Int × (List Step) × (List Bool) × (GMap Ment_Entry101) × (List Route))) (t26_1 : Nat) : (Int × (List Step) × (List Bool) × (List Ment_Entry101) × (List Route)) → Option (Bool × Int × (List Step) × (List Bool) × (GMap Ment_Entry101) × (List Route)) := fun (b_s0_j3_6, lb_s0_j3_7, lb_s0_j3_8, lb_s0_j3_9, lb_s0_j3_10) =>
  (route_search_remove_m (Route_search.mk s0.l s0.to s0.budget b_s0_j3_6 lb_s0_j3_7 lb_s0_j3_8 (GMap.mk lb_s0_j3_9) lb_s0_j3_10)).bind fun y20 =>
  route_search_extend_k2 cont1 t26_1 (b_s0_j3_6, y20.1, y20.2, lb_s0_j3_9, lb_s0_j3_10)
def route_search_extend_k1 (b_s0_1_6 : Int) (lb_s0_1_7 : List Step) (lb_s0_1_8 : List Bool) (lb_s0_1_9 : List Ment_Entry101) (lb_s0_1_10 : List Route) : Unit → Option (Bool × Int × (List Step) × (List Bool) × (GMap Ment_Entry101) × (List Route)) := fun _ =>
  some (true, b_s0_1_6, lb_s0_1_7, lb_s0_1_8, (GMap.mk lb_s0_1_9), lb_s0_1_10)
def route_search_extend_b1 (y5 : (List Hop) × (GMap Ment_Entry101)) (s0 : Route_search) (recf : Route_search → Option (Bool × Int × (List Step) × (List Bool) × (GMap Ment_Entry101) × (List Route))) (cont1 : (Int × (List Step) × (List Bool) × (List Ment_Entry101) × (List Route) × Nat) → Option (Bool × Int × (List Step) × (List Bool) × (GMap Ment_Entry101) × (List Route))) : (Int × (List Step) × (List Bool) × (List Ment_Entry101) × (List Route) × Nat) → Option (Bool × Int × (List Step) × (List Bool) × (GMap Ment_Entry101) × (List Route)) := fun (b_s0_1_6, lb_s0_1_7, lb_s0_1_8, lb_s0_1_9, lb_s0_1_10, t26_1) =>
  if decide ((t26_1 : Int) < (y5.1.length : Int)) then
    ((idx y5.1 (t26_1 : Int)).bind fun x10 =>
    (idx lb_s0_1_8 x10.To.Section).bind fun x13 =>
    if x13 then
      (route_search_extend_k2 cont1 t26_1 (b_s0_1_6, lb_s0_1_7, lb_s0_1_8, lb_s0_1_9, lb_s0_1_10))
    else
      ((route_search_append_m (Route_search.mk s0.l s0.to s0.budget b_s0_1_6 lb_s0_1_7 lb_s0_1_8 (GMap.mk lb_s0_1_9) lb_s0_1_10) x10.To).bind fun y16 =>
      if (!y16.1) then
        (some (false, y16.2.1, y16.2.2.1, y16.2.2.2, (GMap.mk lb_s0_1_9), lb_s0_1_10))
      else
        (if decide (x10.To.Section = s0.to) then
          ((slices_Clone_api_Step_api_Step_m y16.2.2.1).bind fun y24 =>
          chk (decide ((lb_s0_1_10.length + ([(Route.mk y24 0)] : List Route).length) * 32 ≤ 140737488355328)) <|
          route_search_extend_k3 s0 cont1 t26_1 (y16.2.1, y16.2.2.1, y16.2.2.2, lb_s0_1_9, (lb_s0_1_10 ++ ([(Route.mk y24 0)] : List Route))))
        else
          ((recf (Route_search.mk s0.l s0.to s0.budget y16.2.1 y16.2.2.1 y16.2.2.2 (GMap.mk lb_s0_1_9) lb_s0_1_10)).bind fun y30 =>
          if (!y30.1) then
            (some (false, y30.2.1, y30.2.2.1, y30.2.2.2.1, y30.2.2.2.2.1, y30.2.2.2.2.2))
          else
            (route_search_extend_k3 s0 cont1 t26_1 (y30.2.1, y30.2.2.1, y30.2.2.2.1, y30.2.2.2.2.1.l, y30.2.2.2.2.2))))))
  else
    (route_search_extend_k1 b_s0_1_6 lb_s0_1_7 lb_s0_1_8 lb_s0_1_9 lb_s0_1_10 ())
def route_search_extend_F (recf : Route_search → Option (Bool × Int × (List Step) × (List Bool) × (GMap Ment_Entry101) × (List Route))) (s0 : Route_search) : Option (Bool × Int × (List Step) × (List Bool) × (GMap Ment_Entry101) × (List Route)) :=
  if decide ((s0.sequence.length : Int) = 24) then
    (some (true, s0.units, s0.sequence, s0.passed, s0.hops, s0.results))
  else
    (chk (i64b ((s0.sequence.length : Int) - 1)) <|
    (idx s0.sequence ((s0.sequence.length : Int) - 1)).bind fun x3 =>
    (route_search_from_m s0 x3).bind fun y5 =>
    iter (route_search_extend_b1 y5 s0 recf) FUEL (s0.units, s0.sequence, s0.passed, y5.2.l, s0.results, 0))
def route_search_extend_f : Nat → Route_search → Option (Bool × Int × (List Step) × (List Bool) × (GMap Ment_Entry101) × (List Route))
  | 0 => fun _ => none
  | n + 1 => route_search_extend_F (route_search_extend_f n)
def route_search_extend_m (s0 : Route_search) : Option (Bool × Int × (List Step) × (List Bool) × (GMap Ment_Entry101) × (List Route)) := route_search_extend_f FUEL s0
theorem route_search_extend_step (recf : Route_search → Option (Bool × Int × (List Step) × (List Bool) × (GMap Ment_Entry101) × (List Route))) (hrec : ∀ (S : Soup) (w : World) (b_s0 : Nat) (s0 : Route_search) (r_s0 : GoRep.R Route_search) (y : Bool × Int × (List Step) × (List Bool) × (GMap Ment_Entry101) × (List Route)) (hM : recf s0 = some y) (hP : Pre S [own b_s0 103 [.slice r_s0.1.1.a s0.l.Stations.length r_s0.1.1.cap, .slice r_s0.1.2.1.a s0.l.Points.length r_s0.1.2.1.cap, .slice r_s0.1.2.2.1.a s0.l.Sections.length r_s0.1.2.2.1.cap, .slice r_s0.1.2.2.2.a s0.l.Links.length r_s0.1.2.2.2.cap, .int .i64 s0.to, .int .i64 s0.budget, .int .i64 s0.units, .slice r_s0.2.1.a s0.sequence.length r_s0.2.1.cap, .slice r_s0.2.2.1.a s0.passed.length r_s0.2.2.1.cap, .map (some (sb r_s0.2.2.2.1.a)), .slice r_s0.2.2.2.2.a s0.results.length r_s0.2.2.2.2.cap], trow 40 r_s0.2.1 s0.sequence, trow 4 r_s0.2.2.1 s0.passed, mapc r_s0.2.2.2.1 s0.hops.l, trow 48 r_s0.2.2.2.2 s0.results] w) (h_s0_0 : GoRep.ok (α := List Str) S w r_s0.1.1 s0.l.Stations) (h_s0_1 : GoRep.ok (α := List Str) S w r_s0.1.2.1 s0.l.Points) (h_s0_2 : GoRep.ok (α := List Section) S w r_s0.1.2.2.1 s0.l.Sections) (h_s0_3 : GoRep.ok (α := List Link) S w r_s0.1.2.2.2 s0.l.Links), Calls Try.prog 55 #[.pointer (some ⟨b_s0, 0, none⟩)] w (Post (β := (SR (GoRep.R Step)) × (SR (GoRep.R Bool)) × (SR (GoRep.R Ment_Entry101)) × (SR (GoRep.R Route))) S [own b_s0 103 [.slice r_s0.1.1.a s0.l.Stations.length r_s0.1.1.cap, .slice r_s0.1.2.1.a s0.l.Points.length r_s0.1.2.1.cap, .slice r_s0.1.2.2.1.a s0.l.Sections.length r_s0.1.2.2.1.cap, .slice r_s0.1.2.2.2.a s0.l.Links.length r_s0.1.2.2.2.cap, .int .i64 s0.to, .int .i64 s0.budget, .int .i64 s0.units, .slice r_s0.2.1.a s0.sequence.length r_s0.2.1.cap, .slice r_s0.2.2.1.a s0.passed.length r_s0.2.2.1.cap, .map (some (sb r_s0.2.2.2.1.a)), .slice r_s0.2.2.2.2.a s0.results.length r_s0.2.2.2.2.cap], trow 40 r_s0.2.1 s0.sequence, trow 4 r_s0.2.2.1 s0.passed, mapc r_s0.2.2.2.1 s0.hops.l, trow 48 r_s0.2.2.2.2 s0.results] (fun g => .bool y.1) (fun g => [own b_s0 103 [.slice r_s0.1.1.a s0.l.Stations.length r_s0.1.1.cap, .slice r_s0.1.2.1.a s0.l.Points.length r_s0.1.2.1.cap, .slice r_s0.1.2.2.1.a s0.l.Sections.length r_s0.1.2.2.1.cap, .slice r_s0.1.2.2.2.a s0.l.Links.length r_s0.1.2.2.2.cap, .int .i64 s0.to, .int .i64 s0.budget, .int .i64 y.2.1, .slice g.1.a y.2.2.1.length g.1.cap, .slice g.2.1.a y.2.2.2.1.length g.2.1.cap, .map (some (sb g.2.2.1.a)), .slice g.2.2.2.a y.2.2.2.2.2.length g.2.2.2.cap], trow 40 g.1 y.2.2.1, trow 4 g.2.1 y.2.2.2.1, mapc g.2.2.1 y.2.2.2.2.1.l, trow 48 g.2.2.2 y.2.2.2.2.2]) w)) (S : Soup) (w : World) (b_s0 : Nat) (s0 : Route_search) (r_s0 : GoRep.R Route_search) (y : Bool × Int × (List Step) × (List Bool) × (GMap Ment_Entry101) × (List Route)) (hM : route_search_extend_F recf s0 = some y) (hP : Pre S [own b_s0 103 [.slice r_s0.1.1.a s0.l.Stations.length r_s0.1.1.cap, .slice r_s0.1.2.1.a s0.l.Points.length r_s0.1.2.1.cap, .slice r_s0.1.2.2.1.a s0.l.Sections.length r_s0.1.2.2.1.cap, .slice r_s0.1.2.2.2.a s0.l.Links.length r_s0.1.2.2.2.cap, .int .i64 s0.to, .int .i64 s0.budget, .int .i64 s0.units, .slice r_s0.2.1.a s0.sequence.length r_s0.2.1.cap, .slice r_s0.2.2.1.a s0.passed.length r_s0.2.2.1.cap, .map (some (sb r_s0.2.2.2.1.a)), .slice r_s0.2.2.2.2.a s0.results.length r_s0.2.2.2.2.cap], trow 40 r_s0.2.1 s0.sequence, trow 4 r_s0.2.2.1 s0.passed, mapc r_s0.2.2.2.1 s0.hops.l, trow 48 r_s0.2.2.2.2 s0.results] w) (h_s0_0 : GoRep.ok (α := List Str) S w r_s0.1.1 s0.l.Stations) (h_s0_1 : GoRep.ok (α := List Str) S w r_s0.1.2.1 s0.l.Points) (h_s0_2 : GoRep.ok (α := List Section) S w r_s0.1.2.2.1 s0.l.Sections) (h_s0_3 : GoRep.ok (α := List Link) S w r_s0.1.2.2.2 s0.l.Links) :
    Calls Try.prog 55 #[.pointer (some ⟨b_s0, 0, none⟩)] w (Post (β := (SR (GoRep.R Step)) × (SR (GoRep.R Bool)) × (SR (GoRep.R Ment_Entry101)) × (SR (GoRep.R Route))) S [own b_s0 103 [.slice r_s0.1.1.a s0.l.Stations.length r_s0.1.1.cap, .slice r_s0.1.2.1.a s0.l.Points.length r_s0.1.2.1.cap, .slice r_s0.1.2.2.1.a s0.l.Sections.length r_s0.1.2.2.1.cap, .slice r_s0.1.2.2.2.a s0.l.Links.length r_s0.1.2.2.2.cap, .int .i64 s0.to, .int .i64 s0.budget, .int .i64 s0.units, .slice r_s0.2.1.a s0.sequence.length r_s0.2.1.cap, .slice r_s0.2.2.1.a s0.passed.length r_s0.2.2.1.cap, .map (some (sb r_s0.2.2.2.1.a)), .slice r_s0.2.2.2.2.a s0.results.length r_s0.2.2.2.2.cap], trow 40 r_s0.2.1 s0.sequence, trow 4 r_s0.2.2.1 s0.passed, mapc r_s0.2.2.2.1 s0.hops.l, trow 48 r_s0.2.2.2.2 s0.results] (fun g => .bool y.1) (fun g => [own b_s0 103 [.slice r_s0.1.1.a s0.l.Stations.length r_s0.1.1.cap, .slice r_s0.1.2.1.a s0.l.Points.length r_s0.1.2.1.cap, .slice r_s0.1.2.2.1.a s0.l.Sections.length r_s0.1.2.2.1.cap, .slice r_s0.1.2.2.2.a s0.l.Links.length r_s0.1.2.2.2.cap, .int .i64 s0.to, .int .i64 s0.budget, .int .i64 y.2.1, .slice g.1.a y.2.2.1.length g.1.cap, .slice g.2.1.a y.2.2.2.1.length g.2.1.cap, .map (some (sb g.2.2.1.a)), .slice g.2.2.2.a y.2.2.2.2.2.length g.2.2.2.cap], trow 40 g.1 y.2.2.1, trow 4 g.2.1 y.2.2.2.1, mapc g.2.2.1 y.2.2.2.2.1.l, trow 48 g.2.2.2 y.2.2.2.2.2]) w) := by
  refine calls_cw (args := [_]) Try.func55 rfl (hP.start |>.immP (α := List Str) (r := r_s0.1.1) (x := s0.l.Stations) h_s0_0|>.immP (α := List Str) (r := r_s0.1.2.1) (x := s0.l.Points) h_s0_1|>.immP (α := List Section) (r := r_s0.1.2.2.1) (x := s0.l.Sections) h_s0_2|>.immP (α := List Link) (r := r_s0.1.2.2.2) (x := s0.l.Links) h_s0_3) rfl ?_
  unfold route_search_extend_F at hM
  refine cw_seq fun K1 hK1 => ?_
  refine cw_region ?_
  refine ow_ev ev_assign ?_
  refine ow_nil (hK1 _ _ ?_); clear hK1
  refine cw_seq fun K2 hK2 => ?_
  refine cw_seq fun K3 hK3 => ?_
  refine cw_region ?_
  refine ow_ev ev_move ?_
  refine ow_ev ev_nilcheck ?_
  refine ow_ev (ev_field_addr 7) ?_
  refine ow_ev (ev_load_own (b := b_s0)) ?_
  refine ow_ev ev_len ?_
  refine ow_ev ev_eql ?_
  refine ow_nil (hK3 _ _ ?_); clear hK3
  refine cw_cond rfl (fun hc1 => ?_) (fun hc1 => ?_)
  ·
    replace hM := (ite_t hc1).symm.trans hM
    refine cw_seq fun K4 hK4 => ?_
    refine cw_region ?_
    refine ow_ev ev_assign ?_
    refine ow_nil (hK4 _ _ ?_); clear hK4
    obtain rfl := some_inj hM
    refine cw_ret (kw_retc1 (fun w hm => post_of (r_s0.2.1, r_s0.2.2.1, r_s0.2.2.2.1, r_s0.2.2.2.2) hm rfl))
  ·
    replace hM := (ite_f hc1).symm.trans hM
    refine cw_skip (hK2 _ _ ?_); clear hK2
    refine cw_seq fun K5 hK5 => ?_
    refine cw_seq fun K6 hK6 => ?_
    refine cw_region_anyI [pown b_s0 [(7, .slice r_s0.2.1.a s0.sequence.length r_s0.2.1.cap)], imm (α := (List Link)) r_s0.1.2.2.2 s0.l.Links, imm (α := (List Section)) r_s0.1.2.2.1 s0.l.Sections, imm (α := (List Str)) r_s0.1.2.1 s0.l.Points, imm (α := (List Str)) r_s0.1.1 s0.l.Stations, trow 40 r_s0.2.1 s0.sequence, trow 4 r_s0.2.2.1 s0.passed, trow 48 r_s0.2.2.2.2 s0.results] (fun w hm => (hm.pown (b := b_s0) [(7, .slice r_s0.2.1.a s0.sequence.length r_s0.2.1.cap)] (by repeat (first | exact Upd.head | apply Upd.tail)) (by intro p hp; simp only [List.mem_cons, List.not_mem_nil, or_false] at hp; rcases hp with rfl <;> rfl)).reord) ?_
    refine aw_ev 0 rfl ev_move ?_
    refine aw_ev 1 rfl ev_move ?_
    refine aw_ev 2 rfl ev_nilcheck ?_
    refine aw_ev 3 rfl (ev_field_addr 7) ?_
    refine aw_ev 4 rfl (ev_pload (b := b_s0) (o := 7) (ps := [(7, .slice r_s0.2.1.a s0.sequence.length r_s0.2.1.cap)]) (by repeat (first | exact Has.head | apply Has.tail)) (by repeat (first | exact List.Mem.head _ | apply List.Mem.tail))) ?_
    refine aw_ev 5 rfl ev_move ?_
    refine aw_ev 6 rfl ev_nilcheck ?_
    refine aw_ev 7 rfl (ev_field_addr 7) ?_
    refine aw_ev 8 rfl (ev_pload (b := b_s0) (o := 7) (ps := [(7, .slice r_s0.2.1.a s0.sequence.length r_s0.2.1.cap)]) (by repeat (first | exact Has.head | apply Has.tail)) (by repeat (first | exact List.Mem.head _ | apply List.Mem.tail))) ?_
    refine aw_ev 9 rfl ev_len ?_
    obtain ⟨hI2, hM⟩ := chk_some hM
    refine aw_ev 10 rfl (ev_sub (hr := fun hg => i64b_I64 hI2)) ?_
    obtain ⟨x3, hx4, hM⟩ := bind_some hM
    refine aw_ev 11 rfl (ev_idx (xs := s0.sequence) 2 (Kn.trow (e := 40) (r := r_s0.2.1) (by repeat (first | exact Has.head | apply Has.tail))) (fun hg => let h := idx_some hx4; ⟨h.1, h.2.1⟩)) ?_
    refine aw_ev 12 rfl (ev_lds (m := 2) (i := ((s0.sequence.length : Int) - 1)) (xs := s0.sequence) (y := x3) (l := [.int .i64 x3.Section, .int .i64 x3.Dir]) 0 (Kn.trow (e := 40) (r := r_s0.2.1) (by repeat (first | exact Has.head | apply Has.tail))) (fun _ => hx4)) ?_
    refine aw_ev 15 rfl ev_move ?_
    obtain ⟨y5, hy6, hM⟩ := bind_some hM
    refine aw_one 13 rfl (st_callS (by repeat (first | exact SelL.nil | (apply SelL.cons; · (repeat (first | exact Sel.head | apply Sel.tail))))) (fun S w hs hP => route_search_from_spec _ w b_s0 s0 r_s0 x3 y5 hy6 hP ((Sk.imm (α := List Str) (r := r_s0.1.1) (x := s0.l.Stations) (by repeat (first | exact Has.head | apply Has.tail))) S w hs) ((Sk.imm (α := List Str) (r := r_s0.1.2.1) (x := s0.l.Points) (by repeat (first | exact Has.head | apply Has.tail))) S w hs) ((Sk.imm (α := List Section) (r := r_s0.1.2.2.1) (x := s0.l.Sections) (by repeat (first | exact Has.head | apply Has.tail))) S w hs) ((Sk.imm (α := List Link) (r := r_s0.1.2.2.2) (x := s0.l.Links) (by repeat (first | exact Has.head | apply Has.tail))) S w hs))  (fun r7 => ⟨fun w hm => (hm.pown (b := b_s0) [(7, .slice r_s0.2.1.a s0.sequence.length r_s0.2.1.cap)] (by repeat (first | exact Upd.head | apply Upd.tail)) (by intro p hp; simp only [List.mem_cons, List.not_mem_nil, or_false] at hp; rcases hp with rfl <;> rfl)).reord, ?_⟩))
    dsimp only [List.cons_append, List.nil_append]
    refine aw_have (fun w hm => Kn.len (Kn.imm (α := List Hop) (r := r7.1) (x := y5.1) (by repeat (first | exact Has.head | apply Has.tail))) hm) fun hl8 => ?_
    refine aw_one 14 rfl (st_ev ev_len ⟨fun w hm => (hm.pown (b := b_s0) [(7, .slice r_s0.2.1.a s0.sequence.length r_s0.2.1.cap)] (by repeat (first | exact Upd.head | apply Upd.tail)) (by intro p hp; simp only [List.mem_cons, List.not_mem_nil, or_false] at hp; rcases hp with rfl <;> rfl)).reord, ?_⟩)
    refine aw_done (hK6 _ _ ?_); clear hK6
    refine cw_block ?_
    refine cw_loop (γ := Nat × (Int × (List Step) × (List Bool) × (List Ment_Entry101) × (List Route) × Nat) × ((SR (GoRep.R Step)) × (SR (GoRep.R Bool)) × (SR (GoRep.R Ment_Entry101)) × (SR (GoRep.R Route)))) (env := fun (_, (b_s0_1_6, lb_s0_1_7, lb_s0_1_8, lb_s0_1_9, lb_s0_1_10, t26_1), (rb_s0_1_7, rb_s0_1_8, rb_s0_1_9, rb_s0_1_10)) => [(0, .v (.pointer (some ⟨b_s0, 0, none⟩))), (24, .v (.slice r7.1.a y5.1.length r7.1.cap)), (25, .v (.int .i64 (y5.1.length : Int))), (26, .v (.int .i64 (t26_1 : Int)))]) (mem := fun (_, (b_s0_1_6, lb_s0_1_7, lb_s0_1_8, lb_s0_1_9, lb_s0_1_10, t26_1), (rb_s0_1_7, rb_s0_1_8, rb_s0_1_9, rb_s0_1_10)) => [imm (α := (List Str)) r_s0.1.1 s0.l.Stations, imm (α := (List Str)) r_s0.1.2.1 s0.l.Points, imm (α := (List Section)) r_s0.1.2.2.1 s0.l.Sections, imm (α := (List Link)) r_s0.1.2.2.2 s0.l.Links, trow 40 rb_s0_1_7 lb_s0_1_7, trow 4 rb_s0_1_8 lb_s0_1_8, mapc rb_s0_1_9 lb_s0_1_9, trow 48 rb_s0_1_10 lb_s0_1_10, own b_s0 103 [.slice r_s0.1.1.a s0.l.Stations.length r_s0.1.1.cap, .slice r_s0.1.2.1.a s0.l.Points.length r_s0.1.2.1.cap, .slice r_s0.1.2.2.1.a s0.l.Sections.length r_s0.1.2.2.1.cap, .slice r_s0.1.2.2.2.a s0.l.Links.length r_s0.1.2.2.2.cap, .int .i64 s0.to, .int .i64 s0.budget, .int .i64 b_s0_1_6, .slice rb_s0_1_7.a lb_s0_1_7.length rb_s0_1_7.cap, .slice rb_s0_1_8.a lb_s0_1_8.length rb_s0_1_8.cap, .map (some (sb rb_s0_1_9.a)), .slice rb_s0_1_10.a lb_s0_1_10.length rb_s0_1_10.cap], imm (α := (List Hop)) r7.1 y5.1]) (R := fun g => iter (route_search_extend_b1 y5 s0 recf) g.1 g.2.1 = some y) (μ := fun g => g.1) (FUEL, (s0.units, s0.sequence, s0.passed, y5.2.l, s0.results, 0), (r_s0.2.1, r_s0.2.2.1, r7.2, r_s0.2.2.2.2)) hM ⟨rfl, rfl, rfl, rfl, trivial⟩ (fun w hm => by simp only [List.length_set]; exact hm.reord) ?_
    clear hM
    intro g hM KL1 hL1
    obtain ⟨nn1, ⟨b_s0_1_6, lb_s0_1_7, lb_s0_1_8, lb_s0_1_9, lb_s0_1_10, t26_1⟩, ⟨rb_s0_1_7, rb_s0_1_8, rb_s0_1_9, rb_s0_1_10⟩⟩ := g
    dsimp only at hM ⊢
    obtain ⟨nn1, cont1, rfl, hcont1, hM⟩ := iter_open' hM
    dsimp only [route_search_extend_b1] at hM
    refine cw_seq fun K7 hK7 => ?_
    refine cw_region ?_
    refine ow_ev ev_lss ?_
    refine ow_nil (hK7 _ _ ?_); clear hK7
    refine cw_seq fun K8 hK8 => ?_
    refine cw_cond rfl (fun hc9 => ?_) (fun hc9 => ?_)
    ·
      replace hM := (ite_t hc9).symm.trans hM
      have hc9d := of_decide_eq_true hc9
      refine cw_skip (hK8 _ _ ?_); clear hK8
      refine cw_cut (γ := (Int × (List Step) × (List Bool) × (List Ment_Entry101) × (List Route)) × ((SR (GoRep.R Step)) × (SR (GoRep.R Bool)) × (SR (GoRep.R Ment_Entry101)) × (SR (GoRep.R Route)))) (env := fun ((b_s0_j2_6, lb_s0_j2_7, lb_s0_j2_8, lb_s0_j2_9, lb_s0_j2_10), (rb_s0_j2_7, rb_s0_j2_8, rb_s0_j2_9, rb_s0_j2_10)) => [(0, .v (.pointer (some ⟨b_s0, 0, none⟩))), (24, .v (.slice r7.1.a y5.1.length r7.1.cap)), (25, .v (.int .i64 (y5.1.length : Int))), (26, .v (.int .i64 (t26_1 : Int)))]) (mem := fun ((b_s0_j2_6, lb_s0_j2_7, lb_s0_j2_8, lb_s0_j2_9, lb_s0_j2_10), (rb_s0_j2_7, rb_s0_j2_8, rb_s0_j2_9, rb_s0_j2_10)) => [imm (α := (List Str)) r_s0.1.1 s0.l.Stations, imm (α := (List Str)) r_s0.1.2.1 s0.l.Points, imm (α := (List Section)) r_s0.1.2.2.1 s0.l.Sections, imm (α := (List Link)) r_s0.1.2.2.2 s0.l.Links, trow 40 rb_s0_j2_7 lb_s0_j2_7, trow 4 rb_s0_j2_8 lb_s0_j2_8, mapc rb_s0_j2_9 lb_s0_j2_9, trow 48 rb_s0_j2_10 lb_s0_j2_10, own b_s0 103 [.slice r_s0.1.1.a s0.l.Stations.length r_s0.1.1.cap, .slice r_s0.1.2.1.a s0.l.Points.length r_s0.1.2.1.cap, .slice r_s0.1.2.2.1.a s0.l.Sections.length r_s0.1.2.2.1.cap, .slice r_s0.1.2.2.2.a s0.l.Links.length r_s0.1.2.2.2.cap, .int .i64 s0.to, .int .i64 s0.budget, .int .i64 b_s0_j2_6, .slice rb_s0_j2_7.a lb_s0_j2_7.length rb_s0_j2_7.cap, .slice rb_s0_j2_8.a lb_s0_j2_8.length rb_s0_j2_8.cap, .map (some (sb rb_s0_j2_9.a)), .slice rb_s0_j2_10.a lb_s0_j2_10.length rb_s0_j2_10.cap], imm (α := (List Hop)) r7.1 y5.1]) (R := fun g => route_search_extend_k2 cont1 t26_1 g.1 = some y) ?_ ?_
      · intro KJ2 hJ2
        refine cw_block ?_
        refine cw_seq fun K9 hK9 => ?_
        refine cw_region ?_
        obtain ⟨x10, hx11, hM⟩ := bind_some hM
        refine ow_ev (ev_idx (xs := y5.1) 4 (Kn.imm (α := List Hop) (r := r7.1) (x := y5.1) (by repeat (first | exact Has.head | apply Has.tail))) (fun hg => let h := idx_some hx11; ⟨h.1, h.2.1⟩)) ?_
        refine ow_ev (ev_lds (m := 4) (i := (t26_1 : Int)) (xs := y5.1) (y := x10) (l := [.int .i64 x10.To.Section, .int .i64 x10.To.Dir, .int .i64 x10.Point, .int .i64 x10.Pos]) 0 (Kn.imm (α := List Hop) (r := r7.1) (x := y5.1) (by repeat (first | exact Has.head | apply Has.tail))) (fun _ => hx11)) ?_
        refine ow_cons (st_alloc rfl (k := fun b12 => ?_))
        refine ow_cons (st_store_all (b := b12) (vs := [.int .i64 x10.To.Section, .int .i64 x10.To.Dir, .int .i64 x10.Point, .int .i64 x10.Pos]) (k := ?_))
        refine ow_nil (hK9 _ _ ?_); clear hK9
        refine cw_seq fun K10 hK10 => ?_
        refine cw_seq fun K11 hK11 => ?_
        refine cw_region_any _ (List.Sublist.refl _) ?_
        refine aw_ev 0 rfl ev_move ?_
        refine aw_ev 1 rfl ev_nilcheck ?_
        refine aw_ev 2 rfl (ev_field_addr 8) ?_
        refine aw_ev 3 rfl (ev_load_own (b := b_s0)) ?_
        refine aw_ev 4 rfl (ev_field_addr 0) ?_
        refine aw_ev 5 rfl (ev_field_addr 0) ?_
        refine aw_ev 6 rfl (ev_load_own (b := b12)) ?_
        obtain ⟨x13, hx14, hM⟩ := bind_some hM
        refine aw_ev 7 rfl (ev_idx (xs := lb_s0_1_8) 1 (Kn.trow (e := 4) (r := rb_s0_1_8) (by repeat (first | exact Has.head | apply Has.tail))) (fun hg => let h := idx_some hx14; ⟨h.1, h.2.1⟩)) ?_
        refine aw_ev 8 rfl (ev_ld (i := x10.To.Section) (xs := lb_s0_1_8) (y := x13) 0 (Kn.trow (e := 4) (r := rb_s0_1_8) (by repeat (first | exact Has.head | apply Has.tail))) (fun _ => hx14)) ?_
        refine aw_done (hK11 _ _ ?_); clear hK11
        refine cw_cond rfl (fun hc15 => ?_) (fun hc15 => ?_)
        ·
          replace hM := (ite_t hc15).symm.trans hM
          refine cw_exit (hJ2 ((b_s0_1_6, lb_s0_1_7, lb_s0_1_8, lb_s0_1_9, lb_s0_1_10), (rb_s0_1_7, rb_s0_1_8, rb_s0_1_9, rb_s0_1_10)) _ _ hM ⟨rfl, rfl, rfl, rfl, trivial⟩ (fun w hm => by simp only [List.length_set]; exact hm.reord))
        ·
          replace hM := (ite_f hc15).symm.trans hM
          refine cw_skip (hK10 _ _ ?_); clear hK10
          refine cw_seq fun K12 hK12 => ?_
          refine cw_seq fun K13 hK13 => ?_
          refine cw_region ?_
          refine ow_ev ev_move ?_
          refine ow_ev (ev_field_addr 0) ?_
          refine ow_ev (ev_load_part (b := b12) (o := 0) (l := [.int .i64 x10.To.Section, .int .i64 x10.To.Dir, .int .i64 x10.Point, .int .i64 x10.Pos]) (m := 2) (l' := [.int .i64 x10.To.Section, .int .i64 x10.To.Dir])) ?_
          obtain ⟨y16, hy17, hM⟩ := bind_some hM
          refine ow_cons (st_callS (by repeat (first | exact SelL.nil | (apply SelL.cons; · (repeat (first | exact Sel.head | apply Sel.tail))))) (fun S w hs hP => route_search_append_spec _ w b_s0 (Route_search.mk s0.l s0.to s0.budget b_s0_1_6 lb_s0_1_7 lb_s0_1_8 (GMap.mk lb_s0_1_9) lb_s0_1_10) (r_s0.1, rb_s0_1_7, rb_s0_1_8, rb_s0_1_9, rb_s0_1_10) x10.To y16 hy17 hP ((Sk.imm (α := List Str) (r := r_s0.1.1) (x := s0.l.Stations) (by repeat (first | exact Has.head | apply Has.tail))) S w hs) ((Sk.imm (α := List Str) (r := r_s0.1.2.1) (x := s0.l.Points) (by repeat (first | exact Has.head | apply Has.tail))) S w hs) ((Sk.imm (α := List Section) (r := r_s0.1.2.2.1) (x := s0.l.Sections) (by repeat (first | exact Has.head | apply Has.tail))) S w hs) ((Sk.imm (α := List Link) (r := r_s0.1.2.2.2) (x := s0.l.Links) (by repeat (first | exact Has.head | apply Has.tail))) S w hs))  (fun r18 => ?_))
          dsimp only [List.cons_append, List.nil_append]
          refine ow_ev ev_not ?_
          refine ow_nil (hK13 _ _ ?_); clear hK13
          refine cw_cond rfl (fun hc19 => ?_) (fun hc19 => ?_)
          ·
            replace hM := (ite_t hc19).symm.trans hM
            refine cw_seq fun K14 hK14 => ?_
            refine cw_region ?_
            refine ow_ev ev_assign ?_
            refine ow_nil (hK14 _ _ ?_); clear hK14
            obtain rfl := some_inj hM
            refine cw_ret (kw_retc1 (fun w hm => post_of (r18.1, r18.2, rb_s0_1_9, rb_s0_1_10) hm rfl))
          ·
            replace hM := (ite_f hc19).symm.trans hM
            refine cw_skip (hK12 _ _ ?_); clear hK12
            refine cw_cut (γ := (Int × (List Step) × (List Bool) × (List Ment_Entry101) × (List Route)) × ((SR (GoRep.R Step)) × (SR (GoRep.R Bool)) × (SR (GoRep.R Ment_Entry101)) × (SR (GoRep.R Route)))) (env := fun ((b_s0_j3_6, lb_s0_j3_7, lb_s0_j3_8, lb_s0_j3_9, lb_s0_j3_10), (rb_s0_j3_7, rb_s0_j3_8, rb_s0_j3_9, rb_s0_j3_10)) => [(0, .v (.pointer (some ⟨b_s0, 0, none⟩))), (24, .v (.slice r7.1.a y5.1.length r7.1.cap)), (25, .v (.int .i64 (y5.1.length : Int))), (26, .v (.int .i64 (t26_1 : Int)))]) (mem := fun ((b_s0_j3_6, lb_s0_j3_7, lb_s0_j3_8, lb_s0_j3_9, lb_s0_j3_10), (rb_s0_j3_7, rb_s0_j3_8, rb_s0_j3_9, rb_s0_j3_10)) => [imm (α := (List Str)) r_s0.1.1 s0.l.Stations, imm (α := (List Str)) r_s0.1.2.1 s0.l.Points, imm (α := (List Section)) r_s0.1.2.2.1 s0.l.Sections, imm (α := (List Link)) r_s0.1.2.2.2 s0.l.Links, trow 40 rb_s0_j3_7 lb_s0_j3_7, trow 4 rb_s0_j3_8 lb_s0_j3_8, mapc rb_s0_j3_9 lb_s0_j3_9, trow 48 rb_s0_j3_10 lb_s0_j3_10, own b_s0 103 [.slice r_s0.1.1.a s0.l.Stations.length r_s0.1.1.cap, .slice r_s0.1.2.1.a s0.l.Points.length r_s0.1.2.1.cap, .slice r_s0.1.2.2.1.a s0.l.Sections.length r_s0.1.2.2.1.cap, .slice r_s0.1.2.2.2.a s0.l.Links.length r_s0.1.2.2.2.cap, .int .i64 s0.to, .int .i64 s0.budget, .int .i64 b_s0_j3_6, .slice rb_s0_j3_7.a lb_s0_j3_7.length rb_s0_j3_7.cap, .slice rb_s0_j3_8.a lb_s0_j3_8.length rb_s0_j3_8.cap, .map (some (sb rb_s0_j3_9.a)), .slice rb_s0_j3_10.a lb_s0_j3_10.length rb_s0_j3_10.cap], imm (α := (List Hop)) r7.1 y5.1]) (R := fun g => route_search_extend_k3 s0 cont1 t26_1 g.1 = some y) ?_ ?_
            · intro KJ3 hJ3
              refine cw_seq fun K15 hK15 => ?_
              refine cw_region_any _ (List.Sublist.refl _) ?_
              refine aw_ev 0 rfl (ev_field_addr 0) ?_
              refine aw_ev 1 rfl (ev_field_addr 0) ?_
              refine aw_ev 2 rfl (ev_load_own (b := b12)) ?_
              refine aw_ev 3 rfl ev_move ?_
              refine aw_ev 4 rfl ev_nilcheck ?_
              refine aw_ev 5 rfl (ev_field_addr 4) ?_
              refine aw_ev 6 rfl (ev_load_own (b := b_s0)) ?_
              refine aw_ev 7 rfl ev_eql ?_
              refine aw_done (hK15 _ _ ?_); clear hK15
              refine cw_cond rfl (fun hc23 => ?_) (fun hc23 => ?_)
              ·
                replace hM := (ite_t hc23).symm.trans hM
                refine cw_region_z [own b_s0 103 [.slice r_s0.1.1.a s0.l.Stations.length r_s0.1.1.cap, .slice r_s0.1.2.1.a s0.l.Points.length r_s0.1.2.1.cap, .slice r_s0.1.2.2.1.a s0.l.Sections.length r_s0.1.2.2.1.cap, .slice r_s0.1.2.2.2.a s0.l.Links.length r_s0.1.2.2.2.cap, .int .i64 s0.to, .int .i64 s0.budget, .int .i64 y16.2.1, .slice r18.1.a y16.2.2.1.length r18.1.cap, .slice r18.2.a y16.2.2.2.length r18.2.cap, .map (some (sb rb_s0_1_9.a)), .slice rb_s0_1_10.a lb_s0_1_10.length rb_s0_1_10.cap], trow 40 r18.1 y16.2.2.1, trow 4 r18.2 y16.2.2.2, mapc rb_s0_1_9 lb_s0_1_9, own b12 43 [.int .i64 x10.To.Section, .int .i64 x10.To.Dir, .int .i64 x10.Point, .int .i64 x10.Pos], imm (α := (List Str)) r_s0.1.1 s0.l.Stations, imm (α := (List Str)) r_s0.1.2.1 s0.l.Points, imm (α := (List Section)) r_s0.1.2.2.1 s0.l.Sections, imm (α := (List Link)) r_s0.1.2.2.2 s0.l.Links, imm (α := (List Hop)) r7.1 y5.1] 15 ?_
                refine az_ev 0 rfl ev_move ?_
                refine az_ev 1 rfl ev_move ?_
                refine az_ev 2 rfl ev_nilcheck ?_
                refine az_ev 3 rfl (ev_field_addr 10) ?_
                refine az_ev 4 rfl (ev_load_own (b := b_s0)) ?_
                refine az_ev 5 rfl ev_move ?_
                refine az_ev 6 rfl ev_nilcheck ?_
                refine az_ev 7 rfl (ev_field_addr 7) ?_
                refine az_ev 8 rfl (ev_load_own (b := b_s0)) ?_
                obtain ⟨y24, hy25, hM⟩ := bind_some hM
                refine az_one 9 rfl (st_callF SelL.nil (fun S w hs hP => slices_Clone_api_Step_api_Step_spec _ w y16.2.2.1 r18.1 y24 hy25 (lend_lt hs) (Kn.lend (Kn.trow (e := 40) (r := r18.1) (by repeat (first | exact Has.head | apply Has.tail))) hs)) (by intro r c hc; simp only [List.mem_cons, List.not_mem_nil, or_false] at hc; rcases hc with rfl <;> first | exact flatC_own | exact flatC_trow (fun _ _ _ _ => trivial)) (fun r26 => ⟨fun w hm => hm.sub (by repeat (first | exact List.Sublist.refl _ | apply List.Sublist.cons_cons | apply List.Sublist.cons)), ?_⟩))
                dsimp only [List.cons_append, List.nil_append]
                refine az_ev 10 rfl (ev_build [.slice r26.a y24.length r26.cap, .int .i64 0]) ?_
                refine az_imp (fun w hm => hm.freeze (r := r26) (by repeat (first | exact Upd.head | apply Upd.tail))) ?_
                refine az_one 11 rfl (st_bslice (α := Route) 48 (fun _ => r26) ([(Route.mk y24 0)] : List Route) (OkL.cons (fun S w hs => ((Sk.imm (α := List Step) (r := r26) (x := y24) (by repeat (first | exact Has.head | apply Has.tail))) S w hs)) OkL.nil) (fun r27 => ⟨fun w hm => hm.sub (by repeat (first | exact List.Sublist.refl _ | apply List.Sublist.cons_cons | apply List.Sublist.cons)), ?_⟩))
                obtain ⟨hb28, hM⟩ := chk_some hM
                refine az_one 12 rfl (st_append (r := rb_s0_1_10) (r2 := r27) (by intro r'; repeat (first | exact Upd.head | apply Upd.tail)) (Kn.trow (e := 48) (r := r27) (by repeat (first | exact Has.head | apply Has.tail))) (OkL.row (e := 48) (r := r27) (by repeat (first | exact Has.head | apply Has.tail))) (of_decide_eq_true hb28) (fun r29 => ⟨fun w hm => hm.sub (by repeat (first | exact List.Sublist.refl _ | apply List.Sublist.cons_cons | apply List.Sublist.cons)), ?_⟩))
                refine az_ev 13 rfl ev_nilcheck ?_
                refine az_ev 14 rfl (ev_field_addr 10) ?_
                refine az_last rfl (st_store_own (b := b_s0) (l' := [.slice r_s0.1.1.a s0.l.Stations.length r_s0.1.1.cap, .slice r_s0.1.2.1.a s0.l.Points.length r_s0.1.2.1.cap, .slice r_s0.1.2.2.1.a s0.l.Sections.length r_s0.1.2.2.1.cap, .slice r_s0.1.2.2.2.a s0.l.Links.length r_s0.1.2.2.2.cap, .int .i64 s0.to, .int .i64 s0.budget, .int .i64 y16.2.1, .slice r18.1.a y16.2.2.1.length r18.1.cap, .slice r18.2.a y16.2.2.2.length r18.2.cap, .map (some (sb rb_s0_1_9.a)), .slice r29.a ((lb_s0_1_10 ++ ([(Route.mk y24 0)] : List Route)).length) r29.cap]) (k := ?_))
                refine az_done (hJ3 ((y16.2.1, y16.2.2.1, y16.2.2.2, lb_s0_1_9, (lb_s0_1_10 ++ ([(Route.mk y24 0)] : List Route))), (r18.1, r18.2, rb_s0_1_9, r29)) _ _ hM ⟨rfl, rfl, rfl, rfl, trivial⟩ (fun w hm => by simp only [List.length_set]; exact hm.reord))
              ·
                replace hM := (ite_f hc23).symm.trans hM
                refine cw_seq fun K16 hK16 => ?_
                refine cw_region ?_
                refine ow_ev ev_move ?_
                obtain ⟨y30, hy31, hM⟩ := bind_some hM
                refine ow_cons (st_callS (by repeat (first | exact SelL.nil | (apply SelL.cons; · (repeat (first | exact Sel.head | apply Sel.tail))))) (fun S w hs hP => hrec _ w b_s0 (Route_search.mk s0.l s0.to s0.budget y16.2.1 y16.2.2.1 y16.2.2.2 (GMap.mk lb_s0_1_9) lb_s0_1_10) (r_s0.1, r18.1, r18.2, rb_s0_1_9, rb_s0_1_10) y30 hy31 hP ((Sk.imm (α := List Str) (r := r_s0.1.1) (x := s0.l.Stations) (by repeat (first | exact Has.head | apply Has.tail))) S w hs) ((Sk.imm (α := List Str) (r := r_s0.1.2.1) (x := s0.l.Points) (by repeat (first | exact Has.head | apply Has.tail))) S w hs) ((Sk.imm (α := List Section) (r := r_s0.1.2.2.1) (x := s0.l.Sections) (by repeat (first | exact Has.head | apply Has.tail))) S w hs) ((Sk.imm (α := List Link) (r := r_s0.1.2.2.2) (x := s0.l.Links) (by repeat (first | exact Has.head | apply Has.tail))) S w hs))  (fun r32 => ?_))
                dsimp only [List.cons_append, List.nil_append]
                refine ow_ev ev_not ?_
                refine ow_nil (hK16 _ _ ?_); clear hK16
                refine cw_cond rfl (fun hc33 => ?_) (fun hc33 => ?_)
                ·
                  replace hM := (ite_t hc33).symm.trans hM
                  refine cw_seq fun K17 hK17 => ?_
                  refine cw_region ?_
                  refine ow_ev ev_assign ?_
                  refine ow_nil (hK17 _ _ ?_); clear hK17
                  obtain rfl := some_inj hM
                  refine cw_ret (kw_retc1 (fun w hm => post_of (r32.1, r32.2.1, r32.2.2.1, r32.2.2.2) hm rfl))
                ·
                  replace hM := (ite_f hc33).symm.trans hM
                  refine cw_skip (hJ3 ((y30.2.1, y30.2.2.1, y30.2.2.2.1, y30.2.2.2.2.1.l, y30.2.2.2.2.2), (r32.1, r32.2.1, r32.2.2.1, r32.2.2.2)) _ _ hM ⟨rfl, rfl, rfl, rfl, trivial⟩ (fun w hm => by simp only [List.length_set]; exact hm.reord))
            ·
              clear hM
              intro g hM
              obtain ⟨⟨b_s0_j3_6, lb_s0_j3_7, lb_s0_j3_8, lb_s0_j3_9, lb_s0_j3_10⟩, ⟨rb_s0_j3_7, rb_s0_j3_8, rb_s0_j3_9, rb_s0_j3_10⟩⟩ := g
              dsimp only at hM ⊢
              dsimp only [route_search_extend_k3] at hM
              refine cw_region ?_
              refine ow_ev ev_move ?_
              obtain ⟨y20, hy21, hM⟩ := bind_some hM
              refine ow_cons (st_callS (by repeat (first | exact SelL.nil | (apply SelL.cons; · (repeat (first | exact Sel.head | apply Sel.tail))))) (fun S w hs hP => route_search_remove_spec _ w b_s0 (Route_search.mk s0.l s0.to s0.budget b_s0_j3_6 lb_s0_j3_7 lb_s0_j3_8 (GMap.mk lb_s0_j3_9) lb_s0_j3_10) (r_s0.1, rb_s0_j3_7, rb_s0_j3_8, rb_s0_j3_9, rb_s0_j3_10) y20 hy21 hP ((Sk.imm (α := List Str) (r := r_s0.1.1) (x := s0.l.Stations) (by repeat (first | exact Has.head | apply Has.tail))) S w hs) ((Sk.imm (α := List Str) (r := r_s0.1.2.1) (x := s0.l.Points) (by repeat (first | exact Has.head | apply Has.tail))) S w hs) ((Sk.imm (α := List Section) (r := r_s0.1.2.2.1) (x := s0.l.Sections) (by repeat (first | exact Has.head | apply Has.tail))) S w hs) ((Sk.imm (α := List Link) (r := r_s0.1.2.2.2) (x := s0.l.Links) (by repeat (first | exact Has.head | apply Has.tail))) S w hs))  (fun r22 => ?_))
              dsimp only [List.cons_append, List.nil_append]
              refine ow_nil (hJ2 ((b_s0_j3_6, y20.1, y20.2, lb_s0_j3_9, lb_s0_j3_10), (r22.1, r22.2, rb_s0_j3_9, rb_s0_j3_10)) _ _ hM ⟨rfl, rfl, rfl, rfl, trivial⟩ (fun w hm => by simp only [List.length_set]; exact hm.reord))
      ·
        clear hM
        intro g hM
        obtain ⟨⟨b_s0_j2_6, lb_s0_j2_7, lb_s0_j2_8, lb_s0_j2_9, lb_s0_j2_10⟩, ⟨rb_s0_j2_7, rb_s0_j2_8, rb_s0_j2_9, rb_s0_j2_10⟩⟩ := g
        dsimp only at hM ⊢
        dsimp only [route_search_extend_k2] at hM
        refine cw_region ?_
        refine ow_ev (ev_add (hr := fun _ => by unfold I64; omega)) ?_
        refine ow_ev ev_move ?_
        refine ow_nil (hL1 (nn1, (b_s0_j2_6, lb_s0_j2_7, lb_s0_j2_8, lb_s0_j2_9, lb_s0_j2_10, t26_1 + 1), (rb_s0_j2_7, rb_s0_j2_8, rb_s0_j2_9, rb_s0_j2_10)) _ _ (eqc hcont1 hM) (Nat.lt_succ_self _) ⟨rfl, rfl, rfl, rfl, trivial⟩ (fun w hm => by simp only [List.length_set]; exact hm.reord))
    ·
      replace hM := (ite_f hc9).symm.trans hM
      refine cw_exit (hK5 _ _ ?_); clear hK5
      dsimp only [route_search_extend_k1] at hM
      refine cw_seq fun K18 hK18 => ?_
      refine cw_region ?_
      refine ow_ev ev_assign ?_
      refine ow_nil (hK18 _ _ ?_); clear hK18
      obtain rfl := some_inj hM
      refine cw_ret (kw_retc1 (fun w hm => post_of (rb_s0_1_7, rb_s0_1_8, rb_s0_1_9, rb_s0_1_10) hm rfl))
theorem route_search_extend_spec_f (n : Nat) : ∀ (S : Soup) (w : World) (b_s0 : Nat) (s0 : Route_search) (r_s0 : GoRep.R Route_search) (y : Bool × Int × (List Step) × (List Bool) × (GMap Ment_Entry101) × (List Route)) (hM : route_search_extend_f n s0 = some y) (hP : Pre S [own b_s0 103 [.slice r_s0.1.1.a s0.l.Stations.length r_s0.1.1.cap, .slice r_s0.1.2.1.a s0.l.Points.length r_s0.1.2.1.cap, .slice r_s0.1.2.2.1.a s0.l.Sections.length r_s0.1.2.2.1.cap, .slice r_s0.1.2.2.2.a s0.l.Links.length r_s0.1.2.2.2.cap, .int .i64 s0.to, .int .i64 s0.budget, .int .i64 s0.units, .slice r_s0.2.1.a s0.sequence.length r_s0.2.1.cap, .slice r_s0.2.2.1.a s0.passed.length r_s0.2.2.1.cap, .map (some (sb r_s0.2.2.2.1.a)), .slice r_s0.2.2.2.2.a s0.results.length r_s0.2.2.2.2.cap], trow 40 r_s0.2.1 s0.sequence, trow 4 r_s0.2.2.1 s0.passed, mapc r_s0.2.2.2.1 s0.hops.l, trow 48 r_s0.2.2.2.2 s0.results] w) (h_s0_0 : GoRep.ok (α := List Str) S w r_s0.1.1 s0.l.Stations) (h_s0_1 : GoRep.ok (α := List Str) S w r_s0.1.2.1 s0.l.Points) (h_s0_2 : GoRep.ok (α := List Section) S w r_s0.1.2.2.1 s0.l.Sections) (h_s0_3 : GoRep.ok (α := List Link) S w r_s0.1.2.2.2 s0.l.Links), Calls Try.prog 55 #[.pointer (some ⟨b_s0, 0, none⟩)] w (Post (β := (SR (GoRep.R Step)) × (SR (GoRep.R Bool)) × (SR (GoRep.R Ment_Entry101)) × (SR (GoRep.R Route))) S [own b_s0 103 [.slice r_s0.1.1.a s0.l.Stations.length r_s0.1.1.cap, .slice r_s0.1.2.1.a s0.l.Points.length r_s0.1.2.1.cap, .slice r_s0.1.2.2.1.a s0.l.Sections.length r_s0.1.2.2.1.cap, .slice r_s0.1.2.2.2.a s0.l.Links.length r_s0.1.2.2.2.cap, .int .i64 s0.to, .int .i64 s0.budget, .int .i64 s0.units, .slice r_s0.2.1.a s0.sequence.length r_s0.2.1.cap, .slice r_s0.2.2.1.a s0.passed.length r_s0.2.2.1.cap, .map (some (sb r_s0.2.2.2.1.a)), .slice r_s0.2.2.2.2.a s0.results.length r_s0.2.2.2.2.cap], trow 40 r_s0.2.1 s0.sequence, trow 4 r_s0.2.2.1 s0.passed, mapc r_s0.2.2.2.1 s0.hops.l, trow 48 r_s0.2.2.2.2 s0.results] (fun g => .bool y.1) (fun g => [own b_s0 103 [.slice r_s0.1.1.a s0.l.Stations.length r_s0.1.1.cap, .slice r_s0.1.2.1.a s0.l.Points.length r_s0.1.2.1.cap, .slice r_s0.1.2.2.1.a s0.l.Sections.length r_s0.1.2.2.1.cap, .slice r_s0.1.2.2.2.a s0.l.Links.length r_s0.1.2.2.2.cap, .int .i64 s0.to, .int .i64 s0.budget, .int .i64 y.2.1, .slice g.1.a y.2.2.1.length g.1.cap, .slice g.2.1.a y.2.2.2.1.length g.2.1.cap, .map (some (sb g.2.2.1.a)), .slice g.2.2.2.a y.2.2.2.2.2.length g.2.2.2.cap], trow 40 g.1 y.2.2.1, trow 4 g.2.1 y.2.2.2.1, mapc g.2.2.1 y.2.2.2.2.1.l, trow 48 g.2.2.2 y.2.2.2.2.2]) w) := by
  induction n with
  | zero => intro S w b_s0 s0 r_s0 y hM hP h_s0_0 h_s0_1 h_s0_2 h_s0_3; exact absurd hM (by intro h; cases h)
  | succ n ih => intro S w b_s0 s0 r_s0 y hM hP h_s0_0 h_s0_1 h_s0_2 h_s0_3; exact route_search_extend_step (route_search_extend_f n) ih S w b_s0 s0 r_s0 y hM hP h_s0_0 h_s0_1 h_s0_2 h_s0_3
theorem route_search_extend_spec (S : Soup) (w : World) (b_s0 : Nat) (s0 : Route_search) (r_s0 : GoRep.R Route_search) (y : Bool × Int × (List Step) × (List Bool) × (GMap Ment_Entry101) × (List Route)) (hM : route_search_extend_m s0 = some y) (hP : Pre S [own b_s0 103 [.slice r_s0.1.1.a s0.l.Stations.length r_s0.1.1.cap, .slice r_s0.1.2.1.a s0.l.Points.length r_s0.1.2.1.cap, .slice r_s0.1.2.2.1.a s0.l.Sections.length r_s0.1.2.2.1.cap, .slice r_s0.1.2.2.2.a s0.l.Links.length r_s0.1.2.2.2.cap, .int .i64 s0.to, .int .i64 s0.budget, .int .i64 s0.units, .slice r_s0.2.1.a s0.sequence.length r_s0.2.1.cap, .slice r_s0.2.2.1.a s0.passed.length r_s0.2.2.1.cap, .map (some (sb r_s0.2.2.2.1.a)), .slice r_s0.2.2.2.2.a s0.results.length r_s0.2.2.2.2.cap], trow 40 r_s0.2.1 s0.sequence, trow 4 r_s0.2.2.1 s0.passed, mapc r_s0.2.2.2.1 s0.hops.l, trow 48 r_s0.2.2.2.2 s0.results] w) (h_s0_0 : GoRep.ok (α := List Str) S w r_s0.1.1 s0.l.Stations) (h_s0_1 : GoRep.ok (α := List Str) S w r_s0.1.2.1 s0.l.Points) (h_s0_2 : GoRep.ok (α := List Section) S w r_s0.1.2.2.1 s0.l.Sections) (h_s0_3 : GoRep.ok (α := List Link) S w r_s0.1.2.2.2 s0.l.Links) :
    Calls Try.prog 55 #[.pointer (some ⟨b_s0, 0, none⟩)] w (Post (β := (SR (GoRep.R Step)) × (SR (GoRep.R Bool)) × (SR (GoRep.R Ment_Entry101)) × (SR (GoRep.R Route))) S [own b_s0 103 [.slice r_s0.1.1.a s0.l.Stations.length r_s0.1.1.cap, .slice r_s0.1.2.1.a s0.l.Points.length r_s0.1.2.1.cap, .slice r_s0.1.2.2.1.a s0.l.Sections.length r_s0.1.2.2.1.cap, .slice r_s0.1.2.2.2.a s0.l.Links.length r_s0.1.2.2.2.cap, .int .i64 s0.to, .int .i64 s0.budget, .int .i64 s0.units, .slice r_s0.2.1.a s0.sequence.length r_s0.2.1.cap, .slice r_s0.2.2.1.a s0.passed.length r_s0.2.2.1.cap, .map (some (sb r_s0.2.2.2.1.a)), .slice r_s0.2.2.2.2.a s0.results.length r_s0.2.2.2.2.cap], trow 40 r_s0.2.1 s0.sequence, trow 4 r_s0.2.2.1 s0.passed, mapc r_s0.2.2.2.1 s0.hops.l, trow 48 r_s0.2.2.2.2 s0.results] (fun g => .bool y.1) (fun g => [own b_s0 103 [.slice r_s0.1.1.a s0.l.Stations.length r_s0.1.1.cap, .slice r_s0.1.2.1.a s0.l.Points.length r_s0.1.2.1.cap, .slice r_s0.1.2.2.1.a s0.l.Sections.length r_s0.1.2.2.1.cap, .slice r_s0.1.2.2.2.a s0.l.Links.length r_s0.1.2.2.2.cap, .int .i64 s0.to, .int .i64 s0.budget, .int .i64 y.2.1, .slice g.1.a y.2.2.1.length g.1.cap, .slice g.2.1.a y.2.2.2.1.length g.2.1.cap, .map (some (sb g.2.2.1.a)), .slice g.2.2.2.a y.2.2.2.2.2.length g.2.2.2.cap], trow 40 g.1 y.2.2.1, trow 4 g.2.1 y.2.2.2.1, mapc g.2.2.1 y.2.2.2.2.1.l, trow 48 g.2.2.2 y.2.2.2.2.2]) w) := route_search_extend_spec_f FUEL S w b_s0 s0 r_s0 y hM hP h_s0_0 h_s0_1 h_s0_2 h_s0_3

def route_Find_k2 (l0 : Layout) (to0 : Int) (budget0 : Int) (from0 : Step) : (List Bool) → Option ((List Route) × Int × Int) := fun ls_j2_8 =>
  (route_search_append_m (Route_search.mk l0 to0 budget0 0 ([] : List Step) ls_j2_8 (GMap.mk ([] : List Ment_Entry101)) ([] : List Route)) from0).bind fun y11 =>
  if (!(!y11.1)) then
  ((route_search_extend_m (Route_search.mk l0 to0 budget0 y11.2.1 y11.2.2.1 y11.2.2.2 (GMap.mk ([] : List Ment_Entry101)) ([] : List Route))).bind fun y15 =>
  if ((!y11.1) || (!y15.1)) then
    (some (([] : List Route), 0, 15))
  else
    (if decide ((y15.2.2.2.2.2.length : Int) = 0) then
      (some (([] : List Route), 0, 6))
    else
      (some (y15.2.2.2.2.2, y15.2.1, 0))))
  else
  (some (([] : List Route), 0, 15))
def route_Find_k1 (l0 : Layout) (to0 : Int) (budget0 : Int) (from0 : Step) : Bool → Option ((List Route) × Int × Int) := fun t16_j1 =>
  if t16_j1 then
    (some (([] : List Route), 0, 4))
  else
    ((mk (α := Bool) false (l0.Sections.length : Int)).bind fun m23 =>
    route_Find_k2 l0 to0 budget0 from0 m23)
def route_Find_m (l0 : Layout) (from0 : Step) (to0 : Int) (budget0 : Int) : Option ((List Route) × Int × Int) :=
  (layout_Check_m l0).bind fun y3 =>
  if decide (y3 ≠ 0) then
    (some (([] : List Route), 0, 1))
  else
    ((route_isStep_m l0 from0).bind fun y31 =>
    if (!y31) then
      (route_Find_k1 l0 to0 budget0 from0 (!y31))
    else
      (if decide (to0 < 0) then
        (route_Find_k1 l0 to0 budget0 from0 (decide (to0 < 0)))
      else
        (if decide ((l0.Sections.length : Int) ≤ to0) then
          (route_Find_k1 l0 to0 budget0 from0 (decide ((l0.Sections.length : Int) ≤ to0)))
        else
          (if decide (budget0 < 1) then
            (route_Find_k1 l0 to0 budget0 from0 (decide (budget0 < 1)))
          else
            (route_Find_k1 l0 to0 budget0 from0 (decide (1048576 < budget0)))))))
theorem route_Find_spec (S : Soup) (w : World) (l0 : Layout) (r_l0 : GoRep.R Layout) (from0 : Step) (to0 : Int) (budget0 : Int) (y : (List Route) × Int × Int) (hM : route_Find_m l0 from0 to0 budget0 = some y) (hS : ∀ k, S k → k < w.heap.size) (h_l0 : GoRep.ok S w r_l0 l0) :
    Calls Try.prog 33 #[.agg #[.slice r_l0.1.a l0.Stations.length r_l0.1.cap, .slice r_l0.2.1.a l0.Points.length r_l0.2.1.cap, .slice r_l0.2.2.1.a l0.Sections.length r_l0.2.2.1.cap, .slice r_l0.2.2.2.a l0.Links.length r_l0.2.2.2.cap], .agg #[.int .i64 from0.Section, .int .i64 from0.Dir], .int .i64 to0, .int .i64 budget0] w (Post (β := (GoRep.R (List Route))) S [] (fun g => .tuple #[.slice g.a y.1.length g.cap, .int .i64 y.2.1, .int .i64 y.2.2]) (fun g => [trow 48 g y.1]) w) := by
  refine calls_cw (args := [_, _, _, _]) Try.func33 rfl ((pre_nil hS).start |>.immP (α := List Str) (r := r_l0.1) (x := l0.Stations) h_l0.1|>.immP (α := List Str) (r := r_l0.2.1) (x := l0.Points) h_l0.2.1|>.immP (α := List Section) (r := r_l0.2.2.1) (x := l0.Sections) h_l0.2.2.1|>.immP (α := List Link) (r := r_l0.2.2.2) (x := l0.Links) h_l0.2.2.2) rfl ?_
  unfold route_Find_m at hM
  refine cw_seq fun K1 hK1 => ?_
  refine cw_region ?_
  refine ow_cons (st_box (l := [.slice r_l0.1.a l0.Stations.length r_l0.1.cap, .slice r_l0.2.1.a l0.Points.length r_l0.2.1.cap, .slice r_l0.2.2.1.a l0.Sections.length r_l0.2.2.1.cap, .slice r_l0.2.2.2.a l0.Links.length r_l0.2.2.2.cap]) (k := fun b1 => ?_))
  refine ow_cons (st_box (l := [.int .i64 from0.Section, .int .i64 from0.Dir]) (k := fun b2 => ?_))
  refine ow_ev ev_assign ?_
  refine ow_ev ev_assign ?_
  refine ow_ev ev_assign ?_
  refine ow_nil (hK1 _ _ ?_); clear hK1
  refine cw_seq fun K2 hK2 => ?_
  refine cw_block ?_
  refine cw_seq fun K3 hK3 => ?_
  refine cw_region ?_
  refine ow_ev (ev_load_all (b := b1)) ?_
  obtain ⟨y3, hy4, hM⟩ := bind_some hM
  refine ow_cons (st_callv (fun w hm => let ⟨S, hs⟩ := hm; layout_Check_spec _ w l0 r_l0 y3 hy4 (lend_lt hs) ⟨(Kn.lend (Kn.imm (α := List Str) (r := r_l0.1) (x := l0.Stations) (by repeat (first | exact Has.head | apply Has.tail))) hs), (Kn.lend (Kn.imm (α := List Str) (r := r_l0.2.1) (x := l0.Points) (by repeat (first | exact Has.head | apply Has.tail))) hs), (Kn.lend (Kn.imm (α := List Section) (r := r_l0.2.2.1) (x := l0.Sections) (by repeat (first | exact Has.head | apply Has.tail))) hs), (Kn.lend (Kn.imm (α := List Link) (r := r_l0.2.2.2) (x := l0.Links) (by repeat (first | exact Has.head | apply Has.tail))) hs)⟩) ?_)
  refine ow_ev ev_neq ?_
  refine ow_ev ev_assign ?_
  refine ow_nil (hK3 _ _ ?_); clear hK3
  refine cw_cond rfl (fun hc5 => ?_) (fun hc5 => ?_)
  ·
    replace hM := (ite_t hc5).symm.trans hM
    refine cw_seq fun K4 hK4 => ?_
    refine cw_region ?_
    refine ow_ev ev_assign ?_
    refine ow_ev ev_assign ?_
    refine ow_ev ev_assign ?_
    refine ow_nil (hK4 _ _ ?_); clear hK4
    refine cw_imp (fun w hm => hm.row_nil (α := Route) 48 (fun _ => (⟨none, 0, (fun _ => ())⟩ : SR (GoRep.R Step)))) ?_
    obtain rfl := some_inj hM
    refine cw_ret (kw_retc3 (fun w hm => post_of (⟨none, 0, (fun _ => (⟨none, 0, (fun _ => ())⟩ : SR (GoRep.R Step)))⟩ : SR (GoRep.R Route) ) hm rfl))
  ·
    replace hM := (ite_f hc5).symm.trans hM
    refine cw_cut (γ := Bool × Unit) (env := fun (t16_j1, _) => [(2, .v (.int .i64 to0)), (3, .v (.int .i64 budget0)), (4, .v (.pointer (some ⟨b1, 0, none⟩))), (5, .v (.pointer (some ⟨b2, 0, none⟩))), (16, .v (.bool t16_j1))]) (mem := fun (t16_j1, _) => [imm (α := (List Str)) r_l0.1 l0.Stations, imm (α := (List Str)) r_l0.2.1 l0.Points, imm (α := (List Section)) r_l0.2.2.1 l0.Sections, imm (α := (List Link)) r_l0.2.2.2 l0.Links, own b1 28 [.slice r_l0.1.a l0.Stations.length r_l0.1.cap, .slice r_l0.2.1.a l0.Points.length r_l0.2.1.cap, .slice r_l0.2.2.1.a l0.Sections.length r_l0.2.2.1.cap, .slice r_l0.2.2.2.a l0.Links.length r_l0.2.2.2.cap], own b2 40 [.int .i64 from0.Section, .int .i64 from0.Dir]]) (R := fun g => route_Find_k1 l0 to0 budget0 from0 g.1 = some y) ?_ ?_
    · intro KJ1 hJ1
      refine cw_seq fun K14 hK14 => ?_
      refine cw_region ?_
      refine ow_ev (ev_load_all (b := b1)) ?_
      refine ow_ev (ev_load_all (b := b2)) ?_
      obtain ⟨y31, hy32, hM⟩ := bind_some hM
      refine ow_cons (st_callv (fun w hm => let ⟨S, hs⟩ := hm; route_isStep_spec _ w l0 r_l0 from0 y31 hy32 (lend_lt hs) ⟨(Kn.lend (Kn.imm (α := List Str) (r := r_l0.1) (x := l0.Stations) (by repeat (first | exact Has.head | apply Has.tail))) hs), (Kn.lend (Kn.imm (α := List Str) (r := r_l0.2.1) (x := l0.Points) (by repeat (first | exact Has.head | apply Has.tail))) hs), (Kn.lend (Kn.imm (α := List Section) (r := r_l0.2.2.1) (x := l0.Sections) (by repeat (first | exact Has.head | apply Has.tail))) hs), (Kn.lend (Kn.imm (α := List Link) (r := r_l0.2.2.2) (x := l0.Links) (by repeat (first | exact Has.head | apply Has.tail))) hs)⟩) ?_)
      refine ow_ev ev_not ?_
      refine ow_ev ev_assign ?_
      refine ow_nil (hK14 _ _ ?_); clear hK14
      refine cw_cond rfl (fun hc33 => ?_) (fun hc33 => ?_)
      ·
        replace hM := (ite_t hc33).symm.trans hM
        refine cw_skip (hJ1 ((!y31), ()) _ _ hM ⟨rfl, rfl, rfl, rfl, rfl, trivial⟩ (fun w hm => hm.reord))
      ·
        replace hM := (ite_f hc33).symm.trans hM
        refine cw_seq fun K15 hK15 => ?_
        refine cw_region ?_
        refine ow_ev ev_move ?_
        refine ow_ev ev_lss ?_
        refine ow_ev ev_assign ?_
        refine ow_nil (hK15 _ _ ?_); clear hK15
        refine cw_cond rfl (fun hc34 => ?_) (fun hc34 => ?_)
        ·
          replace hM := (ite_t hc34).symm.trans hM
          refine cw_skip (hJ1 ((decide (to0 < 0)), ()) _ _ hM ⟨rfl, rfl, rfl, rfl, rfl, trivial⟩ (fun w hm => hm.reord))
        ·
          replace hM := (ite_f hc34).symm.trans hM
          refine cw_seq fun K16 hK16 => ?_
          refine cw_region ?_
          refine ow_ev ev_move ?_
          refine ow_ev (ev_field_addr 2) ?_
          refine ow_ev (ev_load_own (b := b1)) ?_
          refine ow_ev ev_len ?_
          refine ow_ev ev_geq ?_
          refine ow_ev ev_assign ?_
          refine ow_nil (hK16 _ _ ?_); clear hK16
          refine cw_cond rfl (fun hc35 => ?_) (fun hc35 => ?_)
          ·
            replace hM := (ite_t hc35).symm.trans hM
            refine cw_skip (hJ1 ((decide ((l0.Sections.length : Int) ≤ to0)), ()) _ _ hM ⟨rfl, rfl, rfl, rfl, rfl, trivial⟩ (fun w hm => hm.reord))
          ·
            replace hM := (ite_f hc35).symm.trans hM
            refine cw_seq fun K17 hK17 => ?_
            refine cw_region ?_
            refine ow_ev ev_move ?_
            refine ow_ev ev_lss ?_
            refine ow_ev ev_assign ?_
            refine ow_nil (hK17 _ _ ?_); clear hK17
            refine cw_cond rfl (fun hc36 => ?_) (fun hc36 => ?_)
            ·
              replace hM := (ite_t hc36).symm.trans hM
              refine cw_skip (hJ1 ((decide (budget0 < 1)), ()) _ _ hM ⟨rfl, rfl, rfl, rfl, rfl, trivial⟩ (fun w hm => hm.reord))
            ·
              replace hM := (ite_f hc36).symm.trans hM
              refine cw_region ?_
              refine ow_ev ev_move ?_
              refine ow_ev ev_gtr ?_
              refine ow_ev ev_assign ?_
              refine ow_nil (hJ1 ((decide (1048576 < budget0)), ()) _ _ hM ⟨rfl, rfl, rfl, rfl, rfl, trivial⟩ (fun w hm => hm.reord))
    ·
      clear hM
      intro g hM
      obtain ⟨t16_j1, ⟨⟩⟩ := g
      dsimp only at hM ⊢
      dsimp only [route_Find_k1] at hM
      refine cw_cond rfl (fun hc7 => ?_) (fun hc7 => ?_)
      ·
        replace hM := (ite_t hc7).symm.trans hM
        refine cw_seq fun K5 hK5 => ?_
        refine cw_region ?_
        refine ow_ev ev_assign ?_
        refine ow_ev ev_assign ?_
        refine ow_ev ev_assign ?_
        refine ow_nil (hK5 _ _ ?_); clear hK5
        refine cw_imp (fun w hm => hm.row_nil (α := Route) 48 (fun _ => (⟨none, 0, (fun _ => ())⟩ : SR (GoRep.R Step)))) ?_
        obtain rfl := some_inj hM
        refine cw_ret (kw_retc3 (fun w hm => post_of (⟨none, 0, (fun _ => (⟨none, 0, (fun _ => ())⟩ : SR (GoRep.R Step)))⟩ : SR (GoRep.R Route)  ) hm rfl))
      ·
        replace hM := (ite_f hc7).symm.trans hM
        refine cw_skip (hK2 _ _ ?_); clear hK2
        refine cw_cut (γ := (List Bool) × (Nat × (SR (GoRep.R Bool)) × (SR (GoRep.R Ment_Entry101)))) (env := fun (ls_j2_8, (bs_j2, rs_j2_8, rs_j2_9)) => [(5, .v (.pointer (some ⟨b2, 0, none⟩))), (11, .v (.pointer (some ⟨bs_j2, 0, none⟩)))]) (mem := fun (ls_j2_8, (bs_j2, rs_j2_8, rs_j2_9)) => [own b2 40 [.int .i64 from0.Section, .int .i64 from0.Dir], imm (α := (List Str)) r_l0.1 l0.Stations, imm (α := (List Str)) r_l0.2.1 l0.Points, imm (α := (List Section)) r_l0.2.2.1 l0.Sections, imm (α := (List Link)) r_l0.2.2.2 l0.Links, trow 4 rs_j2_8 ls_j2_8, mapc rs_j2_9 ([] : List Ment_Entry101), own bs_j2 103 [.slice r_l0.1.a l0.Stations.length r_l0.1.cap, .slice r_l0.2.1.a l0.Points.length r_l0.2.1.cap, .slice r_l0.2.2.1.a l0.Sections.length r_l0.2.2.1.cap, .slice r_l0.2.2.2.a l0.Links.length r_l0.2.2.2.cap, .int .i64 to0, .int .i64 budget0, .int .i64 0, .slice none 0 0, .slice rs_j2_8.a ls_j2_8.length rs_j2_8.cap, .map (some (sb rs_j2_9.a)), .slice none 0 0]]) (R := fun g => route_Find_k2 l0 to0 budget0 from0 g.1 = some y) ?_ ?_
        · intro KJ2 hJ2
          refine cw_region_any _ (List.Sublist.refl _) ?_
          refine aw_ev 0 rfl (ev_load_all (b := b1)) ?_
          refine aw_ev 1 rfl ev_move ?_
          refine aw_ev 2 rfl ev_move ?_
          refine aw_ev 3 rfl (ev_field_addr 2) ?_
          refine aw_ev 4 rfl (ev_load_own (b := b1)) ?_
          refine aw_ev 5 rfl ev_len ?_
          obtain ⟨m23, hm24, hM⟩ := bind_some hM
          refine aw_two 6 7 (⟨_, rfl, rfl, st_make (α := Bool) (e := 4) false () hm24 (fun _ _ => trivial) (fun r25 hr25 => ⟨fun w hm => hm.sub (by repeat (first | exact List.Sublist.refl _ | apply List.Sublist.cons_cons | apply List.Sublist.cons)), ?_⟩)⟩) (⟨_, rfl, rfl, st_makeMap (α := Ment_Entry101) (fun _ => (⟨none, 0, (fun _ => ())⟩ : SR (GoRep.R Hop))) (fun r26 => ⟨fun w hm => hm.sub (by repeat (first | exact List.Sublist.refl _ | apply List.Sublist.cons_cons | apply List.Sublist.cons)), ?_⟩)⟩)
          ·
            refine aw_one 7 rfl (st_makeMap (α := Ment_Entry101) (fun _ => (⟨none, 0, (fun _ => ())⟩ : SR (GoRep.R Hop))) (fun r27 => ⟨fun w hm => hm.sub (by repeat (first | exact List.Sublist.refl _ | apply List.Sublist.cons_cons | apply List.Sublist.cons)), ?_⟩))
            refine aw_ev 8 rfl (ev_build [.slice r_l0.1.a l0.Stations.length r_l0.1.cap, .slice r_l0.2.1.a l0.Points.length r_l0.2.1.cap, .slice r_l0.2.2.1.a l0.Sections.length r_l0.2.2.1.cap, .slice r_l0.2.2.2.a l0.Links.length r_l0.2.2.2.cap, .int .i64 to0, .int .i64 budget0, .int .i64 0, .slice none 0 0, .slice r25.a m23.length r25.cap, .map (some (sb r27.a)), .slice none 0 0]) ?_
            refine aw_one 9 rfl (st_box (l := [.slice r_l0.1.a l0.Stations.length r_l0.1.cap, .slice r_l0.2.1.a l0.Points.length r_l0.2.1.cap, .slice r_l0.2.2.1.a l0.Sections.length r_l0.2.2.1.cap, .slice r_l0.2.2.2.a l0.Links.length r_l0.2.2.2.cap, .int .i64 to0, .int .i64 budget0, .int .i64 0, .slice none 0 0, .slice r25.a m23.length r25.cap, .map (some (sb r27.a)), .slice none 0 0]) (k := fun b28 => ⟨fun w hm => hm.sub (by repeat (first | exact List.Sublist.refl _ | apply List.Sublist.cons_cons | apply List.Sublist.cons)), ?_⟩))
            refine aw_ev 10 rfl ev_assign ?_
            refine aw_done (hJ2 (m23, (b28, r25, r27)) _ _ hM ⟨rfl, rfl, trivial⟩ (fun w hm => by simp only [List.length_set]; exact hm.reord))
          ·
            refine aw_one 6 rfl (st_make (α := Bool) (e := 4) false () hm24 (fun _ _ => trivial) (fun r29 hr29 => ⟨fun w hm => hm.sub (by repeat (first | exact List.Sublist.refl _ | apply List.Sublist.cons_cons | apply List.Sublist.cons)), ?_⟩))
            refine aw_ev 8 rfl (ev_build [.slice r_l0.1.a l0.Stations.length r_l0.1.cap, .slice r_l0.2.1.a l0.Points.length r_l0.2.1.cap, .slice r_l0.2.2.1.a l0.Sections.length r_l0.2.2.1.cap, .slice r_l0.2.2.2.a l0.Links.length r_l0.2.2.2.cap, .int .i64 to0, .int .i64 budget0, .int .i64 0, .slice none 0 0, .slice r29.a m23.length r29.cap, .map (some (sb r26.a)), .slice none 0 0]) ?_
            refine aw_one 9 rfl (st_box (l := [.slice r_l0.1.a l0.Stations.length r_l0.1.cap, .slice r_l0.2.1.a l0.Points.length r_l0.2.1.cap, .slice r_l0.2.2.1.a l0.Sections.length r_l0.2.2.1.cap, .slice r_l0.2.2.2.a l0.Links.length r_l0.2.2.2.cap, .int .i64 to0, .int .i64 budget0, .int .i64 0, .slice none 0 0, .slice r29.a m23.length r29.cap, .map (some (sb r26.a)), .slice none 0 0]) (k := fun b30 => ⟨fun w hm => hm.sub (by repeat (first | exact List.Sublist.refl _ | apply List.Sublist.cons_cons | apply List.Sublist.cons)), ?_⟩))
            refine aw_ev 10 rfl ev_assign ?_
            refine aw_done (hJ2 (m23, (b30, r29, r26)) _ _ hM ⟨rfl, rfl, trivial⟩ (fun w hm => by simp only [List.length_set]; exact hm.reord))
        ·
          clear hM
          intro g hM
          obtain ⟨ls_j2_8, ⟨bs_j2, rs_j2_8, rs_j2_9⟩⟩ := g
          dsimp only at hM ⊢
          dsimp only [route_Find_k2] at hM
          refine cw_seq fun K6 hK6 => ?_
          refine cw_seq fun K7 hK7 => ?_
          refine cw_region ?_
          refine ow_ev ev_move ?_
          refine ow_ev (ev_load_all (b := b2)) ?_
          refine ow_imp (fun w hm => hm.row_nil (α := Step) 40 (fun _ => ())) ?_
          refine ow_imp (fun w hm => hm.row_nil (α := Route) 48 (fun _ => (⟨none, 0, (fun _ => ())⟩ : SR (GoRep.R Step)))) ?_
          obtain ⟨y11, hy12, hM⟩ := bind_some hM
          refine ow_cons (st_callS (by repeat (first | exact SelL.nil | (apply SelL.cons; · (repeat (first | exact Sel.head | apply Sel.tail))))) (fun S w hs hP => route_search_append_spec _ w bs_j2 (Route_search.mk l0 to0 budget0 0 ([] : List Step) ls_j2_8 (GMap.mk ([] : List Ment_Entry101)) ([] : List Route)) (r_l0, (⟨none, 0, (fun _ => ())⟩ : SR (GoRep.R Step)   ), rs_j2_8, rs_j2_9, (⟨none, 0, (fun _ => (⟨none, 0, (fun _ => ())⟩ : SR (GoRep.R Step)))⟩ : SR (GoRep.R Route)    )) from0 y11 hy12 hP ((Sk.imm (α := List Str) (r := r_l0.1) (x := l0.Stations) (by repeat (first | exact Has.head | apply Has.tail))) S w hs) ((Sk.imm (α := List Str) (r := r_l0.2.1) (x := l0.Points) (by repeat (first | exact Has.head | apply Has.tail))) S w hs) ((Sk.imm (α := List Section) (r := r_l0.2.2.1) (x := l0.Sections) (by repeat (first | exact Has.head | apply Has.tail))) S w hs) ((Sk.imm (α := List Link) (r := r_l0.2.2.2) (x := l0.Links) (by repeat (first | exact Has.head | apply Has.tail))) S w hs))  (fun r13 => ?_))
          dsimp only [List.cons_append, List.nil_append]
          refine ow_ev ev_not ?_
          refine ow_ev ev_move ?_
          refine ow_evg rfl ev_move ?_
          refine ow_cases (!(!y11.1)) (fun hg14 => ?_) (fun hg14 => ?_)
          ·
            replace hM := (ite_t hg14).symm.trans hM
            refine ow_know 47 hg14 rfl ?_
            refine ow_gtrue rfl hg14 ?_
            obtain ⟨y15, hy16, hM⟩ := bind_some hM
            refine ow_cons (st_callS (by repeat (first | exact SelL.nil | (apply SelL.cons; · (repeat (first | exact Sel.head | apply Sel.tail))))) (fun S w hs hP => route_search_extend_spec _ w bs_j2 (Route_search.mk l0 to0 budget0 y11.2.1 y11.2.2.1 y11.2.2.2 (GMap.mk ([] : List Ment_Entry101)) ([] : List Route)) (r_l0, r13.1, r13.2, rs_j2_9, (⟨none, 0, (fun _ => (⟨none, 0, (fun _ => ())⟩ : SR (GoRep.R Step)))⟩ : SR (GoRep.R Route)    )) y15 hy16 hP ((Sk.imm (α := List Str) (r := r_l0.1) (x := l0.Stations) (by repeat (first | exact Has.head | apply Has.tail))) S w hs) ((Sk.imm (α := List Str) (r := r_l0.2.1) (x := l0.Points) (by repeat (first | exact Has.head | apply Has.tail))) S w hs) ((Sk.imm (α := List Section) (r := r_l0.2.2.1) (x := l0.Sections) (by repeat (first | exact Has.head | apply Has.tail))) S w hs) ((Sk.imm (α := List Link) (r := r_l0.2.2.2) (x := l0.Links) (by repeat (first | exact Has.head | apply Has.tail))) S w hs))  (fun r17 => ?_))
            dsimp only [List.cons_append, List.nil_append]
            refine ow_gtrue rfl hg14 ?_
            refine ow_ev ev_not ?_
            refine ow_ev ev_or ?_
            refine ow_nil (hK7 _ _ ?_); clear hK7
            refine cw_cond rfl (fun hc18 => ?_) (fun hc18 => ?_)
            ·
              replace hM := (ite_t hc18).symm.trans hM
              refine cw_seq fun K8 hK8 => ?_
              refine cw_region ?_
              refine ow_ev ev_assign ?_
              refine ow_ev ev_assign ?_
              refine ow_ev ev_assign ?_
              refine ow_nil (hK8 _ _ ?_); clear hK8
              refine cw_imp (fun w hm => hm.row_nil (α := Route) 48 (fun _ => (⟨none, 0, (fun _ => ())⟩ : SR (GoRep.R Step)))) ?_
              obtain rfl := some_inj hM
              refine cw_ret (kw_retc3 (fun w hm => post_of (⟨none, 0, (fun _ => (⟨none, 0, (fun _ => ())⟩ : SR (GoRep.R Step)))⟩ : SR (GoRep.R Route)     ) hm rfl))
            ·
              replace hM := (ite_f hc18).symm.trans hM
              refine cw_skip (hK6 _ _ ?_); clear hK6
              refine cw_seq fun K9 hK9 => ?_
              refine cw_seq fun K10 hK10 => ?_
              refine cw_region ?_
              refine ow_ev ev_move ?_
              refine ow_ev ev_nilcheck ?_
              refine ow_ev (ev_field_addr 10) ?_
              refine ow_ev (ev_load_own (b := bs_j2)) ?_
              refine ow_ev ev_len ?_
              refine ow_ev ev_eql ?_
              refine ow_nil (hK10 _ _ ?_); clear hK10
              refine cw_cond rfl (fun hc20 => ?_) (fun hc20 => ?_)
              ·
                replace hM := (ite_t hc20).symm.trans hM
                refine cw_seq fun K11 hK11 => ?_
                refine cw_region ?_
                refine ow_ev ev_assign ?_
                refine ow_ev ev_assign ?_
                refine ow_ev ev_assign ?_
                refine ow_nil (hK11 _ _ ?_); clear hK11
                refine cw_imp (fun w hm => hm.row_nil (α := Route) 48 (fun _ => (⟨none, 0, (fun _ => ())⟩ : SR (GoRep.R Step)))) ?_
                obtain rfl := some_inj hM
                refine cw_ret (kw_retc3 (fun w hm => post_of (⟨none, 0, (fun _ => (⟨none, 0, (fun _ => ())⟩ : SR (GoRep.R Step)))⟩ : SR (GoRep.R Route)      ) hm rfl))
              ·
                replace hM := (ite_f hc20).symm.trans hM
                refine cw_skip (hK9 _ _ ?_); clear hK9
                refine cw_seq fun K12 hK12 => ?_
                refine cw_region_any _ (List.Sublist.refl _) ?_
                refine aw_ev 0 rfl ev_move ?_
                refine aw_ev 1 rfl ev_nilcheck ?_
                refine aw_ev 2 rfl (ev_field_addr 10) ?_
                refine aw_ev 3 rfl (ev_load_own (b := bs_j2)) ?_
                refine aw_ev 4 rfl ev_move ?_
                refine aw_ev 5 rfl ev_nilcheck ?_
                refine aw_ev 6 rfl (ev_field_addr 6) ?_
                refine aw_ev 7 rfl (ev_load_own (b := bs_j2)) ?_
                refine aw_ev 8 rfl ev_assign ?_
                refine aw_ev 9 rfl ev_assign ?_
                refine aw_ev 10 rfl ev_assign ?_
                refine aw_done (hK12 _ _ ?_); clear hK12
                obtain rfl := some_inj hM
                refine cw_ret (kw_retc3 (fun w hm => post_of r17.2.2.2 hm rfl))
          ·
            replace hM := (ite_f hg14).symm.trans hM
            refine ow_gskip rfl hg14 ?_
            refine ow_gskip rfl hg14 ?_
            refine ow_ev (ev_orT (bnT hg14)) ?_
            refine ow_nil (hK7 _ _ ?_); clear hK7
            refine cw_cond_true rfl rfl ?_
            refine cw_seq fun K13 hK13 => ?_
            refine cw_region ?_
            refine ow_ev ev_assign ?_
            refine ow_ev ev_assign ?_
            refine ow_ev ev_assign ?_
            refine ow_nil (hK13 _ _ ?_); clear hK13
            refine cw_imp (fun w hm => hm.row_nil (α := Route) 48 (fun _ => (⟨none, 0, (fun _ => ())⟩ : SR (GoRep.R Step)))) ?_
            obtain rfl := some_inj hM
            refine cw_ret (kw_retc3 (fun w hm => post_of (⟨none, 0, (fun _ => (⟨none, 0, (fun _ => ())⟩ : SR (GoRep.R Step)))⟩ : SR (GoRep.R Route)       ) hm rfl))

end Go.Proofs.Ytnihhidbiepnhaa
