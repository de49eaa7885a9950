/- Models of functions, and that the code computes them. -/
import Derived.Test.YtnihhidbiepnhaaFh
import Derived.Test.YtnihhidbiepnhaaRd
namespace Go.Proofs.Ytnihhidbiepnhaa
open Go.Dc Go.RowKit
set_option maxRecDepth 10000
set_option linter.unusedVariables false
def route_search_append_m (s0 : Route_search) (step0 : Step) : Option (Bool × Int × (List Step) × (List Bool)) :=
  chk (i64b (s0.units + 1)) <|
  chk (decide ((s0.sequence.length + ([step0] : List Step).length) * 16 ≤ 140737488355328)) <|
  (idx s0.passed step0.Section).bind fun x6 =>
  some (decide ((s0.units + 1) ≤ s0.budget), (s0.units + 1), (s0.sequence ++ ([step0] : List Step)), (s0.passed.set step0.Section.toNat true))
theorem route_search_append_spec (S : Soup) (w : World) (b_s0 : Nat) (s0 : Route_search) (r_s0 : GoRep.R Route_search) (step0 : Step) (y : Bool × Int × (List Step) × (List Bool)) (hM : route_search_append_m s0 step0 = some y) (hP : Pre S [own b_s0 103 [.slice r_s0.1.1.a s0.l.Stations.length r_s0.1.1.cap, .slice r_s0.1.2.1.a s0.l.Points.length r_s0.1.2.1.cap, .slice r_s0.1.2.2.1.a s0.l.Sections.length r_s0.1.2.2.1.cap, .slice r_s0.1.2.2.2.a s0.l.Links.length r_s0.1.2.2.2.cap, .int .i64 s0.to, .int .i64 s0.budget, .int .i64 s0.units, .slice r_s0.2.1.a s0.sequence.length r_s0.2.1.cap, .slice r_s0.2.2.1.a s0.passed.length r_s0.2.2.1.cap, .map (some (sb r_s0.2.2.2.1.a)), .slice r_s0.2.2.2.2.a s0.results.length r_s0.2.2.2.2.cap], trow 40 r_s0.2.1 s0.sequence, trow 4 r_s0.2.2.1 s0.passed, mapc r_s0.2.2.2.1 s0.hops.l, trow 48 r_s0.2.2.2.2 s0.results] w) (h_s0_0 : GoRep.ok (α := List Str) S w r_s0.1.1 s0.l.Stations) (h_s0_1 : GoRep.ok (α := List Str) S w r_s0.1.2.1 s0.l.Points) (h_s0_2 : GoRep.ok (α := List Section) S w r_s0.1.2.2.1 s0.l.Sections) (h_s0_3 : GoRep.ok (α := List Link) S w r_s0.1.2.2.2 s0.l.Links) :
    Calls Try.prog 54 #[.pointer (some ⟨b_s0, 0, none⟩), .agg #[.int .i64 step0.Section, .int .i64 step0.Dir]] w (Post (β := (SR (GoRep.R Step)) × (SR (GoRep.R Bool))) S [own b_s0 103 [.slice r_s0.1.1.a s0.l.Stations.length r_s0.1.1.cap, .slice r_s0.1.2.1.a s0.l.Points.length r_s0.1.2.1.cap, .slice r_s0.1.2.2.1.a s0.l.Sections.length r_s0.1.2.2.1.cap, .slice r_s0.1.2.2.2.a s0.l.Links.length r_s0.1.2.2.2.cap, .int .i64 s0.to, .int .i64 s0.budget, .int .i64 s0.units, .slice r_s0.2.1.a s0.sequence.length r_s0.2.1.cap, .slice r_s0.2.2.1.a s0.passed.length r_s0.2.2.1.cap, .map (some (sb r_s0.2.2.2.1.a)), .slice r_s0.2.2.2.2.a s0.results.length r_s0.2.2.2.2.cap], trow 40 r_s0.2.1 s0.sequence, trow 4 r_s0.2.2.1 s0.passed, mapc r_s0.2.2.2.1 s0.hops.l, trow 48 r_s0.2.2.2.2 s0.results] (fun g => .bool y.1) (fun g => [own b_s0 103 [.slice r_s0.1.1.a s0.l.Stations.length r_s0.1.1.cap, .slice r_s0.1.2.1.a s0.l.Points.length r_s0.1.2.1.cap, .slice r_s0.1.2.2.1.a s0.l.Sections.length r_s0.1.2.2.1.cap, .slice r_s0.1.2.2.2.a s0.l.Links.length r_s0.1.2.2.2.cap, .int .i64 s0.to, .int .i64 s0.budget, .int .i64 y.2.1, .slice g.1.a y.2.2.1.length g.1.cap, .slice g.2.a y.2.2.2.length g.2.cap, .map (some (sb r_s0.2.2.2.1.a)), .slice r_s0.2.2.2.2.a s0.results.length r_s0.2.2.2.2.cap], trow 40 g.1 y.2.2.1, trow 4 g.2 y.2.2.2, mapc r_s0.2.2.2.1 s0.hops.l, trow 48 r_s0.2.2.2.2 s0.results]) w) := by
  refine calls_cw (args := [_, _]) Try.func54 rfl (hP.start |>.immP (α := List Str) (r := r_s0.1.1) (x := s0.l.Stations) h_s0_0|>.immP (α := List Str) (r := r_s0.1.2.1) (x := s0.l.Points) h_s0_1|>.immP (α := List Section) (r := r_s0.1.2.2.1) (x := s0.l.Sections) h_s0_2|>.immP (α := List Link) (r := r_s0.1.2.2.2) (x := s0.l.Links) h_s0_3) rfl ?_
  unfold route_search_append_m at hM
  refine cw_seq fun K1 hK1 => ?_
  refine cw_region ?_
  refine ow_cons (st_box (l := [.int .i64 step0.Section, .int .i64 step0.Dir]) (k := fun b1 => ?_))
  refine ow_ev ev_assign ?_
  refine ow_nil (hK1 _ _ ?_); clear hK1
  refine cw_seq fun K2 hK2 => ?_
  refine cw_region ?_
  refine ow_ev ev_move ?_
  refine ow_ev ev_nilcheck ?_
  refine ow_ev (ev_field_addr 6) ?_
  refine ow_ev (ev_load_own (b := b_s0)) ?_
  obtain ⟨hI2, hM⟩ := chk_some hM
  refine ow_ev (ev_add (hr := fun hg => i64b_I64 hI2)) ?_
  refine ow_ev ev_nilcheck ?_
  refine ow_ev (ev_field_addr 6) ?_
  refine ow_cons (st_store_own (b := b_s0) (l' := [.slice r_s0.1.1.a s0.l.Stations.length r_s0.1.1.cap, .slice r_s0.1.2.1.a s0.l.Points.length r_s0.1.2.1.cap, .slice r_s0.1.2.2.1.a s0.l.Sections.length r_s0.1.2.2.1.cap, .slice r_s0.1.2.2.2.a s0.l.Links.length r_s0.1.2.2.2.cap, .int .i64 s0.to, .int .i64 s0.budget, .int .i64 (s0.units + 1), .slice r_s0.2.1.a s0.sequence.length r_s0.2.1.cap, .slice r_s0.2.2.1.a s0.passed.length r_s0.2.2.1.cap, .map (some (sb r_s0.2.2.2.1.a)), .slice r_s0.2.2.2.2.a s0.results.length r_s0.2.2.2.2.cap]) (k := ?_))
  refine ow_nil (hK2 _ _ ?_); clear hK2
  refine cw_seq fun K3 hK3 => ?_
  refine cw_region_z [own b1 40 [.int .i64 step0.Section, .int .i64 step0.Dir], imm (α := (List Link)) r_s0.1.2.2.2 s0.l.Links, imm (α := (List Section)) r_s0.1.2.2.1 s0.l.Sections, imm (α := (List Str)) r_s0.1.2.1 s0.l.Points, imm (α := (List Str)) r_s0.1.1 s0.l.Stations, own b_s0 103 [.slice r_s0.1.1.a s0.l.Stations.length r_s0.1.1.cap, .slice r_s0.1.2.1.a s0.l.Points.length r_s0.1.2.1.cap, .slice r_s0.1.2.2.1.a s0.l.Sections.length r_s0.1.2.2.1.cap, .slice r_s0.1.2.2.2.a s0.l.Links.length r_s0.1.2.2.2.cap, .int .i64 s0.to, .int .i64 s0.budget, .int .i64 (s0.units + 1), .slice r_s0.2.1.a s0.sequence.length r_s0.2.1.cap, .slice r_s0.2.2.1.a s0.passed.length r_s0.2.2.1.cap, .map (some (sb r_s0.2.2.2.1.a)), .slice r_s0.2.2.2.2.a s0.results.length r_s0.2.2.2.2.cap], trow 4 r_s0.2.2.1 s0.passed, mapc r_s0.2.2.2.1 s0.hops.l, trow 48 r_s0.2.2.2.2 s0.results] 10 ?_
  refine az_ev 0 rfl ev_move ?_
  refine az_ev 1 rfl ev_move ?_
  refine az_ev 2 rfl ev_nilcheck ?_
  refine az_ev 3 rfl (ev_field_addr 7) ?_
  refine az_ev 4 rfl (ev_load_own (b := b_s0)) ?_
  refine az_ev 5 rfl (ev_load_all (b := b1)) ?_
  refine az_one 6 rfl (st_bslice (α := Step) 40 (fun _ => ()) ([step0] : List Step) (OkL.flat (fun _ _ _ _ => trivial)) (fun r3 => ⟨fun w hm => hm.sub (by repeat (first | exact List.Sublist.refl _ | apply List.Sublist.cons_cons | apply List.Sublist.cons)), ?_⟩))
  obtain ⟨hb4, hM⟩ := chk_some hM
  refine az_one 7 rfl (st_append (r := r_s0.2.1) (r2 := r3) (by intro r'; repeat (first | exact Upd.head | apply Upd.tail)) (Kn.trow (e := 40) (r := r3) (by repeat (first | exact Has.head | apply Has.tail))) (OkL.flat (fun _ _ _ _ => trivial)) (of_decide_eq_true hb4) (fun r5 => ⟨fun w hm => hm.sub (by repeat (first | exact List.Sublist.refl _ | apply List.Sublist.cons_cons | apply List.Sublist.cons)), ?_⟩))
  refine az_ev 8 rfl ev_nilcheck ?_
  refine az_ev 9 rfl (ev_field_addr 7) ?_
  refine az_last rfl (st_store_own (b := b_s0) (l' := [.slice r_s0.1.1.a s0.l.Stations.length r_s0.1.1.cap, .slice r_s0.1.2.1.a s0.l.Points.length r_s0.1.2.1.cap, .slice r_s0.1.2.2.1.a s0.l.Sections.length r_s0.1.2.2.1.cap, .slice r_s0.1.2.2.2.a s0.l.Links.length r_s0.1.2.2.2.cap, .int .i64 s0.to, .int .i64 s0.budget, .int .i64 (s0.units + 1), .slice r5.a ((s0.sequence ++ ([step0] : List Step)).length) r5.cap, .slice r_s0.2.2.1.a s0.passed.length r_s0.2.2.1.cap, .map (some (sb r_s0.2.2.2.1.a)), .slice r_s0.2.2.2.2.a s0.results.length r_s0.2.2.2.2.cap]) (k := ?_))
  refine az_done (hK3 _ _ ?_); clear hK3
  refine cw_seq fun K4 hK4 => ?_
  refine cw_region_z [trow 40 r3 ([step0] : List Step), own b1 40 [.int .i64 step0.Section, .int .i64 step0.Dir], imm (α := (List Link)) r_s0.1.2.2.2 s0.l.Links, imm (α := (List Section)) r_s0.1.2.2.1 s0.l.Sections, imm (α := (List Str)) r_s0.1.2.1 s0.l.Points, imm (α := (List Str)) r_s0.1.1 s0.l.Stations, own b_s0 103 [.slice r_s0.1.1.a s0.l.Stations.length r_s0.1.1.cap, .slice r_s0.1.2.1.a s0.l.Points.length r_s0.1.2.1.cap, .slice r_s0.1.2.2.1.a s0.l.Sections.length r_s0.1.2.2.1.cap, .slice r_s0.1.2.2.2.a s0.l.Links.length r_s0.1.2.2.2.cap, .int .i64 s0.to, .int .i64 s0.budget, .int .i64 (s0.units + 1), .slice r5.a ((s0.sequence ++ ([step0] : List Step)).length) r5.cap, .slice r_s0.2.2.1.a s0.passed.length r_s0.2.2.1.cap, .map (some (sb r_s0.2.2.2.1.a)), .slice r_s0.2.2.2.2.a s0.results.length r_s0.2.2.2.2.cap], trow 40 r5 (s0.sequence ++ ([step0] : List Step)), trow 4 r_s0.2.2.1 s0.passed, mapc r_s0.2.2.2.1 s0.hops.l, trow 48 r_s0.2.2.2.2 s0.results] 7 ?_
  refine az_ev 0 rfl ev_move ?_
  refine az_ev 1 rfl ev_nilcheck ?_
  refine az_ev 2 rfl (ev_field_addr 8) ?_
  refine az_ev 3 rfl (ev_load_own (b := b_s0)) ?_
  refine az_ev 4 rfl (ev_field_addr 0) ?_
  refine az_ev 5 rfl (ev_load_own (b := b1)) ?_
  obtain ⟨x6, hx7, hM⟩ := bind_some hM
  refine az_ev 6 rfl (ev_idx (xs := s0.passed) 1 (Kn.trow (e := 4) (r := r_s0.2.2.1) (by repeat (first | exact Has.head | apply Has.tail))) (fun hg => let h := idx_some hx7; ⟨h.1, h.2.1⟩)) ?_
  refine az_last rfl (st_set (r := r_s0.2.2.1) (i := step0.Section) (xs := s0.passed) (u := x6) (vs := [.bool true]) 0 true hx7 rfl (fun _ _ h => h) (by repeat (first | exact Upd.head | apply Upd.tail)) ?_)
  refine az_done (hK4 _ _ ?_); clear hK4
  refine cw_seq fun K5 hK5 => ?_
  refine cw_region_any _ (List.Sublist.refl _) ?_
  refine aw_ev 0 rfl ev_move ?_
  refine aw_ev 1 rfl ev_nilcheck ?_
  refine aw_ev 2 rfl (ev_field_addr 6) ?_
  refine aw_ev 3 rfl (ev_load_own (b := b_s0)) ?_
  refine aw_ev 4 rfl ev_move ?_
  refine aw_ev 5 rfl ev_nilcheck ?_
  refine aw_ev 6 rfl (ev_field_addr 5) ?_
  refine aw_ev 7 rfl (ev_load_own (b := b_s0)) ?_
  refine aw_ev 8 rfl ev_leq ?_
  refine aw_ev 9 rfl ev_assign ?_
  refine aw_done (hK5 _ _ ?_); clear hK5
  obtain rfl := some_inj hM
  refine cw_ret (kw_retc1 (fun w hm => by simp only [List.length_set]; exact post_of (r5, r_s0.2.2.1) hm rfl))

def route_search_remove_m (s0 : Route_search) : Option ((List Step) × (List Bool)) :=
  chk (i64b ((s0.sequence.length : Int) - 1)) <|
  (idx s0.sequence ((s0.sequence.length : Int) - 1)).bind fun x2 =>
  (idx s0.passed x2.Section).bind fun x4 =>
  (sub s0.sequence 0 ((s0.sequence.length : Int) - 1)).bind fun l6 =>
  some (l6, (s0.passed.set x2.Section.toNat false))
theorem route_search_remove_spec (S : Soup) (w : World) (b_s0 : Nat) (s0 : Route_search) (r_s0 : GoRep.R Route_search) (y : (List Step) × (List Bool)) (hM : route_search_remove_m s0 = some y) (hP : Pre S [own b_s0 103 [.slice r_s0.1.1.a s0.l.Stations.length r_s0.1.1.cap, .slice r_s0.1.2.1.a s0.l.Points.length r_s0.1.2.1.cap, .slice r_s0.1.2.2.1.a s0.l.Sections.length r_s0.1.2.2.1.cap, .slice r_s0.1.2.2.2.a s0.l.Links.length r_s0.1.2.2.2.cap, .int .i64 s0.to, .int .i64 s0.budget, .int .i64 s0.units, .slice r_s0.2.1.a s0.sequence.length r_s0.2.1.cap, .slice r_s0.2.2.1.a s0.passed.length r_s0.2.2.1.cap, .map (some (sb r_s0.2.2.2.1.a)), .slice r_s0.2.2.2.2.a s0.results.length r_s0.2.2.2.2.cap], trow 40 r_s0.2.1 s0.sequence, trow 4 r_s0.2.2.1 s0.passed, mapc r_s0.2.2.2.1 s0.hops.l, trow 48 r_s0.2.2.2.2 s0.results] w) (h_s0_0 : GoRep.ok (α := List Str) S w r_s0.1.1 s0.l.Stations) (h_s0_1 : GoRep.ok (α := List Str) S w r_s0.1.2.1 s0.l.Points) (h_s0_2 : GoRep.ok (α := List Section) S w r_s0.1.2.2.1 s0.l.Sections) (h_s0_3 : GoRep.ok (α := List Link) S w r_s0.1.2.2.2 s0.l.Links) :
    Calls Try.prog 83 #[.pointer (some ⟨b_s0, 0, none⟩)] w (Post (β := (SR (GoRep.R Step)) × (SR (GoRep.R Bool))) S [own b_s0 103 [.slice r_s0.1.1.a s0.l.Stations.length r_s0.1.1.cap, .slice r_s0.1.2.1.a s0.l.Points.length r_s0.1.2.1.cap, .slice r_s0.1.2.2.1.a s0.l.Sections.length r_s0.1.2.2.1.cap, .slice r_s0.1.2.2.2.a s0.l.Links.length r_s0.1.2.2.2.cap, .int .i64 s0.to, .int .i64 s0.budget, .int .i64 s0.units, .slice r_s0.2.1.a s0.sequence.length r_s0.2.1.cap, .slice r_s0.2.2.1.a s0.passed.length r_s0.2.2.1.cap, .map (some (sb r_s0.2.2.2.1.a)), .slice r_s0.2.2.2.2.a s0.results.length r_s0.2.2.2.2.cap], trow 40 r_s0.2.1 s0.sequence, trow 4 r_s0.2.2.1 s0.passed, mapc r_s0.2.2.2.1 s0.hops.l, trow 48 r_s0.2.2.2.2 s0.results] (fun g => .tuple #[]) (fun g => [own b_s0 103 [.slice r_s0.1.1.a s0.l.Stations.length r_s0.1.1.cap, .slice r_s0.1.2.1.a s0.l.Points.length r_s0.1.2.1.cap, .slice r_s0.1.2.2.1.a s0.l.Sections.length r_s0.1.2.2.1.cap, .slice r_s0.1.2.2.2.a s0.l.Links.length r_s0.1.2.2.2.cap, .int .i64 s0.to, .int .i64 s0.budget, .int .i64 s0.units, .slice g.1.a y.1.length g.1.cap, .slice g.2.a y.2.length g.2.cap, .map (some (sb r_s0.2.2.2.1.a)), .slice r_s0.2.2.2.2.a s0.results.length r_s0.2.2.2.2.cap], trow 40 g.1 y.1, trow 4 g.2 y.2, mapc r_s0.2.2.2.1 s0.hops.l, trow 48 r_s0.2.2.2.2 s0.results]) w) := by
  refine calls_cw (args := [_]) Try.func83 rfl (hP.start |>.immP (α := List Str) (r := r_s0.1.1) (x := s0.l.Stations) h_s0_0|>.immP (α := List Str) (r := r_s0.1.2.1) (x := s0.l.Points) h_s0_1|>.immP (α := List Section) (r := r_s0.1.2.2.1) (x := s0.l.Sections) h_s0_2|>.immP (α := List Link) (r := r_s0.1.2.2.2) (x := s0.l.Links) h_s0_3) rfl ?_
  unfold route_search_remove_m at hM
  refine cw_seq fun K1 hK1 => ?_
  refine cw_region ?_
  refine ow_ev ev_move ?_
  refine ow_ev ev_nilcheck ?_
  refine ow_ev (ev_field_addr 7) ?_
  refine ow_ev (ev_load_own (b := b_s0)) ?_
  refine ow_ev ev_len ?_
  obtain ⟨hI1, hM⟩ := chk_some hM
  refine ow_ev (ev_sub (hr := fun hg => i64b_I64 hI1)) ?_
  refine ow_ev ev_assign ?_
  refine ow_nil (hK1 _ _ ?_); clear hK1
  refine cw_seq fun K2 hK2 => ?_
  refine cw_region_z [imm (α := (List Link)) r_s0.1.2.2.2 s0.l.Links, imm (α := (List Section)) r_s0.1.2.2.1 s0.l.Sections, imm (α := (List Str)) r_s0.1.2.1 s0.l.Points, imm (α := (List Str)) r_s0.1.1 s0.l.Stations, own b_s0 103 [.slice r_s0.1.1.a s0.l.Stations.length r_s0.1.1.cap, .slice r_s0.1.2.1.a s0.l.Points.length r_s0.1.2.1.cap, .slice r_s0.1.2.2.1.a s0.l.Sections.length r_s0.1.2.2.1.cap, .slice r_s0.1.2.2.2.a s0.l.Links.length r_s0.1.2.2.2.cap, .int .i64 s0.to, .int .i64 s0.budget, .int .i64 s0.units, .slice r_s0.2.1.a s0.sequence.length r_s0.2.1.cap, .slice r_s0.2.2.1.a s0.passed.length r_s0.2.2.1.cap, .map (some (sb r_s0.2.2.2.1.a)), .slice r_s0.2.2.2.2.a s0.results.length r_s0.2.2.2.2.cap], trow 40 r_s0.2.1 s0.sequence, trow 4 r_s0.2.2.1 s0.passed, mapc r_s0.2.2.2.1 s0.hops.l, trow 48 r_s0.2.2.2.2 s0.results] 13 ?_
  refine az_ev 0 rfl ev_move ?_
  refine az_ev 1 rfl ev_nilcheck ?_
  refine az_ev 2 rfl (ev_field_addr 8) ?_
  refine az_ev 3 rfl (ev_load_own (b := b_s0)) ?_
  refine az_ev 4 rfl ev_move ?_
  refine az_ev 5 rfl ev_nilcheck ?_
  refine az_ev 6 rfl (ev_field_addr 7) ?_
  refine az_ev 7 rfl (ev_load_own (b := b_s0)) ?_
  refine az_ev 8 rfl ev_move ?_
  obtain ⟨x2, hx3, hM⟩ := bind_some hM
  refine az_ev 9 rfl (ev_idx (xs := s0.sequence) 2 (Kn.trow (e := 40) (r := r_s0.2.1) (by repeat (first | exact Has.head | apply Has.tail))) (fun hg => let h := idx_some hx3; ⟨h.1, h.2.1⟩)) ?_
  refine az_ev 10 rfl (ev_field_addr 0) ?_
  refine az_ev 11 rfl (ev_ld (i := ((s0.sequence.length : Int) - 1)) (xs := s0.sequence) (y := x2) 0 (Kn.trow (e := 40) (r := r_s0.2.1) (by repeat (first | exact Has.head | apply Has.tail))) (fun _ => hx3)) ?_
  obtain ⟨x4, hx5, hM⟩ := bind_some hM
  refine az_ev 12 rfl (ev_idx (xs := s0.passed) 1 (Kn.trow (e := 4) (r := r_s0.2.2.1) (by repeat (first | exact Has.head | apply Has.tail))) (fun hg => let h := idx_some hx5; ⟨h.1, h.2.1⟩)) ?_
  refine az_last rfl (st_set (r := r_s0.2.2.1) (i := x2.Section) (xs := s0.passed) (u := x4) (vs := [.bool false]) 0 false hx5 rfl (fun _ _ h => h) (by repeat (first | exact Upd.head | apply Upd.tail)) ?_)
  refine az_done (hK2 _ _ ?_); clear hK2
  refine cw_region ?_
  refine ow_ev ev_move ?_
  refine ow_ev ev_move ?_
  refine ow_ev ev_nilcheck ?_
  refine ow_ev (ev_field_addr 7) ?_
  refine ow_ev (ev_load_own (b := b_s0)) ?_
  refine ow_ev ev_move ?_
  obtain ⟨l6, hl7, hM⟩ := bind_some hM
  refine ow_cons (st_subrow (r := r_s0.2.1) (xs := s0.sequence) (ol := none) (oh := some (.i64, ((s0.sequence.length : Int) - 1))) (by intro r'; repeat (first | exact Upd.head | apply Upd.tail)) hl7 (fun r8 => ?_))
  refine ow_ev ev_nilcheck ?_
  refine ow_ev (ev_field_addr 7) ?_
  refine ow_cons (st_store_own (b := b_s0) (l' := [.slice r_s0.1.1.a s0.l.Stations.length r_s0.1.1.cap, .slice r_s0.1.2.1.a s0.l.Points.length r_s0.1.2.1.cap, .slice r_s0.1.2.2.1.a s0.l.Sections.length r_s0.1.2.2.1.cap, .slice r_s0.1.2.2.2.a s0.l.Links.length r_s0.1.2.2.2.cap, .int .i64 s0.to, .int .i64 s0.budget, .int .i64 s0.units, .slice r8.a l6.length r8.cap, .slice r_s0.2.2.1.a s0.passed.length r_s0.2.2.1.cap, .map (some (sb r_s0.2.2.2.1.a)), .slice r_s0.2.2.2.2.a s0.results.length r_s0.2.2.2.2.cap]) (k := ?_))
  obtain rfl := some_inj hM
  refine ow_nil (kw_end0 rfl (fun w hm => by simp only [List.length_set]; exact post_of (r8, r_s0.2.2.1) hm rfl))

def route_search_from_k1 : ((List Ment_Entry101) × (List Hop)) → Option ((List Hop) × (GMap Ment_Entry101)) := fun (lb_s0_j1_9, lhops_j1) =>
  some (lhops_j1, (GMap.mk lb_s0_j1_9))
def route_search_from_m (s0 : Route_search) (step0 : Step) : Option ((List Hop) × (GMap Ment_Entry101)) :=
  if (!(s0.hops.l.any (fun x => decide (step0 = x.key)))) then
    ((layout_Hops_m s0.l step0).bind fun y3 =>
    chk (!(s0.hops.l.any (fun x => decide (step0 = x.key)))) <|
    route_search_from_k1 ((s0.hops.l ++ [(Ment_Entry101.mk step0 y3)]), y3))
  else
    (route_search_from_k1 (s0.hops.l, (mval s0.hops.l (fun x => decide (step0 = x.key)))))
theorem route_search_from_spec (S : Soup) (w : World) (b_s0 : Nat) (s0 : Route_search) (r_s0 : GoRep.R Route_search) (step0 : Step) (y : (List Hop) × (GMap Ment_Entry101)) (hM : route_search_from_m s0 step0 = some y) (hP : Pre S [own b_s0 103 [.slice r_s0.1.1.a s0.l.Stations.length r_s0.1.1.cap, .slice r_s0.1.2.1.a s0.l.Points.length r_s0.1.2.1.cap, .slice r_s0.1.2.2.1.a s0.l.Sections.length r_s0.1.2.2.1.cap, .slice r_s0.1.2.2.2.a s0.l.Links.length r_s0.1.2.2.2.cap, .int .i64 s0.to, .int .i64 s0.budget, .int .i64 s0.units, .slice r_s0.2.1.a s0.sequence.length r_s0.2.1.cap, .slice r_s0.2.2.1.a s0.passed.length r_s0.2.2.1.cap, .map (some (sb r_s0.2.2.2.1.a)), .slice r_s0.2.2.2.2.a s0.results.length r_s0.2.2.2.2.cap], trow 40 r_s0.2.1 s0.sequence, trow 4 r_s0.2.2.1 s0.passed, mapc r_s0.2.2.2.1 s0.hops.l, trow 48 r_s0.2.2.2.2 s0.results] w) (h_s0_0 : GoRep.ok (α := List Str) S w r_s0.1.1 s0.l.Stations) (h_s0_1 : GoRep.ok (α := List Str) S w r_s0.1.2.1 s0.l.Points) (h_s0_2 : GoRep.ok (α := List Section) S w r_s0.1.2.2.1 s0.l.Sections) (h_s0_3 : GoRep.ok (α := List Link) S w r_s0.1.2.2.2 s0.l.Links) :
    Calls Try.prog 81 #[.pointer (some ⟨b_s0, 0, none⟩), .agg #[.int .i64 step0.Section, .int .i64 step0.Dir]] w (Post (β := (GoRep.R (List Hop)) × (SR (GoRep.R Ment_Entry101))) S [own b_s0 103 [.slice r_s0.1.1.a s0.l.Stations.length r_s0.1.1.cap, .slice r_s0.1.2.1.a s0.l.Points.length r_s0.1.2.1.cap, .slice r_s0.1.2.2.1.a s0.l.Sections.length r_s0.1.2.2.1.cap, .slice r_s0.1.2.2.2.a s0.l.Links.length r_s0.1.2.2.2.cap, .int .i64 s0.to, .int .i64 s0.budget, .int .i64 s0.units, .slice r_s0.2.1.a s0.sequence.length r_s0.2.1.cap, .slice r_s0.2.2.1.a s0.passed.length r_s0.2.2.1.cap, .map (some (sb r_s0.2.2.2.1.a)), .slice r_s0.2.2.2.2.a s0.results.length r_s0.2.2.2.2.cap], trow 40 r_s0.2.1 s0.sequence, trow 4 r_s0.2.2.1 s0.passed, mapc r_s0.2.2.2.1 s0.hops.l, trow 48 r_s0.2.2.2.2 s0.results] (fun g => .slice g.1.a y.1.length g.1.cap) (fun g => [imm (α := (List Hop)) g.1 y.1, own b_s0 103 [.slice r_s0.1.1.a s0.l.Stations.length r_s0.1.1.cap, .slice r_s0.1.2.1.a s0.l.Points.length r_s0.1.2.1.cap, .slice r_s0.1.2.2.1.a s0.l.Sections.length r_s0.1.2.2.1.cap, .slice r_s0.1.2.2.2.a s0.l.Links.length r_s0.1.2.2.2.cap, .int .i64 s0.to, .int .i64 s0.budget, .int .i64 s0.units, .slice r_s0.2.1.a s0.sequence.length r_s0.2.1.cap, .slice r_s0.2.2.1.a s0.passed.length r_s0.2.2.1.cap, .map (some (sb g.2.a)), .slice r_s0.2.2.2.2.a s0.results.length r_s0.2.2.2.2.cap], trow 40 r_s0.2.1 s0.sequence, trow 4 r_s0.2.2.1 s0.passed, mapc g.2 y.2.l, trow 48 r_s0.2.2.2.2 s0.results]) w) := by
  refine calls_cw (args := [_, _]) Try.func81 rfl (hP.start |>.immP (α := List Str) (r := r_s0.1.1) (x := s0.l.Stations) h_s0_0|>.immP (α := List Str) (r := r_s0.1.2.1) (x := s0.l.Points) h_s0_1|>.immP (α := List Section) (r := r_s0.1.2.2.1) (x := s0.l.Sections) h_s0_2|>.immP (α := List Link) (r := r_s0.1.2.2.2) (x := s0.l.Links) h_s0_3) rfl ?_
  unfold route_search_from_m at hM
  refine cw_seq fun K1 hK1 => ?_
  refine cw_region ?_
  refine ow_cons (st_box (l := [.int .i64 step0.Section, .int .i64 step0.Dir]) (k := fun b1 => ?_))
  refine ow_ev ev_assign ?_
  refine ow_nil (hK1 _ _ ?_); clear hK1
  refine cw_seq fun K2 hK2 => ?_
  refine cw_region_any _ (List.Sublist.refl _) ?_
  refine aw_ev 0 rfl ev_move ?_
  refine aw_ev 1 rfl ev_nilcheck ?_
  refine aw_ev 2 rfl (ev_field_addr 9) ?_
  refine aw_ev 3 rfl (ev_load_own (b := b_s0)) ?_
  refine aw_ev 4 rfl (ev_load_all (b := b1)) ?_
  refine aw_ev 5 rfl (ev_mlookup (r := r_s0.2.2.2.1) (xs := s0.hops.l) 40 (fun _ => ()) (fun x => decide (step0 = x.key)) (fun x => Step_eqv _ _) (by repeat (first | exact Has.head | apply Has.tail))) ?_
  refine aw_ev 6 rfl ev_move ?_
  refine aw_ev 7 rfl (ev_extract (vs := [.slice (mrep (fun _ => ()) r_s0.2.2.2.1 s0.hops.l (fun x => decide (step0 = x.key))).a ((mval s0.hops.l (fun x => decide (step0 = x.key))).length) (mrep (fun _ => ()) r_s0.2.2.2.1 s0.hops.l (fun x => decide (step0 = x.key))).cap, .bool (s0.hops.l.any (fun x => decide (step0 = x.key)))])) ?_
  refine aw_ev 8 rfl (ev_extract (vs := [.slice (mrep (fun _ => ()) r_s0.2.2.2.1 s0.hops.l (fun x => decide (step0 = x.key))).a ((mval s0.hops.l (fun x => decide (step0 = x.key))).length) (mrep (fun _ => ()) r_s0.2.2.2.1 s0.hops.l (fun x => decide (step0 = x.key))).cap, .bool (s0.hops.l.any (fun x => decide (step0 = x.key)))])) ?_
  refine aw_ev 9 rfl ev_assign ?_
  refine aw_ev 10 rfl ev_assign ?_
  refine aw_done (hK2 _ _ ?_); clear hK2
  refine cw_cut (γ := ((List Ment_Entry101) × (List Hop)) × ((SR (GoRep.R Ment_Entry101)) × (SR (GoRep.R Hop)))) (env := fun ((lb_s0_j1_9, lhops_j1), (rb_s0_j1_9, rhops_j1)) => [(5, .v (.slice rhops_j1.a lhops_j1.length rhops_j1.cap))]) (mem := fun ((lb_s0_j1_9, lhops_j1), (rb_s0_j1_9, rhops_j1)) => [imm (α := (List Str)) r_s0.1.1 s0.l.Stations, imm (α := (List Str)) r_s0.1.2.1 s0.l.Points, imm (α := (List Section)) r_s0.1.2.2.1 s0.l.Sections, imm (α := (List Link)) r_s0.1.2.2.2 s0.l.Links, trow 40 r_s0.2.1 s0.sequence, trow 4 r_s0.2.2.1 s0.passed, mapc rb_s0_j1_9 lb_s0_j1_9, trow 48 r_s0.2.2.2.2 s0.results, own b_s0 103 [.slice r_s0.1.1.a s0.l.Stations.length r_s0.1.1.cap, .slice r_s0.1.2.1.a s0.l.Points.length r_s0.1.2.1.cap, .slice r_s0.1.2.2.1.a s0.l.Sections.length r_s0.1.2.2.1.cap, .slice r_s0.1.2.2.2.a s0.l.Links.length r_s0.1.2.2.2.cap, .int .i64 s0.to, .int .i64 s0.budget, .int .i64 s0.units, .slice r_s0.2.1.a s0.sequence.length r_s0.2.1.cap, .slice r_s0.2.2.1.a s0.passed.length r_s0.2.2.1.cap, .map (some (sb rb_s0_j1_9.a)), .slice r_s0.2.2.2.2.a s0.results.length r_s0.2.2.2.2.cap], imm (α := (List Hop)) rhops_j1 lhops_j1]) (R := fun g => route_search_from_k1 g.1 = some y) ?_ ?_
  · intro KJ1 hJ1
    refine cw_seq fun K4 hK4 => ?_
    refine cw_region ?_
    refine ow_ev ev_move ?_
    refine ow_ev ev_not ?_
    refine ow_nil (hK4 _ _ ?_); clear hK4
    refine cw_cond rfl (fun hc2 => ?_) (fun hc2 => ?_)
    ·
      replace hM := (ite_t hc2).symm.trans hM
      refine cw_seq fun K5 hK5 => ?_
      refine cw_region_any _ (List.Sublist.refl _) ?_
      refine aw_ev 0 rfl ev_move ?_
      refine aw_ev 1 rfl ev_nilcheck ?_
      refine aw_ev 2 rfl (ev_field_addr 0) ?_
      refine aw_ev 3 rfl (ev_load_part (b := b_s0) (o := 0) (l := [.slice r_s0.1.1.a s0.l.Stations.length r_s0.1.1.cap, .slice r_s0.1.2.1.a s0.l.Points.length r_s0.1.2.1.cap, .slice r_s0.1.2.2.1.a s0.l.Sections.length r_s0.1.2.2.1.cap, .slice r_s0.1.2.2.2.a s0.l.Links.length r_s0.1.2.2.2.cap, .int .i64 s0.to, .int .i64 s0.budget, .int .i64 s0.units, .slice r_s0.2.1.a s0.sequence.length r_s0.2.1.cap, .slice r_s0.2.2.1.a s0.passed.length r_s0.2.2.1.cap, .map (some (sb r_s0.2.2.2.1.a)), .slice r_s0.2.2.2.2.a s0.results.length r_s0.2.2.2.2.cap]) (m := 4) (l' := [.slice r_s0.1.1.a s0.l.Stations.length r_s0.1.1.cap, .slice r_s0.1.2.1.a s0.l.Points.length r_s0.1.2.1.cap, .slice r_s0.1.2.2.1.a s0.l.Sections.length r_s0.1.2.2.1.cap, .slice r_s0.1.2.2.2.a s0.l.Links.length r_s0.1.2.2.2.cap])) ?_
      refine aw_ev 4 rfl (ev_load_all (b := b1)) ?_
      obtain ⟨y3, hy4, hM⟩ := bind_some hM
      refine aw_one 5 rfl (st_callF SelL.nil (fun S w hs hP => layout_Hops_spec _ w s0.l r_s0.1 step0 y3 hy4 (lend_lt hs) ⟨(Kn.lend (Kn.imm (α := List Str) (r := r_s0.1.1) (x := s0.l.Stations) (by repeat (first | exact Has.head | apply Has.tail))) hs), (Kn.lend (Kn.imm (α := List Str) (r := r_s0.1.2.1) (x := s0.l.Points) (by repeat (first | exact Has.head | apply Has.tail))) hs), (Kn.lend (Kn.imm (α := List Section) (r := r_s0.1.2.2.1) (x := s0.l.Sections) (by repeat (first | exact Has.head | apply Has.tail))) hs), (Kn.lend (Kn.imm (α := List Link) (r := r_s0.1.2.2.2) (x := s0.l.Links) (by repeat (first | exact Has.head | apply Has.tail))) hs)⟩) (by intro r c hc; simp only [List.mem_cons, List.not_mem_nil, or_false] at hc; rcases hc with rfl <;> first | exact flatC_own | exact flatC_trow (fun _ _ _ _ => trivial)) (fun r5 => ⟨fun w hm => hm.sub (by repeat (first | exact List.Sublist.refl _ | apply List.Sublist.cons_cons | apply List.Sublist.cons)), ?_⟩))
      dsimp only [List.cons_append, List.nil_append]
      refine aw_ev 6 rfl ev_assign ?_
      refine aw_done (hK5 _ _ ?_); clear hK5
      refine cw_region_z [trow 43 r5 y3, own b1 40 [.int .i64 step0.Section, .int .i64 step0.Dir], imm (α := (List Link)) r_s0.1.2.2.2 s0.l.Links, imm (α := (List Section)) r_s0.1.2.2.1 s0.l.Sections, imm (α := (List Str)) r_s0.1.2.1 s0.l.Points, imm (α := (List Str)) r_s0.1.1 s0.l.Stations, own b_s0 103 [.slice r_s0.1.1.a s0.l.Stations.length r_s0.1.1.cap, .slice r_s0.1.2.1.a s0.l.Points.length r_s0.1.2.1.cap, .slice r_s0.1.2.2.1.a s0.l.Sections.length r_s0.1.2.2.1.cap, .slice r_s0.1.2.2.2.a s0.l.Links.length r_s0.1.2.2.2.cap, .int .i64 s0.to, .int .i64 s0.budget, .int .i64 s0.units, .slice r_s0.2.1.a s0.sequence.length r_s0.2.1.cap, .slice r_s0.2.2.1.a s0.passed.length r_s0.2.2.1.cap, .map (some (sb r_s0.2.2.2.1.a)), .slice r_s0.2.2.2.2.a s0.results.length r_s0.2.2.2.2.cap], trow 40 r_s0.2.1 s0.sequence, trow 4 r_s0.2.2.1 s0.passed, mapc r_s0.2.2.2.1 s0.hops.l, trow 48 r_s0.2.2.2.2 s0.results] 6 ?_
      refine az_ev 0 rfl ev_move ?_
      refine az_ev 1 rfl ev_nilcheck ?_
      refine az_ev 2 rfl (ev_field_addr 9) ?_
      refine az_ev 3 rfl (ev_load_own (b := b_s0)) ?_
      refine az_ev 4 rfl (ev_load_all (b := b1)) ?_
      refine az_ev 5 rfl ev_move ?_
      refine az_imp (fun w hm => hm.immAdd (α := List Hop) (r := (mrep (fun _ => ()) r_s0.2.2.2.1 s0.hops.l (fun x => decide (step0 = x.key)))) (x := (mval s0.hops.l (fun x => decide (step0 = x.key)))) (fun S hs => (Sk.found (r := r_s0.2.2.2.1) (xs := s0.hops.l) (by repeat (first | exact Has.head | apply Has.tail)) (fun _ => ()) (fun x => decide (step0 = x.key))) S w hs)) ?_
      refine az_imp (fun w hm => hm.freeze (r := r5) (by repeat (first | exact Upd.head | apply Upd.tail))) ?_
      obtain ⟨hb6, hM⟩ := chk_some hM
      refine az_last rfl (st_mapAdd (r := r_s0.2.2.2.1) (xs := s0.hops.l) 40 (Ment_Entry101.mk step0 y3) r5 (fun x => decide (step0 = x.key)) (fun x => Step_eqv _ _) (by simpa using hb6) rfl (Sk.imm (α := List Hop) (r := r5) (x := y3) (by repeat (first | exact Has.head | apply Has.tail))) (by repeat (first | exact Upd.head | apply Upd.tail)) ?_)
      refine az_done (hJ1 (((s0.hops.l ++ [(Ment_Entry101.mk step0 y3)]), y3), ((MR.add r_s0.2.2.2.1 s0.hops.l.length r5), r5)) _ _ hM ⟨rfl, trivial⟩ (fun w hm => by simp only [List.length_set]; exact hm.reord))
    ·
      replace hM := (ite_f hc2).symm.trans hM
      refine cw_imp (fun w hm => hm.immAdd (α := List Hop) (r := (mrep (fun _ => ()) r_s0.2.2.2.1 s0.hops.l (fun x => decide (step0 = x.key)))) (x := (mval s0.hops.l (fun x => decide (step0 = x.key)))) (fun S hs => (Sk.found (r := r_s0.2.2.2.1) (xs := s0.hops.l) (by repeat (first | exact Has.head | apply Has.tail)) (fun _ => ()) (fun x => decide (step0 = x.key))) S w hs)) ?_
      refine cw_skip (hJ1 ((s0.hops.l, (mval s0.hops.l (fun x => decide (step0 = x.key)))), (r_s0.2.2.2.1, (mrep (fun _ => ()) r_s0.2.2.2.1 s0.hops.l (fun x => decide (step0 = x.key))))) _ _ hM ⟨rfl, trivial⟩ (fun w hm => by simp only [List.length_set]; exact hm.reord))
  ·
    clear hM
    intro g hM
    obtain ⟨⟨lb_s0_j1_9, lhops_j1⟩, ⟨rb_s0_j1_9, rhops_j1⟩⟩ := g
    dsimp only at hM ⊢
    dsimp only [route_search_from_k1] at hM
    refine cw_seq fun K3 hK3 => ?_
    refine cw_region ?_
    refine ow_ev ev_move ?_
    refine ow_ev ev_assign ?_
    refine ow_nil (hK3 _ _ ?_); clear hK3
    obtain rfl := some_inj hM
    refine cw_ret (kw_retc1 (fun w hm => post_of (rhops_j1, rb_s0_j1_9) hm rfl))

end Go.Proofs.Ytnihhidbiepnhaa
