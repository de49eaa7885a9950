/- Models of functions, and that the code computes them. -/
import Derived.Test.YtnihhidbiepnhaaRo
namespace Go.Proofs.Ytnihhidbiepnhaa
open Go.Dc Go.RowKit
set_option maxRecDepth 10000
set_option linter.unusedVariables false
def ref6_finder_visited_k1 : Unit → Option Bool := fun _ =>
  some false
def ref6_finder_visited_b1 (f0 : Ref6_finder) (section0 : Int) (cont1 : Nat → Option Bool) : Nat → Option Bool := fun i_1 =>
  if decide ((i_1 : Int) < (f0.path.length : Int)) then
    ((idx f0.path (i_1 : Int)).bind fun x2 =>
    if decide (x2.Section = section0) then
      (some true)
    else
      (chk (i64b ((i_1 : Int) + 1)) <|
      cont1 (i_1 + 1)))
  else
    (ref6_finder_visited_k1 ())
def ref6_finder_visited_m (f0 : Ref6_finder) (section0 : Int) : Option Bool :=
  iter (ref6_finder_visited_b1 f0 section0) FUEL 0
theorem ref6_finder_visited_spec (S : Soup) (w : World) (b_f0 : Nat) (f0 : Ref6_finder) (r_f0 : GoRep.R Ref6_finder) (section0 : Int) (y : Bool) (hM : ref6_finder_visited_m f0 section0 = some y) (hS : ∀ k, S k → k < w.heap.size) (hb_f0 : S b_f0 ∧ w.heap[b_f0]? = some (.cells [.slice r_f0.1.1.a f0.l.Stations.length r_f0.1.1.cap, .slice r_f0.1.2.1.a f0.l.Points.length r_f0.1.2.1.cap, .slice r_f0.1.2.2.1.a f0.l.Sections.length r_f0.1.2.2.1.cap, .slice r_f0.1.2.2.2.a f0.l.Links.length r_f0.1.2.2.2.cap, .int .i64 f0.to, .int .i64 f0.budget, .int .i64 f0.used, .slice r_f0.2.1.a f0.path.length r_f0.2.1.cap, .slice r_f0.2.2.a f0.out.length r_f0.2.2.cap].toArray 147 (0, 0))) (h_f0 : GoRep.ok S w r_f0 f0) :
    Calls Try.prog 103 #[.pointer (some ⟨b_f0, 0, none⟩), .int .i64 section0] w (Ret w (.bool y)) := by
  refine calls_cw (args := [_, _]) Try.func103 rfl ((pre_nil hS).start |>.rboxP hb_f0|>.immP (α := List Str) (r := r_f0.1.1) (x := f0.l.Stations) h_f0.1.1|>.immP (α := List Str) (r := r_f0.1.2.1) (x := f0.l.Points) h_f0.1.2.1|>.immP (α := List Section) (r := r_f0.1.2.2.1) (x := f0.l.Sections) h_f0.1.2.2.1|>.immP (α := List Link) (r := r_f0.1.2.2.2) (x := f0.l.Links) h_f0.1.2.2.2|>.immP (α := List Step) (r := r_f0.2.1) (x := f0.path) h_f0.2.1|>.immP (α := List Route) (r := r_f0.2.2) (x := f0.out) h_f0.2.2) rfl ?_
  unfold ref6_finder_visited_m at hM
  refine cw_seq fun K1 hK1 => ?_
  refine cw_region ?_
  refine ow_ev ev_assign ?_
  refine ow_nil (hK1 _ _ ?_); clear hK1
  refine cw_seq fun K2 hK2 => ?_
  refine cw_seq fun K3 hK3 => ?_
  refine cw_region ?_
  refine ow_ev ev_assign ?_
  refine ow_nil (hK3 _ _ ?_); clear hK3
  refine cw_block ?_
  refine cw_loop (γ := Nat × Nat × Unit) (env := fun (_, i_1, _) => [(0, .v (.pointer (some ⟨b_f0, 0, none⟩))), (1, .v (.int .i64 section0)), (5, .v (.int .i64 (i_1 : Int)))]) (mem := fun (_, i_1, _) => [imm (α := (List Str)) r_f0.1.1 f0.l.Stations, imm (α := (List Str)) r_f0.1.2.1 f0.l.Points, imm (α := (List Section)) r_f0.1.2.2.1 f0.l.Sections, imm (α := (List Link)) r_f0.1.2.2.2 f0.l.Links, imm (α := (List Step)) r_f0.2.1 f0.path, imm (α := (List Route)) r_f0.2.2 f0.out, rbox b_f0 147 [.slice r_f0.1.1.a f0.l.Stations.length r_f0.1.1.cap, .slice r_f0.1.2.1.a f0.l.Points.length r_f0.1.2.1.cap, .slice r_f0.1.2.2.1.a f0.l.Sections.length r_f0.1.2.2.1.cap, .slice r_f0.1.2.2.2.a f0.l.Links.length r_f0.1.2.2.2.cap, .int .i64 f0.to, .int .i64 f0.budget, .int .i64 f0.used, .slice r_f0.2.1.a f0.path.length r_f0.2.1.cap, .slice r_f0.2.2.a f0.out.length r_f0.2.2.cap]]) (R := fun g => iter (ref6_finder_visited_b1 f0 section0) g.1 g.2.1 = some y) (μ := fun g => g.1) (FUEL, 0, ()) hM ⟨rfl, rfl, rfl, trivial⟩ (fun w hm => hm.reord) ?_
  clear hM
  intro g hM KL1 hL1
  obtain ⟨nn1, i_1, ⟨⟩⟩ := g
  dsimp only at hM ⊢
  obtain ⟨nn1, cont1, rfl, hcont1, hM⟩ := iter_open' hM
  dsimp only [ref6_finder_visited_b1] at hM
  refine cw_seq fun K4 hK4 => ?_
  refine cw_seq fun K5 hK5 => ?_
  refine cw_region ?_
  refine ow_ev ev_move ?_
  refine ow_ev ev_move ?_
  refine ow_ev ev_nilcheck ?_
  refine ow_ev (ev_field_addr 7) ?_
  refine ow_ev (ev_rload_own (b := b_f0)) ?_
  refine ow_ev ev_len ?_
  refine ow_ev ev_lss ?_
  refine ow_nil (hK5 _ _ ?_); clear hK5
  refine cw_cond rfl (fun hc1 => ?_) (fun hc1 => ?_)
  ·
    replace hM := (ite_t hc1).symm.trans hM
    refine cw_skip (hK4 _ _ ?_); clear hK4
    refine cw_seq fun K6 hK6 => ?_
    refine cw_block ?_
    refine cw_seq fun K7 hK7 => ?_
    refine cw_region ?_
    refine ow_ev ev_move ?_
    refine ow_ev ev_nilcheck ?_
    refine ow_ev (ev_field_addr 7) ?_
    refine ow_ev (ev_rload_own (b := b_f0)) ?_
    refine ow_ev ev_move ?_
    obtain ⟨x2, hx3, hM⟩ := bind_some hM
    refine ow_ev (ev_idx (xs := f0.path) 2 (Kn.imm (α := List Step) (r := r_f0.2.1) (x := f0.path) (by repeat (first | exact Has.head | apply Has.tail))) (fun hg => let h := idx_some hx3; ⟨h.1, h.2.1⟩)) ?_
    refine ow_ev (ev_field_addr 0) ?_
    refine ow_ev (ev_ld (i := (i_1 : Int)) (xs := f0.path) (y := x2) 0 (Kn.imm (α := List Step) (r := r_f0.2.1) (x := f0.path) (by repeat (first | exact Has.head | apply Has.tail))) (fun _ => hx3)) ?_
    refine ow_ev ev_move ?_
    refine ow_ev ev_eql ?_
    refine ow_nil (hK7 _ _ ?_); clear hK7
    refine cw_cond rfl (fun hc4 => ?_) (fun hc4 => ?_)
    ·
      replace hM := (ite_t hc4).symm.trans hM
      refine cw_seq fun K8 hK8 => ?_
      refine cw_region ?_
      refine ow_ev ev_assign ?_
      refine ow_nil (hK8 _ _ ?_); clear hK8
      obtain rfl := some_inj hM
      refine cw_ret (kw_retc1 (fun w hm => ret_of hm rfl))
    ·
      replace hM := (ite_f hc4).symm.trans hM
      refine cw_skip (hK6 _ _ ?_); clear hK6
      refine cw_region ?_
      refine ow_ev ev_move ?_
      obtain ⟨hI5, hM⟩ := chk_some hM
      refine ow_ev (ev_add (hr := fun hg => i64b_I64 hI5)) ?_
      refine ow_ev ev_assign ?_
      refine ow_nil (hL1 (nn1, (i_1 + 1), ()) _ _ (eqc hcont1 hM) (Nat.lt_succ_self _) ⟨rfl, rfl, rfl, trivial⟩ (fun w hm => hm.reord))
  ·
    replace hM := (ite_f hc1).symm.trans hM
    refine cw_exit (hK2 _ _ ?_); clear hK2
    dsimp only [ref6_finder_visited_k1] at hM
    refine cw_seq fun K9 hK9 => ?_
    refine cw_region ?_
    refine ow_ev ev_assign ?_
    refine ow_nil (hK9 _ _ ?_); clear hK9
    obtain rfl := some_inj hM
    refine cw_ret (kw_retc1 (fun w hm => ret_of hm rfl))

def ref6_finder_extend_k2 (i_1 : Nat) (cont1 : (Int × (List Step) × (List Route) × Nat) → Option (Bool × Int × (List Step) × (List Route))) : (Int × (List Step) × (List Route)) → Option (Bool × Int × (List Step) × (List Route)) := fun (b_f0_j2_6, lb_f0_j2_7, lb_f0_j2_8) =>
  chk (i64b ((i_1 : Int) + 1)) <|
  cont1 (b_f0_j2_6, lb_f0_j2_7, lb_f0_j2_8, i_1 + 1)
def ref6_finder_extend_k3 (i_1 : Nat) (cont1 : (Int × (List Step) × (List Route) × Nat) → Option (Bool × Int × (List Step) × (List Route))) : (Int × (List Step) × (List Route)) → Option (Bool × Int × (List Step) × (List Route)) := fun (b_f0_j3_6, lb_f0_j3_7, lb_f0_j3_8) =>
  chk (i64b ((lb_f0_j3_7.length : Int) - 1)) <|
  (sub lb_f0_j3_7 0 ((lb_f0_j3_7.length : Int) - 1)).bind fun l22 =>
  ref6_finder_extend_k2 i_1 cont1 (b_f0_j3_6, l22, lb_f0_j3_8)
def ref6_finder_extend_k1 (b_f0_1_6 : Int) (lb_f0_1_7 : List Step) (lb_f0_1_8 : List Route) : Unit → Option (Bool × Int × (List Step) × (List Route)) := fun _ =>
  some (true, b_f0_1_6, lb_f0_1_7, lb_f0_1_8)
def ref6_finder_extend_b1 (y4 : (List Hop)) (f0 : Ref6_finder) (recf : Ref6_finder → Option (Bool × Int × (List Step) × (List Route))) (cont1 : (Int × (List Step) × (List Route) × Nat) → Option (Bool × Int × (List Step) × (List Route))) : (Int × (List Step) × (List Route) × Nat) → Option (Bool × Int × (List Step) × (List Route)) := fun (b_f0_1_6, lb_f0_1_7, lb_f0_1_8, i_1) =>
  if decide ((i_1 : Int) < (y4.length : Int)) then
    ((idx y4 (i_1 : Int)).bind fun x9 =>
    (ref6_finder_visited_m (Ref6_finder.mk f0.l f0.to f0.budget b_f0_1_6 lb_f0_1_7 lb_f0_1_8) x9.To.Section).bind fun y11 =>
    if (y11 || decide (24 ≤ (lb_f0_1_7.length : Int))) then
      (ref6_finder_extend_k2 i_1 cont1 (b_f0_1_6, lb_f0_1_7, lb_f0_1_8))
    else
      (chk (i64b (b_f0_1_6 + 1)) <|
      if decide (f0.budget < (b_f0_1_6 + 1)) then
        (some (false, (b_f0_1_6 + 1), lb_f0_1_7, lb_f0_1_8))
      else
        ((idx y4 (i_1 : Int)).bind fun x16 =>
        chk (decide ((lb_f0_1_7.length + ([x16.To] : List Step).length) * 16 ≤ 140737488355328)) <|
        (idx y4 (i_1 : Int)).bind fun x25 =>
        if decide (x25.To.Section = f0.to) then
          (chk (decide ((([] : List Step).length + (lb_f0_1_7 ++ ([x16.To] : List Step)).length) * 16 ≤ 140737488355328)) <|
          chk (decide ((lb_f0_1_8.length + ([(Route.mk (([] : List Step) ++ (lb_f0_1_7 ++ ([x16.To] : List Step))) 0)] : List Route).length) * 32 ≤ 140737488355328)) <|
          ref6_finder_extend_k3 i_1 cont1 ((b_f0_1_6 + 1), (lb_f0_1_7 ++ ([x16.To] : List Step)), (lb_f0_1_8 ++ ([(Route.mk (([] : List Step) ++ (lb_f0_1_7 ++ ([x16.To] : List Step))) 0)] : List Route))))
        else
          ((recf (Ref6_finder.mk f0.l f0.to f0.budget (b_f0_1_6 + 1) (lb_f0_1_7 ++ ([x16.To] : List Step)) lb_f0_1_8)).bind fun y34 =>
          if (!y34.1) then
            (some (false, y34.2.1, y34.2.2.1, y34.2.2.2))
          else
            (ref6_finder_extend_k3 i_1 cont1 (y34.2.1, y34.2.2.1, y34.2.2.2))))))
  else
    (ref6_finder_extend_k1 b_f0_1_6 lb_f0_1_7 lb_f0_1_8 ())
def ref6_finder_extend_F (recf : Ref6_finder → Option (Bool × Int × (List Step) × (List Route))) (f0 : Ref6_finder) : Option (Bool × Int × (List Step) × (List Route)) :=
  chk (i64b ((f0.path.length : Int) - 1)) <|
  (idx f0.path ((f0.path.length : Int) - 1)).bind fun x2 =>
  (ref1_HopsOf_m f0.l x2).bind fun y4 =>
  iter (ref6_finder_extend_b1 y4 f0 recf) FUEL (f0.used, f0.path, f0.out, 0)
def ref6_finder_extend_f : Nat → Ref6_finder → Option (Bool × Int × (List Step) × (List Route))
  | 0 => fun _ => none
  | n + 1 => ref6_finder_extend_F (ref6_finder_extend_f n)
def ref6_finder_extend_m (f0 : Ref6_finder) : Option (Bool × Int × (List Step) × (List Route)) := ref6_finder_extend_f FUEL f0
theorem ref6_finder_extend_step (recf : Ref6_finder → Option (Bool × Int × (List Step) × (List Route))) (hrec : ∀ (S : Soup) (w : World) (b_f0 : Nat) (f0 : Ref6_finder) (r_f0 : GoRep.R Ref6_finder) (y : Bool × Int × (List Step) × (List Route)) (hM : recf f0 = some y) (hP : Pre S [own b_f0 147 [.slice r_f0.1.1.a f0.l.Stations.length r_f0.1.1.cap, .slice r_f0.1.2.1.a f0.l.Points.length r_f0.1.2.1.cap, .slice r_f0.1.2.2.1.a f0.l.Sections.length r_f0.1.2.2.1.cap, .slice r_f0.1.2.2.2.a f0.l.Links.length r_f0.1.2.2.2.cap, .int .i64 f0.to, .int .i64 f0.budget, .int .i64 f0.used, .slice r_f0.2.1.a f0.path.length r_f0.2.1.cap, .slice r_f0.2.2.a f0.out.length r_f0.2.2.cap], trow 40 r_f0.2.1 f0.path, trow 48 r_f0.2.2 f0.out] w) (h_f0_0 : GoRep.ok (α := List Str) S w r_f0.1.1 f0.l.Stations) (h_f0_1 : GoRep.ok (α := List Str) S w r_f0.1.2.1 f0.l.Points) (h_f0_2 : GoRep.ok (α := List Section) S w r_f0.1.2.2.1 f0.l.Sections) (h_f0_3 : GoRep.ok (α := List Link) S w r_f0.1.2.2.2 f0.l.Links), Calls Try.prog 89 #[.pointer (some ⟨b_f0, 0, none⟩)] w (Post (β := (SR (GoRep.R Step)) × (SR (GoRep.R Route))) S [own b_f0 147 [.slice r_f0.1.1.a f0.l.Stations.length r_f0.1.1.cap, .slice r_f0.1.2.1.a f0.l.Points.length r_f0.1.2.1.cap, .slice r_f0.1.2.2.1.a f0.l.Sections.length r_f0.1.2.2.1.cap, .slice r_f0.1.2.2.2.a f0.l.Links.length r_f0.1.2.2.2.cap, .int .i64 f0.to, .int .i64 f0.budget, .int .i64 f0.used, .slice r_f0.2.1.a f0.path.length r_f0.2.1.cap, .slice r_f0.2.2.a f0.out.length r_f0.2.2.cap], trow 40 r_f0.2.1 f0.path, trow 48 r_f0.2.2 f0.out] (fun g => .bool y.1) (fun g => [own b_f0 147 [.slice r_f0.1.1.a f0.l.Stations.length r_f0.1.1.cap, .slice r_f0.1.2.1.a f0.l.Points.length r_f0.1.2.1.cap, .slice r_f0.1.2.2.1.a f0.l.Sections.length r_f0.1.2.2.1.cap, .slice r_f0.1.2.2.2.a f0.l.Links.length r_f0.1.2.2.2.cap, .int .i64 f0.to, .int .i64 f0.budget, .int .i64 y.2.1, .slice g.1.a y.2.2.1.length g.1.cap, .slice g.2.a y.2.2.2.length g.2.cap], trow 40 g.1 y.2.2.1, trow 48 g.2 y.2.2.2]) w)) (S : Soup) (w : World) (b_f0 : Nat) (f0 : Ref6_finder) (r_f0 : GoRep.R Ref6_finder) (y : Bool × Int × (List Step) × (List Route)) (hM : ref6_finder_extend_F recf f0 = some y) (hP : Pre S [own b_f0 147 [.slice r_f0.1.1.a f0.l.Stations.length r_f0.1.1.cap, .slice r_f0.1.2.1.a f0.l.Points.length r_f0.1.2.1.cap, .slice r_f0.1.2.2.1.a f0.l.Sections.length r_f0.1.2.2.1.cap, .slice r_f0.1.2.2.2.a f0.l.Links.length r_f0.1.2.2.2.cap, .int .i64 f0.to, .int .i64 f0.budget, .int .i64 f0.used, .slice r_f0.2.1.a f0.path.length r_f0.2.1.cap, .slice r_f0.2.2.a f0.out.length r_f0.2.2.cap], trow 40 r_f0.2.1 f0.path, trow 48 r_f0.2.2 f0.out] w) (h_f0_0 : GoRep.ok (α := List Str) S w r_f0.1.1 f0.l.Stations) (h_f0_1 : GoRep.ok (α := List Str) S w r_f0.1.2.1 f0.l.Points) (h_f0_2 : GoRep.ok (α := List Section) S w r_f0.1.2.2.1 f0.l.Sections) (h_f0_3 : GoRep.ok (α := List Link) S w r_f0.1.2.2.2 f0.l.Links) :
    Calls Try.prog 89 #[.pointer (some ⟨b_f0, 0, none⟩)] w (Post (β := (SR (GoRep.R Step)) × (SR (GoRep.R Route))) S [own b_f0 147 [.slice r_f0.1.1.a f0.l.Stations.length r_f0.1.1.cap, .slice r_f0.1.2.1.a f0.l.Points.length r_f0.1.2.1.cap, .slice r_f0.1.2.2.1.a f0.l.Sections.length r_f0.1.2.2.1.cap, .slice r_f0.1.2.2.2.a f0.l.Links.length r_f0.1.2.2.2.cap, .int .i64 f0.to, .int .i64 f0.budget, .int .i64 f0.used, .slice r_f0.2.1.a f0.path.length r_f0.2.1.cap, .slice r_f0.2.2.a f0.out.length r_f0.2.2.cap], trow 40 r_f0.2.1 f0.path, trow 48 r_f0.2.2 f0.out] (fun g => .bool y.1) (fun g => [own b_f0 147 [.slice r_f0.1.1.a f0.l.Stations.length r_f0.1.1.cap, .slice r_f0.1.2.1.a f0.l.Points.length r_f0.1.2.1.cap, .slice r_f0.1.2.2.1.a f0.l.Sections.length r_f0.1.2.2.1.cap, .slice r_f0.1.2.2.2.a f0.l.Links.length r_f0.1.2.2.2.cap, .int .i64 f0.to, .int .i64 f0.budget, .int .i64 y.2.1, .slice g.1.a y.2.2.1.length g.1.cap, .slice g.2.a y.2.2.2.length g.2.cap], trow 40 g.1 y.2.2.1, trow 48 g.2 y.2.2.2]) w) := by
  refine calls_cw (args := [_]) Try.func89 rfl (hP.start |>.immP (α := List Str) (r := r_f0.1.1) (x := f0.l.Stations) h_f0_0|>.immP (α := List Str) (r := r_f0.1.2.1) (x := f0.l.Points) h_f0_1|>.immP (α := List Section) (r := r_f0.1.2.2.1) (x := f0.l.Sections) h_f0_2|>.immP (α := List Link) (r := r_f0.1.2.2.2) (x := f0.l.Links) h_f0_3) rfl ?_
  unfold ref6_finder_extend_F at hM
  refine cw_seq fun K1 hK1 => ?_
  refine cw_region ?_
  refine ow_ev ev_assign ?_
  refine ow_nil (hK1 _ _ ?_); clear hK1
  refine cw_seq fun K2 hK2 => ?_
  refine cw_region_any _ (List.Sublist.refl _) ?_
  refine aw_ev 0 rfl ev_move ?_
  refine aw_ev 1 rfl ev_nilcheck ?_
  refine aw_ev 2 rfl (ev_field_addr 0) ?_
  refine aw_ev 3 rfl (ev_load_part (b := b_f0) (o := 0) (l := [.slice r_f0.1.1.a f0.l.Stations.length r_f0.1.1.cap, .slice r_f0.1.2.1.a f0.l.Points.length r_f0.1.2.1.cap, .slice r_f0.1.2.2.1.a f0.l.Sections.length r_f0.1.2.2.1.cap, .slice r_f0.1.2.2.2.a f0.l.Links.length r_f0.1.2.2.2.cap, .int .i64 f0.to, .int .i64 f0.budget, .int .i64 f0.used, .slice r_f0.2.1.a f0.path.length r_f0.2.1.cap, .slice r_f0.2.2.a f0.out.length r_f0.2.2.cap]) (m := 4) (l' := [.slice r_f0.1.1.a f0.l.Stations.length r_f0.1.1.cap, .slice r_f0.1.2.1.a f0.l.Points.length r_f0.1.2.1.cap, .slice r_f0.1.2.2.1.a f0.l.Sections.length r_f0.1.2.2.1.cap, .slice r_f0.1.2.2.2.a f0.l.Links.length r_f0.1.2.2.2.cap])) ?_
  refine aw_ev 4 rfl ev_move ?_
  refine aw_ev 5 rfl ev_nilcheck ?_
  refine aw_ev 6 rfl (ev_field_addr 7) ?_
  refine aw_ev 7 rfl (ev_load_own (b := b_f0)) ?_
  refine aw_ev 8 rfl ev_move ?_
  refine aw_ev 9 rfl ev_nilcheck ?_
  refine aw_ev 10 rfl (ev_field_addr 7) ?_
  refine aw_ev 11 rfl (ev_load_own (b := b_f0)) ?_
  refine aw_ev 12 rfl ev_len ?_
  obtain ⟨hI1, hM⟩ := chk_some hM
  refine aw_ev 13 rfl (ev_sub (hr := fun hg => i64b_I64 hI1)) ?_
  obtain ⟨x2, hx3, hM⟩ := bind_some hM
  refine aw_ev 14 rfl (ev_idx (xs := f0.path) 2 (Kn.trow (e := 40) (r := r_f0.2.1) (by repeat (first | exact Has.head | apply Has.tail))) (fun hg => let h := idx_some hx3; ⟨h.1, h.2.1⟩)) ?_
  refine aw_ev 15 rfl (ev_lds (m := 2) (i := ((f0.path.length : Int) - 1)) (xs := f0.path) (y := x2) (l := [.int .i64 x2.Section, .int .i64 x2.Dir]) 0 (Kn.trow (e := 40) (r := r_f0.2.1) (by repeat (first | exact Has.head | apply Has.tail))) (fun _ => hx3)) ?_
  obtain ⟨y4, hy5, hM⟩ := bind_some hM
  refine aw_one 16 rfl (st_callF SelL.nil (fun S w hs hP => ref1_HopsOf_spec _ w f0.l r_f0.1 x2 y4 hy5 (lend_lt hs) ⟨(Kn.lend (Kn.imm (α := List Str) (r := r_f0.1.1) (x := f0.l.Stations) (by repeat (first | exact Has.head | apply Has.tail))) hs), (Kn.lend (Kn.imm (α := List Str) (r := r_f0.1.2.1) (x := f0.l.Points) (by repeat (first | exact Has.head | apply Has.tail))) hs), (Kn.lend (Kn.imm (α := List Section) (r := r_f0.1.2.2.1) (x := f0.l.Sections) (by repeat (first | exact Has.head | apply Has.tail))) hs), (Kn.lend (Kn.imm (α := List Link) (r := r_f0.1.2.2.2) (x := f0.l.Links) (by repeat (first | exact Has.head | apply Has.tail))) hs)⟩) (by intro r c hc; simp only [List.mem_cons, List.not_mem_nil, or_false] at hc; rcases hc with rfl <;> first | exact flatC_own | exact flatC_trow (fun _ _ _ _ => trivial)) (fun r6 => ⟨fun w hm => hm.sub (by repeat (first | exact List.Sublist.refl _ | apply List.Sublist.cons_cons | apply List.Sublist.cons)), ?_⟩))
  dsimp only [List.cons_append, List.nil_append]
  refine aw_ev 17 rfl ev_assign ?_
  refine aw_done (hK2 _ _ ?_); clear hK2
  refine cw_seq fun K3 hK3 => ?_
  refine cw_seq fun K4 hK4 => ?_
  refine cw_region ?_
  refine ow_ev ev_assign ?_
  refine ow_nil (hK4 _ _ ?_); clear hK4
  refine cw_block ?_
  refine cw_loop (γ := Nat × (Int × (List Step) × (List Route) × Nat) × ((SR (GoRep.R Step)) × (SR (GoRep.R Route)))) (env := fun (_, (b_f0_1_6, lb_f0_1_7, lb_f0_1_8, i_1), (rb_f0_1_7, rb_f0_1_8)) => [(0, .v (.pointer (some ⟨b_f0, 0, none⟩))), (3, .v (.slice r6.a y4.length r6.cap)), (4, .v (.int .i64 (i_1 : Int)))]) (mem := fun (_, (b_f0_1_6, lb_f0_1_7, lb_f0_1_8, i_1), (rb_f0_1_7, rb_f0_1_8)) => [imm (α := (List Str)) r_f0.1.1 f0.l.Stations, imm (α := (List Str)) r_f0.1.2.1 f0.l.Points, imm (α := (List Section)) r_f0.1.2.2.1 f0.l.Sections, imm (α := (List Link)) r_f0.1.2.2.2 f0.l.Links, trow 40 rb_f0_1_7 lb_f0_1_7, trow 48 rb_f0_1_8 lb_f0_1_8, own b_f0 147 [.slice r_f0.1.1.a f0.l.Stations.length r_f0.1.1.cap, .slice r_f0.1.2.1.a f0.l.Points.length r_f0.1.2.1.cap, .slice r_f0.1.2.2.1.a f0.l.Sections.length r_f0.1.2.2.1.cap, .slice r_f0.1.2.2.2.a f0.l.Links.length r_f0.1.2.2.2.cap, .int .i64 f0.to, .int .i64 f0.budget, .int .i64 b_f0_1_6, .slice rb_f0_1_7.a lb_f0_1_7.length rb_f0_1_7.cap, .slice rb_f0_1_8.a lb_f0_1_8.length rb_f0_1_8.cap], trow 43 r6 y4]) (R := fun g => iter (ref6_finder_extend_b1 y4 f0 recf) g.1 g.2.1 = some y) (μ := fun g => g.1) (FUEL, (f0.used, f0.path, f0.out, 0), (r_f0.2.1, r_f0.2.2)) hM ⟨rfl, rfl, rfl, trivial⟩ (fun w hm => hm.reord) ?_
  clear hM
  intro g hM KL1 hL1
  obtain ⟨nn1, ⟨b_f0_1_6, lb_f0_1_7, lb_f0_1_8, i_1⟩, ⟨rb_f0_1_7, rb_f0_1_8⟩⟩ := g
  dsimp only at hM ⊢
  obtain ⟨nn1, cont1, rfl, hcont1, hM⟩ := iter_open' hM
  dsimp only [ref6_finder_extend_b1] at hM
  refine cw_seq fun K5 hK5 => ?_
  refine cw_seq fun K6 hK6 => ?_
  refine cw_region ?_
  refine ow_ev ev_move ?_
  refine ow_ev ev_move ?_
  refine ow_ev ev_len ?_
  refine ow_ev ev_lss ?_
  refine ow_nil (hK6 _ _ ?_); clear hK6
  refine cw_cond rfl (fun hc7 => ?_) (fun hc7 => ?_)
  ·
    replace hM := (ite_t hc7).symm.trans hM
    refine cw_skip (hK5 _ _ ?_); clear hK5
    refine cw_cut (γ := (Int × (List Step) × (List Route)) × ((SR (GoRep.R Step)) × (SR (GoRep.R Route)))) (env := fun ((b_f0_j2_6, lb_f0_j2_7, lb_f0_j2_8), (rb_f0_j2_7, rb_f0_j2_8)) => [(0, .v (.pointer (some ⟨b_f0, 0, none⟩))), (3, .v (.slice r6.a y4.length r6.cap)), (4, .v (.int .i64 (i_1 : Int)))]) (mem := fun ((b_f0_j2_6, lb_f0_j2_7, lb_f0_j2_8), (rb_f0_j2_7, rb_f0_j2_8)) => [imm (α := (List Str)) r_f0.1.1 f0.l.Stations, imm (α := (List Str)) r_f0.1.2.1 f0.l.Points, imm (α := (List Section)) r_f0.1.2.2.1 f0.l.Sections, imm (α := (List Link)) r_f0.1.2.2.2 f0.l.Links, trow 40 rb_f0_j2_7 lb_f0_j2_7, trow 48 rb_f0_j2_8 lb_f0_j2_8, own b_f0 147 [.slice r_f0.1.1.a f0.l.Stations.length r_f0.1.1.cap, .slice r_f0.1.2.1.a f0.l.Points.length r_f0.1.2.1.cap, .slice r_f0.1.2.2.1.a f0.l.Sections.length r_f0.1.2.2.1.cap, .slice r_f0.1.2.2.2.a f0.l.Links.length r_f0.1.2.2.2.cap, .int .i64 f0.to, .int .i64 f0.budget, .int .i64 b_f0_j2_6, .slice rb_f0_j2_7.a lb_f0_j2_7.length rb_f0_j2_7.cap, .slice rb_f0_j2_8.a lb_f0_j2_8.length rb_f0_j2_8.cap], trow 43 r6 y4]) (R := fun g => ref6_finder_extend_k2 i_1 cont1 g.1 = some y) ?_ ?_
    · intro KJ2 hJ2
      refine cw_block ?_
      refine cw_seq fun K7 hK7 => ?_
      refine cw_seq fun K8 hK8 => ?_
      refine cw_region ?_
      refine ow_ev ev_move ?_
      refine ow_ev ev_move ?_
      refine ow_ev ev_move ?_
      obtain ⟨x9, hx10, hM⟩ := bind_some hM
      refine ow_ev (ev_idx (xs := y4) 4 (Kn.trow (e := 43) (r := r6) (by repeat (first | exact Has.head | apply Has.tail))) (fun hg => let h := idx_some hx10; ⟨h.1, h.2.1⟩)) ?_
      refine ow_ev (ev_field_addr 0) ?_
      refine ow_ev (ev_field_addr 0) ?_
      refine ow_ev (ev_ld (i := (i_1 : Int)) (xs := y4) (y := x9) 0 (Kn.trow (e := 43) (r := r6) (by repeat (first | exact Has.head | apply Has.tail))) (fun _ => hx10)) ?_
      obtain ⟨y11, hy12, hM⟩ := bind_some hM
      refine ow_cons (st_callv (fun w hm => let ⟨S, hs⟩ := hm; ref6_finder_visited_spec _ w b_f0 (Ref6_finder.mk f0.l f0.to f0.budget b_f0_1_6 lb_f0_1_7 lb_f0_1_8) (r_f0.1, rb_f0_1_7, rb_f0_1_8) x9.To.Section y11 hy12 (lend_lt hs) (own_lend (by repeat (first | exact Has.head | apply Has.tail)) hs) ⟨⟨(Kn.lend (Kn.imm (α := List Str) (r := r_f0.1.1) (x := f0.l.Stations) (by repeat (first | exact Has.head | apply Has.tail))) hs), (Kn.lend (Kn.imm (α := List Str) (r := r_f0.1.2.1) (x := f0.l.Points) (by repeat (first | exact Has.head | apply Has.tail))) hs), (Kn.lend (Kn.imm (α := List Section) (r := r_f0.1.2.2.1) (x := f0.l.Sections) (by repeat (first | exact Has.head | apply Has.tail))) hs), (Kn.lend (Kn.imm (α := List Link) (r := r_f0.1.2.2.2) (x := f0.l.Links) (by repeat (first | exact Has.head | apply Has.tail))) hs)⟩, (Kn.lend (Kn.trow (e := 40) (r := rb_f0_1_7) (by repeat (first | exact Has.head | apply Has.tail))) hs), (Kn.lend (Kn.trow (e := 48) (r := rb_f0_1_8) (by repeat (first | exact Has.head | apply Has.tail))) hs)⟩) ?_)
      refine ow_ev ev_move ?_
      refine ow_evg rfl ev_move ?_
      refine ow_evg rfl ev_nilcheck ?_
      refine ow_evg rfl (ev_field_addr 7) ?_
      refine ow_evg rfl (ev_load_own (b := b_f0)) ?_
      refine ow_evg rfl ev_len ?_
      refine ow_evg rfl ev_geq ?_
      refine ow_ev ev_or ?_
      refine ow_nil (hK8 _ _ ?_); clear hK8
      refine cw_cond rfl (fun hc13 => ?_) (fun hc13 => ?_)
      ·
        replace hM := (ite_t hc13).symm.trans hM
        refine cw_exit (hJ2 ((b_f0_1_6, lb_f0_1_7, lb_f0_1_8), (rb_f0_1_7, rb_f0_1_8)) _ _ hM ⟨rfl, rfl, rfl, trivial⟩ (fun w hm => hm.reord))
      ·
        replace hM := (ite_f hc13).symm.trans hM
        refine cw_skip (hK7 _ _ ?_); clear hK7
        refine cw_seq fun K9 hK9 => ?_
        refine cw_region ?_
        refine ow_ev ev_move ?_
        refine ow_ev ev_nilcheck ?_
        refine ow_ev (ev_field_addr 6) ?_
        refine ow_ev (ev_load_own (b := b_f0)) ?_
        obtain ⟨hI14, hM⟩ := chk_some hM
        refine ow_ev (ev_add (hr := fun hg => i64b_I64 hI14)) ?_
        refine ow_ev ev_nilcheck ?_
        refine ow_ev (ev_field_addr 6) ?_
        refine ow_cons (st_store_own (b := b_f0) (l' := [.slice r_f0.1.1.a f0.l.Stations.length r_f0.1.1.cap, .slice r_f0.1.2.1.a f0.l.Points.length r_f0.1.2.1.cap, .slice r_f0.1.2.2.1.a f0.l.Sections.length r_f0.1.2.2.1.cap, .slice r_f0.1.2.2.2.a f0.l.Links.length r_f0.1.2.2.2.cap, .int .i64 f0.to, .int .i64 f0.budget, .int .i64 (b_f0_1_6 + 1), .slice rb_f0_1_7.a lb_f0_1_7.length rb_f0_1_7.cap, .slice rb_f0_1_8.a lb_f0_1_8.length rb_f0_1_8.cap]) (k := ?_))
        refine ow_nil (hK9 _ _ ?_); clear hK9
        refine cw_seq fun K10 hK10 => ?_
        refine cw_seq fun K11 hK11 => ?_
        refine cw_region_any _ (List.Sublist.refl _) ?_
        refine aw_ev 0 rfl ev_move ?_
        refine aw_ev 1 rfl ev_nilcheck ?_
        refine aw_ev 2 rfl (ev_field_addr 6) ?_
        refine aw_ev 3 rfl (ev_load_own (b := b_f0)) ?_
        refine aw_ev 4 rfl ev_move ?_
        refine aw_ev 5 rfl ev_nilcheck ?_
        refine aw_ev 6 rfl (ev_field_addr 5) ?_
        refine aw_ev 7 rfl (ev_load_own (b := b_f0)) ?_
        refine aw_ev 8 rfl ev_gtr ?_
        refine aw_done (hK11 _ _ ?_); clear hK11
        refine cw_cond rfl (fun hc15 => ?_) (fun hc15 => ?_)
        ·
          replace hM := (ite_t hc15).symm.trans hM
          refine cw_seq fun K12 hK12 => ?_
          refine cw_region ?_
          refine ow_ev ev_assign ?_
          refine ow_nil (hK12 _ _ ?_); clear hK12
          obtain rfl := some_inj hM
          refine cw_ret (kw_retc1 (fun w hm => post_of (rb_f0_1_7, rb_f0_1_8) hm rfl))
        ·
          replace hM := (ite_f hc15).symm.trans hM
          refine cw_skip (hK10 _ _ ?_); clear hK10
          refine cw_seq fun K13 hK13 => ?_
          refine cw_region_z [imm (α := (List Str)) r_f0.1.1 f0.l.Stations, imm (α := (List Str)) r_f0.1.2.1 f0.l.Points, imm (α := (List Section)) r_f0.1.2.2.1 f0.l.Sections, imm (α := (List Link)) r_f0.1.2.2.2 f0.l.Links, trow 48 rb_f0_1_8 lb_f0_1_8, own b_f0 147 [.slice r_f0.1.1.a f0.l.Stations.length r_f0.1.1.cap, .slice r_f0.1.2.1.a f0.l.Points.length r_f0.1.2.1.cap, .slice r_f0.1.2.2.1.a f0.l.Sections.length r_f0.1.2.2.1.cap, .slice r_f0.1.2.2.2.a f0.l.Links.length r_f0.1.2.2.2.cap, .int .i64 f0.to, .int .i64 f0.budget, .int .i64 (b_f0_1_6 + 1), .slice rb_f0_1_7.a lb_f0_1_7.length rb_f0_1_7.cap, .slice rb_f0_1_8.a lb_f0_1_8.length rb_f0_1_8.cap], trow 43 r6 y4] 14 ?_
          refine az_ev 0 rfl ev_move ?_
          refine az_ev 1 rfl ev_move ?_
          refine az_ev 2 rfl ev_nilcheck ?_
          refine az_ev 3 rfl (ev_field_addr 7) ?_
          refine az_ev 4 rfl (ev_load_own (b := b_f0)) ?_
          refine az_ev 5 rfl ev_move ?_
          refine az_ev 6 rfl ev_move ?_
          obtain ⟨x16, hx17, hM⟩ := bind_some hM
          refine az_ev 7 rfl (ev_idx (xs := y4) 4 (Kn.trow (e := 43) (r := r6) (by repeat (first | exact Has.head | apply Has.tail))) (fun hg => let h := idx_some hx17; ⟨h.1, h.2.1⟩)) ?_
          refine az_ev 8 rfl (ev_field_addr 0) ?_
          refine az_ev 9 rfl (ev_lds (m := 2) (i := (i_1 : Int)) (xs := y4) (y := x16) (l := [.int .i64 x16.To.Section, .int .i64 x16.To.Dir]) 0 (Kn.trow (e := 43) (r := r6) (by repeat (first | exact Has.head | apply Has.tail))) (fun _ => hx17)) ?_
          refine az_one 10 rfl (st_bslice (α := Step) 40 (fun _ => ()) ([x16.To] : List Step) (OkL.flat (fun _ _ _ _ => trivial)) (fun r18 => ⟨fun w hm => hm.sub (by repeat (first | exact List.Sublist.refl _ | apply List.Sublist.cons_cons | apply List.Sublist.cons)), ?_⟩))
          obtain ⟨hb19, hM⟩ := chk_some hM
          refine az_one 11 rfl (st_append (r := rb_f0_1_7) (r2 := r18) (by intro r'; repeat (first | exact Upd.head | apply Upd.tail)) (Kn.trow (e := 40) (r := r18) (by repeat (first | exact Has.head | apply Has.tail))) (OkL.flat (fun _ _ _ _ => trivial)) (of_decide_eq_true hb19) (fun r20 => ⟨fun w hm => hm.sub (by repeat (first | exact List.Sublist.refl _ | apply List.Sublist.cons_cons | apply List.Sublist.cons)), ?_⟩))
          refine az_ev 12 rfl ev_nilcheck ?_
          refine az_ev 13 rfl (ev_field_addr 7) ?_
          refine az_last rfl (st_store_own (b := b_f0) (l' := [.slice r_f0.1.1.a f0.l.Stations.length r_f0.1.1.cap, .slice r_f0.1.2.1.a f0.l.Points.length r_f0.1.2.1.cap, .slice r_f0.1.2.2.1.a f0.l.Sections.length r_f0.1.2.2.1.cap, .slice r_f0.1.2.2.2.a f0.l.Links.length r_f0.1.2.2.2.cap, .int .i64 f0.to, .int .i64 f0.budget, .int .i64 (b_f0_1_6 + 1), .slice r20.a ((lb_f0_1_7 ++ ([x16.To] : List Step)).length) r20.cap, .slice rb_f0_1_8.a lb_f0_1_8.length rb_f0_1_8.cap]) (k := ?_))
          refine az_done (hK13 _ _ ?_); clear hK13
          refine cw_cut (γ := (Int × (List Step) × (List Route)) × ((SR (GoRep.R Step)) × (SR (GoRep.R Route)))) (env := fun ((b_f0_j3_6, lb_f0_j3_7, lb_f0_j3_8), (rb_f0_j3_7, rb_f0_j3_8)) => [(0, .v (.pointer (some ⟨b_f0, 0, none⟩))), (3, .v (.slice r6.a y4.length r6.cap)), (4, .v (.int .i64 (i_1 : Int)))]) (mem := fun ((b_f0_j3_6, lb_f0_j3_7, lb_f0_j3_8), (rb_f0_j3_7, rb_f0_j3_8)) => [imm (α := (List Str)) r_f0.1.1 f0.l.Stations, imm (α := (List Str)) r_f0.1.2.1 f0.l.Points, imm (α := (List Section)) r_f0.1.2.2.1 f0.l.Sections, imm (α := (List Link)) r_f0.1.2.2.2 f0.l.Links, trow 40 rb_f0_j3_7 lb_f0_j3_7, trow 48 rb_f0_j3_8 lb_f0_j3_8, own b_f0 147 [.slice r_f0.1.1.a f0.l.Stations.length r_f0.1.1.cap, .slice r_f0.1.2.1.a f0.l.Points.length r_f0.1.2.1.cap, .slice r_f0.1.2.2.1.a f0.l.Sections.length r_f0.1.2.2.1.cap, .slice r_f0.1.2.2.2.a f0.l.Links.length r_f0.1.2.2.2.cap, .int .i64 f0.to, .int .i64 f0.budget, .int .i64 b_f0_j3_6, .slice rb_f0_j3_7.a lb_f0_j3_7.length rb_f0_j3_7.cap, .slice rb_f0_j3_8.a lb_f0_j3_8.length rb_f0_j3_8.cap], trow 43 r6 y4]) (R := fun g => ref6_finder_extend_k3 i_1 cont1 g.1 = some y) ?_ ?_
          · intro KJ3 hJ3
            refine cw_seq fun K14 hK14 => ?_
            refine cw_region_any _ (List.Sublist.refl _) ?_
            refine aw_ev 0 rfl ev_move ?_
            refine aw_ev 1 rfl ev_move ?_
            obtain ⟨x25, hx26, hM⟩ := bind_some hM
            refine aw_ev 2 rfl (ev_idx (xs := y4) 4 (Kn.trow (e := 43) (r := r6) (by repeat (first | exact Has.head | apply Has.tail))) (fun hg => let h := idx_some hx26; ⟨h.1, h.2.1⟩)) ?_
            refine aw_ev 3 rfl (ev_field_addr 0) ?_
            refine aw_ev 4 rfl (ev_field_addr 0) ?_
            refine aw_ev 5 rfl (ev_ld (i := (i_1 : Int)) (xs := y4) (y := x25) 0 (Kn.trow (e := 43) (r := r6) (by repeat (first | exact Has.head | apply Has.tail))) (fun _ => hx26)) ?_
            refine aw_ev 6 rfl ev_move ?_
            refine aw_ev 7 rfl ev_nilcheck ?_
            refine aw_ev 8 rfl (ev_field_addr 4) ?_
            refine aw_ev 9 rfl (ev_load_own (b := b_f0)) ?_
            refine aw_ev 10 rfl ev_eql ?_
            refine aw_done (hK14 _ _ ?_); clear hK14
            refine cw_cond rfl (fun hc27 => ?_) (fun hc27 => ?_)
            ·
              replace hM := (ite_t hc27).symm.trans hM
              refine cw_region_z [trow 40 r18 ([x16.To] : List Step), imm (α := (List Str)) r_f0.1.1 f0.l.Stations, imm (α := (List Str)) r_f0.1.2.1 f0.l.Points, imm (α := (List Section)) r_f0.1.2.2.1 f0.l.Sections, imm (α := (List Link)) r_f0.1.2.2.2 f0.l.Links, trow 40 r20 (lb_f0_1_7 ++ ([x16.To] : List Step)), own b_f0 147 [.slice r_f0.1.1.a f0.l.Stations.length r_f0.1.1.cap, .slice r_f0.1.2.1.a f0.l.Points.length r_f0.1.2.1.cap, .slice r_f0.1.2.2.1.a f0.l.Sections.length r_f0.1.2.2.1.cap, .slice r_f0.1.2.2.2.a f0.l.Links.length r_f0.1.2.2.2.cap, .int .i64 f0.to, .int .i64 f0.budget, .int .i64 (b_f0_1_6 + 1), .slice r20.a ((lb_f0_1_7 ++ ([x16.To] : List Step)).length) r20.cap, .slice rb_f0_1_8.a lb_f0_1_8.length rb_f0_1_8.cap], trow 43 r6 y4] 15 ?_
              refine az_ev 0 rfl ev_move ?_
              refine az_ev 1 rfl ev_move ?_
              refine az_ev 2 rfl ev_nilcheck ?_
              refine az_ev 3 rfl (ev_field_addr 8) ?_
              refine az_ev 4 rfl (ev_load_own (b := b_f0)) ?_
              refine az_ev 5 rfl ev_move ?_
              refine az_ev 6 rfl ev_nilcheck ?_
              refine az_ev 7 rfl (ev_field_addr 7) ?_
              refine az_ev 8 rfl (ev_load_own (b := b_f0)) ?_
              refine az_imp (fun w hm => hm.row_nil (α := Step) 40 (fun _ => ())) ?_
              obtain ⟨hb29, hM⟩ := chk_some hM
              refine az_one 9 rfl (st_append (r := (⟨none, 0, (fun _ => ())⟩ : SR (GoRep.R Step)                                        )) (r2 := r20) (by intro r'; repeat (first | exact Upd.head | apply Upd.tail)) (Kn.trow (e := 40) (r := r20) (by repeat (first | exact Has.head | apply Has.tail))) (OkL.flat (fun _ _ _ _ => trivial)) (of_decide_eq_true hb29) (fun r30 => ⟨fun w hm => hm.sub (by repeat (first | exact List.Sublist.refl _ | apply List.Sublist.cons_cons | apply List.Sublist.cons)), ?_⟩))
              refine az_ev 10 rfl (ev_build [.slice r30.a ((([] : List Step) ++ (lb_f0_1_7 ++ ([x16.To] : List Step))).length) r30.cap, .int .i64 0]) ?_
              refine az_imp (fun w hm => hm.freeze (r := r30) (by repeat (first | exact Upd.head | apply Upd.tail))) ?_
              refine az_one 11 rfl (st_bslice (α := Route) 48 (fun _ => r30) ([(Route.mk (([] : List Step) ++ (lb_f0_1_7 ++ ([x16.To] : List Step))) 0)] : List Route) (OkL.cons (fun S w hs => ((Sk.imm (α := List Step) (r := r30) (x := (([] : List Step) ++ (lb_f0_1_7 ++ ([x16.To] : List Step)))) (by repeat (first | exact Has.head | apply Has.tail))) S w hs)) OkL.nil) (fun r31 => ⟨fun w hm => hm.sub (by repeat (first | exact List.Sublist.refl _ | apply List.Sublist.cons_cons | apply List.Sublist.cons)), ?_⟩))
              obtain ⟨hb32, hM⟩ := chk_some hM
              refine az_one 12 rfl (st_append (r := rb_f0_1_8) (r2 := r31) (by intro r'; repeat (first | exact Upd.head | apply Upd.tail)) (Kn.trow (e := 48) (r := r31) (by repeat (first | exact Has.head | apply Has.tail))) (OkL.row (e := 48) (r := r31) (by repeat (first | exact Has.head | apply Has.tail))) (of_decide_eq_true hb32) (fun r33 => ⟨fun w hm => hm.sub (by repeat (first | exact List.Sublist.refl _ | apply List.Sublist.cons_cons | apply List.Sublist.cons)), ?_⟩))
              refine az_ev 13 rfl ev_nilcheck ?_
              refine az_ev 14 rfl (ev_field_addr 8) ?_
              refine az_last rfl (st_store_own (b := b_f0) (l' := [.slice r_f0.1.1.a f0.l.Stations.length r_f0.1.1.cap, .slice r_f0.1.2.1.a f0.l.Points.length r_f0.1.2.1.cap, .slice r_f0.1.2.2.1.a f0.l.Sections.length r_f0.1.2.2.1.cap, .slice r_f0.1.2.2.2.a f0.l.Links.length r_f0.1.2.2.2.cap, .int .i64 f0.to, .int .i64 f0.budget, .int .i64 (b_f0_1_6 + 1), .slice r20.a ((lb_f0_1_7 ++ ([x16.To] : List Step)).length) r20.cap, .slice r33.a ((lb_f0_1_8 ++ ([(Route.mk (([] : List Step) ++ (lb_f0_1_7 ++ ([x16.To] : List Step))) 0)] : List Route)).length) r33.cap]) (k := ?_))
              refine az_done (hJ3 (((b_f0_1_6 + 1), (lb_f0_1_7 ++ ([x16.To] : List Step)), (lb_f0_1_8 ++ ([(Route.mk (([] : List Step) ++ (lb_f0_1_7 ++ ([x16.To] : List Step))) 0)] : List Route))), (r20, r33)) _ _ hM ⟨rfl, rfl, rfl, trivial⟩ (fun w hm => hm.reord))
            ·
              replace hM := (ite_f hc27).symm.trans hM
              refine cw_seq fun K15 hK15 => ?_
              refine cw_region ?_
              refine ow_ev ev_move ?_
              obtain ⟨y34, hy35, hM⟩ := bind_some hM
              refine ow_cons (st_callS (by repeat (first | exact SelL.nil | (apply SelL.cons; · (repeat (first | exact Sel.head | apply Sel.tail))))) (fun S w hs hP => hrec _ w b_f0 (Ref6_finder.mk f0.l f0.to f0.budget (b_f0_1_6 + 1) (lb_f0_1_7 ++ ([x16.To] : List Step)) lb_f0_1_8) (r_f0.1, r20, rb_f0_1_8) y34 hy35 hP ((Sk.imm (α := List Str) (r := r_f0.1.1) (x := f0.l.Stations) (by repeat (first | exact Has.head | apply Has.tail))) S w hs) ((Sk.imm (α := List Str) (r := r_f0.1.2.1) (x := f0.l.Points) (by repeat (first | exact Has.head | apply Has.tail))) S w hs) ((Sk.imm (α := List Section) (r := r_f0.1.2.2.1) (x := f0.l.Sections) (by repeat (first | exact Has.head | apply Has.tail))) S w hs) ((Sk.imm (α := List Link) (r := r_f0.1.2.2.2) (x := f0.l.Links) (by repeat (first | exact Has.head | apply Has.tail))) S w hs))  (fun r36 => ?_))
              dsimp only [List.cons_append, List.nil_append]
              refine ow_ev ev_not ?_
              refine ow_nil (hK15 _ _ ?_); clear hK15
              refine cw_cond rfl (fun hc37 => ?_) (fun hc37 => ?_)
              ·
                replace hM := (ite_t hc37).symm.trans hM
                refine cw_seq fun K16 hK16 => ?_
                refine cw_region ?_
                refine ow_ev ev_assign ?_
                refine ow_nil (hK16 _ _ ?_); clear hK16
                obtain rfl := some_inj hM
                refine cw_ret (kw_retc1 (fun w hm => post_of (r36.1, r36.2) hm rfl))
              ·
                replace hM := (ite_f hc37).symm.trans hM
                refine cw_skip (hJ3 ((y34.2.1, y34.2.2.1, y34.2.2.2), (r36.1, r36.2)) _ _ hM ⟨rfl, rfl, rfl, trivial⟩ (fun w hm => hm.reord))
          ·
            clear hM
            intro g hM
            obtain ⟨⟨b_f0_j3_6, lb_f0_j3_7, lb_f0_j3_8⟩, ⟨rb_f0_j3_7, rb_f0_j3_8⟩⟩ := g
            dsimp only at hM ⊢
            dsimp only [ref6_finder_extend_k3] at hM
            refine cw_region_z [imm (α := (List Str)) r_f0.1.1 f0.l.Stations, imm (α := (List Str)) r_f0.1.2.1 f0.l.Points, imm (α := (List Section)) r_f0.1.2.2.1 f0.l.Sections, imm (α := (List Link)) r_f0.1.2.2.2 f0.l.Links, trow 48 rb_f0_j3_8 lb_f0_j3_8, own b_f0 147 [.slice r_f0.1.1.a f0.l.Stations.length r_f0.1.1.cap, .slice r_f0.1.2.1.a f0.l.Points.length r_f0.1.2.1.cap, .slice r_f0.1.2.2.1.a f0.l.Sections.length r_f0.1.2.2.1.cap, .slice r_f0.1.2.2.2.a f0.l.Links.length r_f0.1.2.2.2.cap, .int .i64 f0.to, .int .i64 f0.budget, .int .i64 b_f0_j3_6, .slice rb_f0_j3_7.a lb_f0_j3_7.length rb_f0_j3_7.cap, .slice rb_f0_j3_8.a lb_f0_j3_8.length rb_f0_j3_8.cap], trow 43 r6 y4] 14 ?_
            refine az_ev 0 rfl ev_move ?_
            refine az_ev 1 rfl ev_move ?_
            refine az_ev 2 rfl ev_nilcheck ?_
            refine az_ev 3 rfl (ev_field_addr 7) ?_
            refine az_ev 4 rfl (ev_load_own (b := b_f0)) ?_
            refine az_ev 5 rfl ev_move ?_
            refine az_ev 6 rfl ev_nilcheck ?_
            refine az_ev 7 rfl (ev_field_addr 7) ?_
            refine az_ev 8 rfl (ev_load_own (b := b_f0)) ?_
            refine az_one 9 rfl (st_ev ev_len ⟨fun w hm => hm.sub (by repeat (first | exact List.Sublist.refl _ | apply List.Sublist.cons_cons | apply List.Sublist.cons)), ?_⟩)
            obtain ⟨hI21, hM⟩ := chk_some hM
            refine az_ev 10 rfl (ev_sub (hr := fun hg => i64b_I64 hI21)) ?_
            obtain ⟨l22, hl23, hM⟩ := bind_some hM
            refine az_one 11 rfl (st_subrow (r := rb_f0_j3_7) (xs := lb_f0_j3_7) (ol := none) (oh := some (.i64, ((lb_f0_j3_7.length : Int) - 1))) (by intro r'; repeat (first | exact Upd.head | apply Upd.tail)) hl23 (fun r24 => ⟨fun w hm => hm.sub (by repeat (first | exact List.Sublist.refl _ | apply List.Sublist.cons_cons | apply List.Sublist.cons)), ?_⟩))
            refine az_ev 12 rfl ev_nilcheck ?_
            refine az_ev 13 rfl (ev_field_addr 7) ?_
            refine az_last rfl (st_store_own (b := b_f0) (l' := [.slice r_f0.1.1.a f0.l.Stations.length r_f0.1.1.cap, .slice r_f0.1.2.1.a f0.l.Points.length r_f0.1.2.1.cap, .slice r_f0.1.2.2.1.a f0.l.Sections.length r_f0.1.2.2.1.cap, .slice r_f0.1.2.2.2.a f0.l.Links.length r_f0.1.2.2.2.cap, .int .i64 f0.to, .int .i64 f0.budget, .int .i64 b_f0_j3_6, .slice r24.a l22.length r24.cap, .slice rb_f0_j3_8.a lb_f0_j3_8.length rb_f0_j3_8.cap]) (k := ?_))
            refine az_done (hJ2 ((b_f0_j3_6, l22, lb_f0_j3_8), (r24, rb_f0_j3_8)) _ _ hM ⟨rfl, rfl, rfl, trivial⟩ (fun w hm => hm.reord))
    ·
      clear hM
      intro g hM
      obtain ⟨⟨b_f0_j2_6, lb_f0_j2_7, lb_f0_j2_8⟩, ⟨rb_f0_j2_7, rb_f0_j2_8⟩⟩ := g
      dsimp only at hM ⊢
      dsimp only [ref6_finder_extend_k2] at hM
      refine cw_region ?_
      refine ow_ev ev_move ?_
      obtain ⟨hI8, hM⟩ := chk_some hM
      refine ow_ev (ev_add (hr := fun hg => i64b_I64 hI8)) ?_
      refine ow_ev ev_assign ?_
      refine ow_nil (hL1 (nn1, (b_f0_j2_6, lb_f0_j2_7, lb_f0_j2_8, i_1 + 1), (rb_f0_j2_7, rb_f0_j2_8)) _ _ (eqc hcont1 hM) (Nat.lt_succ_self _) ⟨rfl, rfl, rfl, trivial⟩ (fun w hm => hm.reord))
  ·
    replace hM := (ite_f hc7).symm.trans hM
    refine cw_exit (hK3 _ _ ?_); clear hK3
    dsimp only [ref6_finder_extend_k1] at hM
    refine cw_seq fun K17 hK17 => ?_
    refine cw_region ?_
    refine ow_ev ev_assign ?_
    refine ow_nil (hK17 _ _ ?_); clear hK17
    obtain rfl := some_inj hM
    refine cw_ret (kw_retc1 (fun w hm => post_of (rb_f0_1_7, rb_f0_1_8) hm rfl))
theorem ref6_finder_extend_spec_f (n : Nat) : ∀ (S : Soup) (w : World) (b_f0 : Nat) (f0 : Ref6_finder) (r_f0 : GoRep.R Ref6_finder) (y : Bool × Int × (List Step) × (List Route)) (hM : ref6_finder_extend_f n f0 = some y) (hP : Pre S [own b_f0 147 [.slice r_f0.1.1.a f0.l.Stations.length r_f0.1.1.cap, .slice r_f0.1.2.1.a f0.l.Points.length r_f0.1.2.1.cap, .slice r_f0.1.2.2.1.a f0.l.Sections.length r_f0.1.2.2.1.cap, .slice r_f0.1.2.2.2.a f0.l.Links.length r_f0.1.2.2.2.cap, .int .i64 f0.to, .int .i64 f0.budget, .int .i64 f0.used, .slice r_f0.2.1.a f0.path.length r_f0.2.1.cap, .slice r_f0.2.2.a f0.out.length r_f0.2.2.cap], trow 40 r_f0.2.1 f0.path, trow 48 r_f0.2.2 f0.out] w) (h_f0_0 : GoRep.ok (α := List Str) S w r_f0.1.1 f0.l.Stations) (h_f0_1 : GoRep.ok (α := List Str) S w r_f0.1.2.1 f0.l.Points) (h_f0_2 : GoRep.ok (α := List Section) S w r_f0.1.2.2.1 f0.l.Sections) (h_f0_3 : GoRep.ok (α := List Link) S w r_f0.1.2.2.2 f0.l.Links), Calls Try.prog 89 #[.pointer (some ⟨b_f0, 0, none⟩)] w (Post (β := (SR (GoRep.R Step)) × (SR (GoRep.R Route))) S [own b_f0 147 [.slice r_f0.1.1.a f0.l.Stations.length r_f0.1.1.cap, .slice r_f0.1.2.1.a f0.l.Points.length r_f0.1.2.1.cap, .slice r_f0.1.2.2.1.a f0.l.Sections.length r_f0.1.2.2.1.cap, .slice r_f0.1.2.2.2.a f0.l.Links.length r_f0.1.2.2.2.cap, .int .i64 f0.to, .int .i64 f0.budget, .int .i64 f0.used, .slice r_f0.2.1.a f0.path.length r_f0.2.1.cap, .slice r_f0.2.2.a f0.out.length r_f0.2.2.cap], trow 40 r_f0.2.1 f0.path, trow 48 r_f0.2.2 f0.out] (fun g => .bool y.1) (fun g => [own b_f0 147 [.slice r_f0.1.1.a f0.l.Stations.length r_f0.1.1.cap, .slice r_f0.1.2.1.a f0.l.Points.length r_f0.1.2.1.cap, .slice r_f0.1.2.2.1.a f0.l.Sections.length r_f0.1.2.2.1.cap, .slice r_f0.1.2.2.2.a f0.l.Links.length r_f0.1.2.2.2.cap, .int .i64 f0.to, .int .i64 f0.budget, .int .i64 y.2.1, .slice g.1.a y.2.2.1.length g.1.cap, .slice g.2.a y.2.2.2.length g.2.cap], trow 40 g.1 y.2.2.1, trow 48 g.2 y.2.2.2]) w) := by
  induction n with
  | zero => intro S w b_f0 f0 r_f0 y hM hP h_f0_0 h_f0_1 h_f0_2 h_f0_3; exact absurd hM (by intro h; cases h)
  | succ n ih => intro S w b_f0 f0 r_f0 y hM hP h_f0_0 h_f0_1 h_f0_2 h_f0_3; exact ref6_finder_extend_step (ref6_finder_extend_f n) ih S w b_f0 f0 r_f0 y hM hP h_f0_0 h_f0_1 h_f0_2 h_f0_3
theorem ref6_finder_extend_spec (S : Soup) (w : World) (b_f0 : Nat) (f0 : Ref6_finder) (r_f0 : GoRep.R Ref6_finder) (y : Bool × Int × (List Step) × (List Route)) (hM : ref6_finder_extend_m f0 = some y) (hP : Pre S [own b_f0 147 [.slice r_f0.1.1.a f0.l.Stations.length r_f0.1.1.cap, .slice r_f0.1.2.1.a f0.l.Points.length r_f0.1.2.1.cap, .slice r_f0.1.2.2.1.a f0.l.Sections.length r_f0.1.2.2.1.cap, .slice r_f0.1.2.2.2.a f0.l.Links.length r_f0.1.2.2.2.cap, .int .i64 f0.to, .int .i64 f0.budget, .int .i64 f0.used, .slice r_f0.2.1.a f0.path.length r_f0.2.1.cap, .slice r_f0.2.2.a f0.out.length r_f0.2.2.cap], trow 40 r_f0.2.1 f0.path, trow 48 r_f0.2.2 f0.out] w) (h_f0_0 : GoRep.ok (α := List Str) S w r_f0.1.1 f0.l.Stations) (h_f0_1 : GoRep.ok (α := List Str) S w r_f0.1.2.1 f0.l.Points) (h_f0_2 : GoRep.ok (α := List Section) S w r_f0.1.2.2.1 f0.l.Sections) (h_f0_3 : GoRep.ok (α := List Link) S w r_f0.1.2.2.2 f0.l.Links) :
    Calls Try.prog 89 #[.pointer (some ⟨b_f0, 0, none⟩)] w (Post (β := (SR (GoRep.R Step)) × (SR (GoRep.R Route))) S [own b_f0 147 [.slice r_f0.1.1.a f0.l.Stations.length r_f0.1.1.cap, .slice r_f0.1.2.1.a f0.l.Points.length r_f0.1.2.1.cap, .slice r_f0.1.2.2.1.a f0.l.Sections.length r_f0.1.2.2.1.cap, .slice r_f0.1.2.2.2.a f0.l.Links.length r_f0.1.2.2.2.cap, .int .i64 f0.to, .int .i64 f0.budget, .int .i64 f0.used, .slice r_f0.2.1.a f0.path.length r_f0.2.1.cap, .slice r_f0.2.2.a f0.out.length r_f0.2.2.cap], trow 40 r_f0.2.1 f0.path, trow 48 r_f0.2.2 f0.out] (fun g => .bool y.1) (fun g => [own b_f0 147 [.slice r_f0.1.1.a f0.l.Stations.length r_f0.1.1.cap, .slice r_f0.1.2.1.a f0.l.Points.length r_f0.1.2.1.cap, .slice r_f0.1.2.2.1.a f0.l.Sections.length r_f0.1.2.2.1.cap, .slice r_f0.1.2.2.2.a f0.l.Links.length r_f0.1.2.2.2.cap, .int .i64 f0.to, .int .i64 f0.budget, .int .i64 y.2.1, .slice g.1.a y.2.2.1.length g.1.cap, .slice g.2.a y.2.2.2.length g.2.cap], trow 40 g.1 y.2.2.1, trow 48 g.2 y.2.2.2]) w) := ref6_finder_extend_spec_f FUEL S w b_f0 f0 r_f0 y hM hP h_f0_0 h_f0_1 h_f0_2 h_f0_3

def ref6_Find_m (l0 : Layout) (from0 : Step) (to0 : Int) (budget0 : Int) : Option ((List Route) × Int × Int) :=
  (ref1_Check_m l0).bind fun y3 =>
  if decide (y3 ≠ 0) then
    (some (([] : List Route), 0, 1))
  else
    (chk (i64b ((l0.Sections.length : Int) - 1)) <|
    (ref6_in_m from0.Section 0 ((l0.Sections.length : Int) - 1)).bind fun y8 =>
    (whn (!(!y8)) default (ref6_in_m from0.Dir 0 1)).bind fun y10 =>
    chk (!(!((!y8) || (!y10))) || i64b ((l0.Sections.length : Int) - 1)) <|
    (whn (!((!y8) || (!y10))) default (ref6_in_m to0 0 ((l0.Sections.length : Int) - 1))).bind fun y13 =>
    (whn (!(((!y8) || (!y10)) || (!y13))) default (ref6_in_m budget0 1 1048576)).bind fun y15 =>
    if ((((!y8) || (!y10)) || (!y13)) || (!y15)) then
      (some (([] : List Route), 0, 4))
    else
      ((ref6_finder_extend_m (Ref6_finder.mk l0 to0 budget0 1 ([from0] : List Step) ([] : List Route))).bind fun y22 =>
      if (!y22.1) then
        (some (([] : List Route), 0, 15))
      else
        (if decide ((y22.2.2.2.length : Int) = 0) then
          (some (([] : List Route), 0, 6))
        else
          (some (y22.2.2.2, y22.2.1, 0)))))
theorem ref6_Find_spec (S : Soup) (w : World) (l0 : Layout) (r_l0 : GoRep.R Layout) (from0 : Step) (to0 : Int) (budget0 : Int) (y : (List Route) × Int × Int) (hM : ref6_Find_m l0 from0 to0 budget0 = some y) (hS : ∀ k, S k → k < w.heap.size) (h_l0 : GoRep.ok S w r_l0 l0) :
    Calls Try.prog 64 #[.agg #[.slice r_l0.1.a l0.Stations.length r_l0.1.cap, .slice r_l0.2.1.a l0.Points.length r_l0.2.1.cap, .slice r_l0.2.2.1.a l0.Sections.length r_l0.2.2.1.cap, .slice r_l0.2.2.2.a l0.Links.length r_l0.2.2.2.cap], .agg #[.int .i64 from0.Section, .int .i64 from0.Dir], .int .i64 to0, .int .i64 budget0] w (Post (β := (GoRep.R (List Route))) S [] (fun g => .tuple #[.slice g.a y.1.length g.cap, .int .i64 y.2.1, .int .i64 y.2.2]) (fun g => [trow 48 g y.1]) w) := by
  refine calls_cw (args := [_, _, _, _]) Try.func64 rfl ((pre_nil hS).start |>.immP (α := List Str) (r := r_l0.1) (x := l0.Stations) h_l0.1|>.immP (α := List Str) (r := r_l0.2.1) (x := l0.Points) h_l0.2.1|>.immP (α := List Section) (r := r_l0.2.2.1) (x := l0.Sections) h_l0.2.2.1|>.immP (α := List Link) (r := r_l0.2.2.2) (x := l0.Links) h_l0.2.2.2) rfl ?_
  unfold ref6_Find_m at hM
  refine cw_seq fun K1 hK1 => ?_
  refine cw_region ?_
  refine ow_cons (st_box (l := [.slice r_l0.1.a l0.Stations.length r_l0.1.cap, .slice r_l0.2.1.a l0.Points.length r_l0.2.1.cap, .slice r_l0.2.2.1.a l0.Sections.length r_l0.2.2.1.cap, .slice r_l0.2.2.2.a l0.Links.length r_l0.2.2.2.cap]) (k := fun b1 => ?_))
  refine ow_cons (st_box (l := [.int .i64 from0.Section, .int .i64 from0.Dir]) (k := fun b2 => ?_))
  refine ow_ev ev_assign ?_
  refine ow_ev ev_assign ?_
  refine ow_ev ev_assign ?_
  refine ow_nil (hK1 _ _ ?_); clear hK1
  refine cw_seq fun K2 hK2 => ?_
  refine cw_seq fun K3 hK3 => ?_
  refine cw_region ?_
  refine ow_ev (ev_load_all (b := b1)) ?_
  obtain ⟨y3, hy4, hM⟩ := bind_some hM
  refine ow_cons (st_callv (fun w hm => let ⟨S, hs⟩ := hm; ref1_Check_spec _ w l0 r_l0 y3 hy4 (lend_lt hs) ⟨(Kn.lend (Kn.imm (α := List Str) (r := r_l0.1) (x := l0.Stations) (by repeat (first | exact Has.head | apply Has.tail))) hs), (Kn.lend (Kn.imm (α := List Str) (r := r_l0.2.1) (x := l0.Points) (by repeat (first | exact Has.head | apply Has.tail))) hs), (Kn.lend (Kn.imm (α := List Section) (r := r_l0.2.2.1) (x := l0.Sections) (by repeat (first | exact Has.head | apply Has.tail))) hs), (Kn.lend (Kn.imm (α := List Link) (r := r_l0.2.2.2) (x := l0.Links) (by repeat (first | exact Has.head | apply Has.tail))) hs)⟩) ?_)
  refine ow_ev ev_neq ?_
  refine ow_nil (hK3 _ _ ?_); clear hK3
  refine cw_cond rfl (fun hc5 => ?_) (fun hc5 => ?_)
  ·
    replace hM := (ite_t hc5).symm.trans hM
    refine cw_seq fun K4 hK4 => ?_
    refine cw_region ?_
    refine ow_ev ev_assign ?_
    refine ow_ev ev_assign ?_
    refine ow_ev ev_assign ?_
    refine ow_nil (hK4 _ _ ?_); clear hK4
    refine cw_imp (fun w hm => hm.row_nil (α := Route) 48 (fun _ => (⟨none, 0, (fun _ => ())⟩ : SR (GoRep.R Step)))) ?_
    obtain rfl := some_inj hM
    refine cw_ret (kw_retc3 (fun w hm => post_of (⟨none, 0, (fun _ => (⟨none, 0, (fun _ => ())⟩ : SR (GoRep.R Step)))⟩ : SR (GoRep.R Route) ) hm rfl))
  ·
    replace hM := (ite_f hc5).symm.trans hM
    refine cw_skip (hK2 _ _ ?_); clear hK2
    refine cw_seq fun K5 hK5 => ?_
    refine cw_seq fun K6 hK6 => ?_
    refine cw_region ?_
    refine ow_ev (ev_field_addr 0) ?_
    refine ow_ev (ev_load_own (b := b2)) ?_
    refine ow_ev (ev_field_addr 2) ?_
    refine ow_ev (ev_load_own (b := b1)) ?_
    refine ow_ev ev_len ?_
    obtain ⟨hI7, hM⟩ := chk_some hM
    refine ow_ev (ev_sub (hr := fun hg => i64b_I64 hI7)) ?_
    obtain ⟨y8, hy9, hM⟩ := bind_some hM
    refine ow_cons (st_callv (fun w hm => let ⟨S, hs⟩ := hm; ref6_in_spec _ w from0.Section 0 ((l0.Sections.length : Int) - 1) y8 hy9 (lend_lt hs) ) ?_)
    refine ow_ev ev_not ?_
    refine ow_ev ev_move ?_
    refine ow_evg rfl (ev_field_addr 1) ?_
    refine ow_evg rfl (ev_load_own (b := b2)) ?_
    obtain ⟨y10, hy11, hM⟩ := bind_some hM
    refine ow_callg rfl (fun hg w hm => let ⟨S, hs⟩ := hm; ref6_in_spec _ w from0.Dir 0 1 y10 (whn_some hy11 hg) (lend_lt hs) ) ?_
    refine ow_evg rfl ev_not ?_
    refine ow_ev ev_or ?_
    refine ow_ev ev_move ?_
    refine ow_evg rfl ev_move ?_
    refine ow_evg rfl (ev_field_addr 2) ?_
    refine ow_evg rfl (ev_load_own (b := b1)) ?_
    refine ow_evg rfl ev_len ?_
    obtain ⟨hI12, hM⟩ := chk_some hM
    refine ow_evg rfl (ev_sub (hr := fun hg => i64b_I64 (gor hI12 hg))) ?_
    obtain ⟨y13, hy14, hM⟩ := bind_some hM
    refine ow_callg rfl (fun hg w hm => let ⟨S, hs⟩ := hm; ref6_in_spec _ w to0 0 ((l0.Sections.length : Int) - 1) y13 (whn_some hy14 hg) (lend_lt hs) ) ?_
    refine ow_evg rfl ev_not ?_
    refine ow_ev ev_or ?_
    refine ow_ev ev_move ?_
    refine ow_evg rfl ev_move ?_
    obtain ⟨y15, hy16, hM⟩ := bind_some hM
    refine ow_callg rfl (fun hg w hm => let ⟨S, hs⟩ := hm; ref6_in_spec _ w budget0 1 1048576 y15 (whn_some hy16 hg) (lend_lt hs) ) ?_
    refine ow_evg rfl ev_not ?_
    refine ow_ev ev_or ?_
    refine ow_nil (hK6 _ _ ?_); clear hK6
    refine cw_cond rfl (fun hc17 => ?_) (fun hc17 => ?_)
    ·
      replace hM := (ite_t hc17).symm.trans hM
      refine cw_seq fun K7 hK7 => ?_
      refine cw_region ?_
      refine ow_ev ev_assign ?_
      refine ow_ev ev_assign ?_
      refine ow_ev ev_assign ?_
      refine ow_nil (hK7 _ _ ?_); clear hK7
      refine cw_imp (fun w hm => hm.row_nil (α := Route) 48 (fun _ => (⟨none, 0, (fun _ => ())⟩ : SR (GoRep.R Step)))) ?_
      obtain rfl := some_inj hM
      refine cw_ret (kw_retc3 (fun w hm => post_of (⟨none, 0, (fun _ => (⟨none, 0, (fun _ => ())⟩ : SR (GoRep.R Step)))⟩ : SR (GoRep.R Route)  ) hm rfl))
    ·
      replace hM := (ite_f hc17).symm.trans hM
      refine cw_skip (hK5 _ _ ?_); clear hK5
      refine cw_seq fun K8 hK8 => ?_
      refine cw_region ?_
      refine ow_ev (ev_load_all (b := b1)) ?_
      refine ow_ev ev_move ?_
      refine ow_ev ev_move ?_
      refine ow_ev (ev_load_all (b := b2)) ?_
      refine ow_cons (st_bslice (α := Step) 40 (fun _ => ()) ([from0] : List Step) (OkL.flat (fun _ _ _ _ => trivial)) (fun r19 => ?_))
      refine ow_ev (ev_build [.slice r_l0.1.a l0.Stations.length r_l0.1.cap, .slice r_l0.2.1.a l0.Points.length r_l0.2.1.cap, .slice r_l0.2.2.1.a l0.Sections.length r_l0.2.2.1.cap, .slice r_l0.2.2.2.a l0.Links.length r_l0.2.2.2.cap, .int .i64 to0, .int .i64 budget0, .int .i64 1, .slice r19.a (([from0] : List Step).length) r19.cap, .slice none 0 0]) ?_
      refine ow_cons (st_box (l := [.slice r_l0.1.a l0.Stations.length r_l0.1.cap, .slice r_l0.2.1.a l0.Points.length r_l0.2.1.cap, .slice r_l0.2.2.1.a l0.Sections.length r_l0.2.2.1.cap, .slice r_l0.2.2.2.a l0.Links.length r_l0.2.2.2.cap, .int .i64 to0, .int .i64 budget0, .int .i64 1, .slice r19.a (([from0] : List Step).length) r19.cap, .slice none 0 0]) (k := fun b20 => ?_))
      refine ow_ev ev_assign ?_
      refine ow_nil (hK8 _ _ ?_); clear hK8
      refine cw_seq fun K9 hK9 => ?_
      refine cw_seq fun K10 hK10 => ?_
      refine cw_region ?_
      refine ow_ev ev_move ?_
      refine ow_imp (fun w hm => hm.row_nil (α := Route) 48 (fun _ => (⟨none, 0, (fun _ => ())⟩ : SR (GoRep.R Step)))) ?_
      obtain ⟨y22, hy23, hM⟩ := bind_some hM
      refine ow_cons (st_callS (by repeat (first | exact SelL.nil | (apply SelL.cons; · (repeat (first | exact Sel.head | apply Sel.tail))))) (fun S w hs hP => ref6_finder_extend_spec _ w b20 (Ref6_finder.mk l0 to0 budget0 1 ([from0] : List Step) ([] : List Route)) (r_l0, r19, (⟨none, 0, (fun _ => (⟨none, 0, (fun _ => ())⟩ : SR (GoRep.R Step)))⟩ : SR (GoRep.R Route)   )) y22 hy23 hP ((Sk.imm (α := List Str) (r := r_l0.1) (x := l0.Stations) (by repeat (first | exact Has.head | apply Has.tail))) S w hs) ((Sk.imm (α := List Str) (r := r_l0.2.1) (x := l0.Points) (by repeat (first | exact Has.head | apply Has.tail))) S w hs) ((Sk.imm (α := List Section) (r := r_l0.2.2.1) (x := l0.Sections) (by repeat (first | exact Has.head | apply Has.tail))) S w hs) ((Sk.imm (α := List Link) (r := r_l0.2.2.2) (x := l0.Links) (by repeat (first | exact Has.head | apply Has.tail))) S w hs))  (fun r24 => ?_))
      dsimp only [List.cons_append, List.nil_append]
      refine ow_ev ev_not ?_
      refine ow_nil (hK10 _ _ ?_); clear hK10
      refine cw_cond rfl (fun hc25 => ?_) (fun hc25 => ?_)
      ·
        replace hM := (ite_t hc25).symm.trans hM
        refine cw_seq fun K11 hK11 => ?_
        refine cw_region ?_
        refine ow_ev ev_assign ?_
        refine ow_ev ev_assign ?_
        refine ow_ev ev_assign ?_
        refine ow_nil (hK11 _ _ ?_); clear hK11
        refine cw_imp (fun w hm => hm.row_nil (α := Route) 48 (fun _ => (⟨none, 0, (fun _ => ())⟩ : SR (GoRep.R Step)))) ?_
        obtain rfl := some_inj hM
        refine cw_ret (kw_retc3 (fun w hm => post_of (⟨none, 0, (fun _ => (⟨none, 0, (fun _ => ())⟩ : SR (GoRep.R Step)))⟩ : SR (GoRep.R Route)    ) hm rfl))
      ·
        replace hM := (ite_f hc25).symm.trans hM
        refine cw_skip (hK9 _ _ ?_); clear hK9
        refine cw_seq fun K12 hK12 => ?_
        refine cw_seq fun K13 hK13 => ?_
        refine cw_region ?_
        refine ow_ev ev_move ?_
        refine ow_ev ev_nilcheck ?_
        refine ow_ev (ev_field_addr 8) ?_
        refine ow_ev (ev_load_own (b := b20)) ?_
        refine ow_ev ev_len ?_
        refine ow_ev ev_eql ?_
        refine ow_nil (hK13 _ _ ?_); clear hK13
        refine cw_cond rfl (fun hc27 => ?_) (fun hc27 => ?_)
        ·
          replace hM := (ite_t hc27).symm.trans hM
          refine cw_seq fun K14 hK14 => ?_
          refine cw_region ?_
          refine ow_ev ev_assign ?_
          refine ow_ev ev_assign ?_
          refine ow_ev ev_assign ?_
          refine ow_nil (hK14 _ _ ?_); clear hK14
          refine cw_imp (fun w hm => hm.row_nil (α := Route) 48 (fun _ => (⟨none, 0, (fun _ => ())⟩ : SR (GoRep.R Step)))) ?_
          obtain rfl := some_inj hM
          refine cw_ret (kw_retc3 (fun w hm => post_of (⟨none, 0, (fun _ => (⟨none, 0, (fun _ => ())⟩ : SR (GoRep.R Step)))⟩ : SR (GoRep.R Route)     ) hm rfl))
        ·
          replace hM := (ite_f hc27).symm.trans hM
          refine cw_skip (hK12 _ _ ?_); clear hK12
          refine cw_seq fun K15 hK15 => ?_
          refine cw_region_any _ (List.Sublist.refl _) ?_
          refine aw_ev 0 rfl ev_move ?_
          refine aw_ev 1 rfl ev_nilcheck ?_
          refine aw_ev 2 rfl (ev_field_addr 8) ?_
          refine aw_ev 3 rfl (ev_load_own (b := b20)) ?_
          refine aw_ev 4 rfl ev_move ?_
          refine aw_ev 5 rfl ev_nilcheck ?_
          refine aw_ev 6 rfl (ev_field_addr 6) ?_
          refine aw_ev 7 rfl (ev_load_own (b := b20)) ?_
          refine aw_ev 8 rfl ev_assign ?_
          refine aw_ev 9 rfl ev_assign ?_
          refine aw_ev 10 rfl ev_assign ?_
          refine aw_done (hK15 _ _ ?_); clear hK15
          obtain rfl := some_inj hM
          refine cw_ret (kw_retc3 (fun w hm => post_of r24.2 hm rfl))

end Go.Proofs.Ytnihhidbiepnhaa
