/- Models of functions, and that the code computes them. -/
import Derived.Test.YtohhihdjdelckaaDoorWe
set_option linter.all false
namespace Go.Proofs.YtohhihdjdelckaaDoor
open Go.Dc Go.RowKit
set_option maxRecDepth 10000
def ref1_sectionNames_k1 (lout_1 : List Str) : Unit → Option (List Str) := fun _ =>
  some lout_1
def ref1_sectionNames_b1 (l0 : Layout) (cont1 : ((List Str) × Nat) → Option (List Str)) : ((List Str) × Nat) → Option (List Str) := fun (lout_1, i_1) =>
  if decide ((i_1 : Int) < (l0.Sections.length : Int)) then
    ((idx l0.Sections (i_1 : Int)).bind fun x4 =>
    chk (decide ((lout_1.length + ([x4.Name] : List Str).length) * 16 ≤ 140737488355328)) <|
    chk (i64b ((i_1 : Int) + 1)) <|
    cont1 ((lout_1 ++ ([x4.Name] : List Str)), i_1 + 1))
  else
    (ref1_sectionNames_k1 lout_1 ())
def ref1_sectionNames_m (l0 : Layout) : Option (List Str) :=
  iter (ref1_sectionNames_b1 l0) FUEL (([] : List Str), 0)
theorem ref1_sectionNames_spec (S : Soup) (w : World) (l0 : Layout) (r_l0 : GoRep.R Layout) (y : (List Str)) (hM : ref1_sectionNames_m l0 = some y) (hS : ∀ k, S k → k < w.heap.size) (h_l0 : GoRep.ok S w r_l0 l0) :
    Calls Tryd.prog 50 #[.agg #[.slice r_l0.1.a l0.Stations.length r_l0.1.cap, .slice r_l0.2.1.a l0.Points.length r_l0.2.1.cap, .slice r_l0.2.2.1.a l0.Sections.length r_l0.2.2.1.cap, .slice r_l0.2.2.2.a l0.Links.length r_l0.2.2.2.cap]] w (Post (β := (GoRep.R (List Str))) S [] (fun g => .slice g.a y.length g.cap) (fun g => [trow 9 g y]) w) := by
  refine calls_cw (args := [_]) Tryd.func50 rfl ((pre_nil hS).start |>.immP (α := List Str) (r := r_l0.1) (x := l0.Stations) h_l0.1|>.immP (α := List Str) (r := r_l0.2.1) (x := l0.Points) h_l0.2.1|>.immP (α := List Section) (r := r_l0.2.2.1) (x := l0.Sections) h_l0.2.2.1|>.immP (α := List Link) (r := r_l0.2.2.2) (x := l0.Links) h_l0.2.2.2) rfl ?_
  unfold ref1_sectionNames_m at hM
  refine cw_seq fun K1 hK1 => ?_
  refine cw_region ?_
  refine ow_cons (st_box (l := [.slice r_l0.1.a l0.Stations.length r_l0.1.cap, .slice r_l0.2.1.a l0.Points.length r_l0.2.1.cap, .slice r_l0.2.2.1.a l0.Sections.length r_l0.2.2.1.cap, .slice r_l0.2.2.2.a l0.Links.length r_l0.2.2.2.cap]) (k := fun b1 => ?_))
  refine ow_ev ev_assign ?_
  refine ow_nil (hK1 _ _ ?_); clear hK1
  refine cw_seq fun K2 hK2 => ?_
  refine cw_region ?_
  refine ow_ev ev_assign ?_
  refine ow_nil (hK2 _ _ ?_); clear hK2
  refine cw_seq fun K3 hK3 => ?_
  refine cw_seq fun K4 hK4 => ?_
  refine cw_region ?_
  refine ow_ev ev_assign ?_
  refine ow_nil (hK4 _ _ ?_); clear hK4
  refine cw_block ?_
  refine cw_imp (fun w hm => hm.row_nil (α := Str) 9 (fun _ => ())) ?_
  refine cw_loop (γ := Nat × ((List Str) × Nat) × (SR (GoRep.R Str))) (env := fun (_, (lout_1, i_1), rout_1) => [(1, .v (.pointer (some ⟨b1, 0, none⟩))), (3, .v (.slice rout_1.a lout_1.length rout_1.cap)), (4, .v (.int .i64 (i_1 : Int)))]) (mem := fun (_, (lout_1, i_1), rout_1) => [imm (α := (List Str)) r_l0.1 l0.Stations, imm (α := (List Str)) r_l0.2.1 l0.Points, imm (α := (List Section)) r_l0.2.2.1 l0.Sections, imm (α := (List Link)) r_l0.2.2.2 l0.Links, own b1 26 [.slice r_l0.1.a l0.Stations.length r_l0.1.cap, .slice r_l0.2.1.a l0.Points.length r_l0.2.1.cap, .slice r_l0.2.2.1.a l0.Sections.length r_l0.2.2.1.cap, .slice r_l0.2.2.2.a l0.Links.length r_l0.2.2.2.cap], trow 9 rout_1 lout_1]) (R := fun g => iter (ref1_sectionNames_b1 l0) g.1 g.2.1 = some y) (μ := fun g => g.1) (FUEL, (([] : List Str), 0), (⟨none, 0, (fun _ => ())⟩ : SR (GoRep.R Str) )) hM ⟨rfl, rfl, rfl, trivial⟩ (fun w hm => hm.reord) ?_
  clear hM
  intro g hM KL1 hL1
  obtain ⟨nn1, ⟨lout_1, i_1⟩, rout_1⟩ := g
  dsimp only at hM ⊢
  obtain ⟨nn1, cont1, rfl, hcont1, hM⟩ := iter_open' hM
  dsimp only [ref1_sectionNames_b1] at hM
  refine cw_seq fun K5 hK5 => ?_
  refine cw_seq fun K6 hK6 => ?_
  refine cw_region ?_
  refine ow_ev ev_move ?_
  refine ow_ev (ev_field_addr 2) ?_
  refine ow_ev (ev_load_own (b := b1)) ?_
  refine ow_ev ev_len ?_
  refine ow_ev ev_lss ?_
  refine ow_nil (hK6 _ _ ?_); clear hK6
  refine cw_cond rfl (fun hc3 => ?_) (fun hc3 => ?_)
  ·
    replace hM := (ite_t hc3).symm.trans hM
    refine cw_skip (hK5 _ _ ?_); clear hK5
    refine cw_seq fun K7 hK7 => ?_
    refine cw_block ?_
    refine cw_region ?_
    refine ow_ev ev_move ?_
    refine ow_ev (ev_field_addr 2) ?_
    refine ow_ev (ev_load_own (b := b1)) ?_
    refine ow_ev ev_move ?_
    obtain ⟨x4, hx5, hM⟩ := bind_some hM
    refine ow_ev (ev_idx (xs := l0.Sections) 5 (Kn.imm (α := List Section) (r := r_l0.2.2.1) (x := l0.Sections) (by repeat (first | exact Has.head | apply Has.tail))) (fun hg => let h := idx_some hx5; ⟨h.1, h.2.1⟩)) ?_
    refine ow_ev (ev_field_addr 0) ?_
    refine ow_ev (ev_ld (i := (i_1 : Int)) (xs := l0.Sections) (y := x4) 0 (Kn.imm (α := List Section) (r := r_l0.2.2.1) (x := l0.Sections) (by repeat (first | exact Has.head | apply Has.tail))) (fun _ => hx5)) ?_
    refine ow_cons (st_bslice (α := Str) 9 (fun _ => ()) ([x4.Name] : List Str) (OkL.flat (fun _ _ _ _ => trivial)) (fun r6 => ?_))
    obtain ⟨hb8, hM⟩ := chk_some hM
    refine ow_cons (st_append (r := rout_1) (r2 := r6) (by intro r'; repeat (first | exact Upd.head | apply Upd.tail)) (Kn.trow (e := 9) (r := r6) (by repeat (first | exact Has.head | apply Has.tail))) (OkL.flat (fun _ _ _ _ => trivial)) (of_decide_eq_true hb8) (fun r7 => ?_))
    refine ow_ev ev_assign ?_
    refine ow_nil (hK7 _ _ ?_); clear hK7
    refine cw_region ?_
    refine ow_ev ev_move ?_
    obtain ⟨hI9, hM⟩ := chk_some hM
    refine ow_ev (ev_add (hr := fun hg => i64b_I64 hI9)) ?_
    refine ow_ev ev_assign ?_
    refine ow_nil (hL1 (nn1, ((lout_1 ++ ([x4.Name] : List Str)), i_1 + 1), r7) _ _ (eqc hcont1 hM) (Nat.lt_succ_self _) ⟨rfl, rfl, rfl, trivial⟩ (fun w hm => hm.reord))
  ·
    replace hM := (ite_f hc3).symm.trans hM
    refine cw_exit (hK3 _ _ ?_); clear hK3
    dsimp only [ref1_sectionNames_k1] at hM
    refine cw_seq fun K8 hK8 => ?_
    refine cw_region ?_
    refine ow_ev ev_move ?_
    refine ow_ev ev_assign ?_
    refine ow_nil (hK8 _ _ ?_); clear hK8
    obtain rfl := some_inj hM
    refine cw_ret (kw_retc1 (fun w hm => post_of rout_1 hm rfl))

end Go.Proofs.YtohhihdjdelckaaDoor
