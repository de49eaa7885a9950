/- Models of functions, and that the code computes them. -/
import Derived.Test.YtnihhidbiepnhaaRk
namespace Go.Proofs.Ytnihhidbiepnhaa
open Go.Dc Go.RowKit
set_option maxRecDepth 10000
set_option linter.unusedVariables false
def ref1_HopsOf_k3 (i_1 : Nat) (cont1 : ((List Hop) × Nat) → Option (List Hop)) : (List Hop) → Option (List Hop) := fun lh_j3 =>
  chk (i64b ((i_1 : Int) + 1)) <|
  cont1 (lh_j3, i_1 + 1)
def ref1_HopsOf_k5 (lh_1 : List Hop) (to_j4_0 : Int) (x7 : Link) (i_1 : Nat) (cont1 : ((List Hop) × Nat) → Option (List Hop)) : Int → Option (List Hop) := fun dir_j5 =>
  chk (decide ((lh_1.length + ([(Hop.mk (Step.mk to_j4_0 dir_j5) x7.Point x7.Pos)] : List Hop).length) * 32 ≤ 140737488355328)) <|
  ref1_HopsOf_k3 i_1 cont1 (lh_1 ++ ([(Hop.mk (Step.mk to_j4_0 dir_j5) x7.Point x7.Pos)] : List Hop))
def ref1_HopsOf_k4 (lh_1 : List Hop) (x7 : Link) (i_1 : Nat) (cont1 : ((List Hop) × Nat) → Option (List Hop)) : (Int × Int) → Option (List Hop) := fun (to_j4_0, to_j4_1) =>
  if decide (0 ≤ to_j4_0) then
    (if decide (to_j4_1 = 1) then
      (ref1_HopsOf_k5 lh_1 to_j4_0 x7 i_1 cont1 1)
    else
      (ref1_HopsOf_k5 lh_1 to_j4_0 x7 i_1 cont1 0))
  else
    (ref1_HopsOf_k3 i_1 cont1 lh_1)
def ref1_HopsOf_k2 (lh_1 : List Hop) : Unit → Option (List Hop) := fun _ =>
  some lh_1
def ref1_HopsOf_b1 (l0 : Layout) (s0 : Step) (out_j1_1 : Int) (cont1 : ((List Hop) × Nat) → Option (List Hop)) : ((List Hop) × Nat) → Option (List Hop) := fun (lh_1, i_1) =>
  if decide ((i_1 : Int) < (l0.Links.length : Int)) then
    ((idx l0.Links (i_1 : Int)).bind fun x7 =>
    if (decide (x7.A = s0.Section) && decide (x7.AEnd = out_j1_1)) then
      (ref1_HopsOf_k4 lh_1 x7 i_1 cont1 (x7.B, x7.BEnd))
    else
      (if (decide (x7.B = s0.Section) && decide (x7.BEnd = out_j1_1)) then
        (ref1_HopsOf_k4 lh_1 x7 i_1 cont1 (x7.A, x7.AEnd))
      else
        (ref1_HopsOf_k4 lh_1 x7 i_1 cont1 ((-1), 0))))
  else
    (ref1_HopsOf_k2 lh_1 ())
def ref1_HopsOf_k1 (l0 : Layout) (s0 : Step) : Int → Option (List Hop) := fun out_j1_1 =>
  iter (ref1_HopsOf_b1 l0 s0 out_j1_1) FUEL (([] : List Hop), 0)
def ref1_HopsOf_m (l0 : Layout) (s0 : Step) : Option (List Hop) :=
  if decide (s0.Dir = 1) then
    (ref1_HopsOf_k1 l0 s0 0)
  else
    (ref1_HopsOf_k1 l0 s0 1)
theorem ref1_HopsOf_spec (S : Soup) (w : World) (l0 : Layout) (r_l0 : GoRep.R Layout) (s0 : Step) (y : (List Hop)) (hM : ref1_HopsOf_m l0 s0 = some y) (hS : ∀ k, S k → k < w.heap.size) (h_l0 : GoRep.ok S w r_l0 l0) :
    Calls Try.prog 51 #[.agg #[.slice r_l0.1.a l0.Stations.length r_l0.1.cap, .slice r_l0.2.1.a l0.Points.length r_l0.2.1.cap, .slice r_l0.2.2.1.a l0.Sections.length r_l0.2.2.1.cap, .slice r_l0.2.2.2.a l0.Links.length r_l0.2.2.2.cap], .agg #[.int .i64 s0.Section, .int .i64 s0.Dir]] w (Post (β := (GoRep.R (List Hop))) S [] (fun g => .slice g.a y.length g.cap) (fun g => [trow 43 g y]) w) := by
  refine calls_cw (args := [_, _]) Try.func51 rfl ((pre_nil hS).start |>.immP (α := List Str) (r := r_l0.1) (x := l0.Stations) h_l0.1|>.immP (α := List Str) (r := r_l0.2.1) (x := l0.Points) h_l0.2.1|>.immP (α := List Section) (r := r_l0.2.2.1) (x := l0.Sections) h_l0.2.2.1|>.immP (α := List Link) (r := r_l0.2.2.2) (x := l0.Links) h_l0.2.2.2) rfl ?_
  unfold ref1_HopsOf_m at hM
  refine cw_seq fun K1 hK1 => ?_
  refine cw_region ?_
  refine ow_cons (st_box (l := [.slice r_l0.1.a l0.Stations.length r_l0.1.cap, .slice r_l0.2.1.a l0.Points.length r_l0.2.1.cap, .slice r_l0.2.2.1.a l0.Sections.length r_l0.2.2.1.cap, .slice r_l0.2.2.2.a l0.Links.length r_l0.2.2.2.cap]) (k := fun b1 => ?_))
  refine ow_cons (st_box (l := [.int .i64 s0.Section, .int .i64 s0.Dir]) (k := fun b2 => ?_))
  refine ow_ev ev_assign ?_
  refine ow_nil (hK1 _ _ ?_); clear hK1
  refine cw_seq fun K2 hK2 => ?_
  refine cw_region ?_
  refine ow_ev (ev_field_addr 0) ?_
  refine ow_ev (ev_load_own (b := b2)) ?_
  refine ow_ev (ev_build [.int .i64 s0.Section, .int .i64 1]) ?_
  refine ow_cons (st_alloc rfl (k := fun b3 => ?_))
  refine ow_cons (st_store_all (b := b3) (vs := [.int .i64 s0.Section, .int .i64 1]) (k := ?_))
  refine ow_nil (hK2 _ _ ?_); clear hK2
  refine cw_cut (γ := Int × Unit) (env := fun (out_j1_1, _) => [(2, .v (.pointer (some ⟨b1, 0, none⟩))), (5, .v (.pointer (some ⟨b3, 0, none⟩)))]) (mem := fun (out_j1_1, _) => [imm (α := (List Str)) r_l0.1 l0.Stations, imm (α := (List Str)) r_l0.2.1 l0.Points, imm (α := (List Section)) r_l0.2.2.1 l0.Sections, imm (α := (List Link)) r_l0.2.2.2 l0.Links, own b1 28 [.slice r_l0.1.a l0.Stations.length r_l0.1.cap, .slice r_l0.2.1.a l0.Points.length r_l0.2.1.cap, .slice r_l0.2.2.1.a l0.Sections.length r_l0.2.2.1.cap, .slice r_l0.2.2.2.a l0.Links.length r_l0.2.2.2.cap], own b3 134 [.int .i64 s0.Section, .int .i64 out_j1_1]]) (R := fun g => ref1_HopsOf_k1 l0 s0 g.1 = some y) ?_ ?_
  · intro KJ1 hJ1
    refine cw_seq fun K16 hK16 => ?_
    refine cw_region ?_
    refine ow_ev (ev_field_addr 1) ?_
    refine ow_ev (ev_load_own (b := b2)) ?_
    refine ow_ev ev_eql ?_
    refine ow_nil (hK16 _ _ ?_); clear hK16
    refine cw_cond rfl (fun hc18 => ?_) (fun hc18 => ?_)
    ·
      replace hM := (ite_t hc18).symm.trans hM
      refine cw_region ?_
      refine ow_ev (ev_field_addr 1) ?_
      refine ow_cons (st_store_own (b := b3) (l' := [.int .i64 s0.Section, .int .i64 0]) (k := ?_))
      refine ow_nil (hJ1 (0, ()) _ _ hM ⟨rfl, rfl, trivial⟩ (fun w hm => hm.reord))
    ·
      replace hM := (ite_f hc18).symm.trans hM
      refine cw_skip (hJ1 (1, ()) _ _ hM ⟨rfl, rfl, trivial⟩ (fun w hm => hm.reord))
  ·
    clear hM
    intro g hM
    obtain ⟨out_j1_1, ⟨⟩⟩ := g
    dsimp only at hM ⊢
    dsimp only [ref1_HopsOf_k1] at hM
    refine cw_seq fun K3 hK3 => ?_
    refine cw_region ?_
    refine ow_ev ev_assign ?_
    refine ow_nil (hK3 _ _ ?_); clear hK3
    refine cw_seq fun K4 hK4 => ?_
    refine cw_seq fun K5 hK5 => ?_
    refine cw_region ?_
    refine ow_ev ev_assign ?_
    refine ow_nil (hK5 _ _ ?_); clear hK5
    refine cw_block ?_
    refine cw_imp (fun w hm => hm.row_nil (α := Hop) 43 (fun _ => ())) ?_
    refine cw_loop (γ := Nat × ((List Hop) × Nat) × (SR (GoRep.R Hop))) (env := fun (_, (lh_1, i_1), rh_1) => [(2, .v (.pointer (some ⟨b1, 0, none⟩))), (5, .v (.pointer (some ⟨b3, 0, none⟩))), (6, .v (.slice rh_1.a lh_1.length rh_1.cap)), (7, .v (.int .i64 (i_1 : Int)))]) (mem := fun (_, (lh_1, i_1), rh_1) => [imm (α := (List Str)) r_l0.1 l0.Stations, imm (α := (List Str)) r_l0.2.1 l0.Points, imm (α := (List Section)) r_l0.2.2.1 l0.Sections, imm (α := (List Link)) r_l0.2.2.2 l0.Links, own b1 28 [.slice r_l0.1.a l0.Stations.length r_l0.1.cap, .slice r_l0.2.1.a l0.Points.length r_l0.2.1.cap, .slice r_l0.2.2.1.a l0.Sections.length r_l0.2.2.1.cap, .slice r_l0.2.2.2.a l0.Links.length r_l0.2.2.2.cap], own b3 134 [.int .i64 s0.Section, .int .i64 out_j1_1], trow 43 rh_1 lh_1]) (R := fun g => iter (ref1_HopsOf_b1 l0 s0 out_j1_1) g.1 g.2.1 = some y) (μ := fun g => g.1) (FUEL, (([] : List Hop), 0), (⟨none, 0, (fun _ => ())⟩ : SR (GoRep.R Hop) )) hM ⟨rfl, rfl, rfl, rfl, trivial⟩ (fun w hm => hm.reord) ?_
    clear hM
    intro g hM KL1 hL1
    obtain ⟨nn1, ⟨lh_1, i_1⟩, rh_1⟩ := g
    dsimp only at hM ⊢
    obtain ⟨nn1, cont1, rfl, hcont1, hM⟩ := iter_open' hM
    dsimp only [ref1_HopsOf_b1] at hM
    refine cw_seq fun K6 hK6 => ?_
    refine cw_seq fun K7 hK7 => ?_
    refine cw_region ?_
    refine ow_ev ev_move ?_
    refine ow_ev (ev_field_addr 3) ?_
    refine ow_ev (ev_load_own (b := b1)) ?_
    refine ow_ev ev_len ?_
    refine ow_ev ev_lss ?_
    refine ow_nil (hK7 _ _ ?_); clear hK7
    refine cw_cond rfl (fun hc5 => ?_) (fun hc5 => ?_)
    ·
      replace hM := (ite_t hc5).symm.trans hM
      refine cw_skip (hK6 _ _ ?_); clear hK6
      refine cw_cut (γ := (List Hop) × (SR (GoRep.R Hop))) (env := fun (lh_j3, rh_j3) => [(2, .v (.pointer (some ⟨b1, 0, none⟩))), (5, .v (.pointer (some ⟨b3, 0, none⟩))), (6, .v (.slice rh_j3.a lh_j3.length rh_j3.cap)), (7, .v (.int .i64 (i_1 : Int)))]) (mem := fun (lh_j3, rh_j3) => [imm (α := (List Str)) r_l0.1 l0.Stations, imm (α := (List Str)) r_l0.2.1 l0.Points, imm (α := (List Section)) r_l0.2.2.1 l0.Sections, imm (α := (List Link)) r_l0.2.2.2 l0.Links, own b1 28 [.slice r_l0.1.a l0.Stations.length r_l0.1.cap, .slice r_l0.2.1.a l0.Points.length r_l0.2.1.cap, .slice r_l0.2.2.1.a l0.Sections.length r_l0.2.2.1.cap, .slice r_l0.2.2.2.a l0.Links.length r_l0.2.2.2.cap], own b3 134 [.int .i64 s0.Section, .int .i64 out_j1_1], trow 43 rh_j3 lh_j3]) (R := fun g => ref1_HopsOf_k3 i_1 cont1 g.1 = some y) ?_ ?_
      · intro KJ3 hJ3
        refine cw_block ?_
        refine cw_seq fun K8 hK8 => ?_
        refine cw_region ?_
        refine ow_ev (ev_field_addr 3) ?_
        refine ow_ev (ev_load_own (b := b1)) ?_
        refine ow_ev ev_move ?_
        obtain ⟨x7, hx8, hM⟩ := bind_some hM
        refine ow_ev (ev_idx (xs := l0.Links) 6 (Kn.imm (α := List Link) (r := r_l0.2.2.2) (x := l0.Links) (by repeat (first | exact Has.head | apply Has.tail))) (fun hg => let h := idx_some hx8; ⟨h.1, h.2.1⟩)) ?_
        refine ow_ev (ev_lds (m := 6) (i := (i_1 : Int)) (xs := l0.Links) (y := x7) (l := [.int .i64 x7.A, .int .i64 x7.AEnd, .int .i64 x7.B, .int .i64 x7.BEnd, .int .i64 x7.Point, .int .i64 x7.Pos]) 0 (Kn.imm (α := List Link) (r := r_l0.2.2.2) (x := l0.Links) (by repeat (first | exact Has.head | apply Has.tail))) (fun _ => hx8)) ?_
        refine ow_cons (st_alloc rfl (k := fun b9 => ?_))
        refine ow_cons (st_store_all (b := b9) (vs := [.int .i64 x7.A, .int .i64 x7.AEnd, .int .i64 x7.B, .int .i64 x7.BEnd, .int .i64 x7.Point, .int .i64 x7.Pos]) (k := ?_))
        refine ow_nil (hK8 _ _ ?_); clear hK8
        refine cw_seq fun K9 hK9 => ?_
        refine cw_region ?_
        refine ow_ev (ev_build [.int .i64 (-1), .int .i64 0]) ?_
        refine ow_cons (st_alloc rfl (k := fun b10 => ?_))
        refine ow_cons (st_store_all (b := b10) (vs := [.int .i64 (-1), .int .i64 0]) (k := ?_))
        refine ow_nil (hK9 _ _ ?_); clear hK9
        refine cw_cut (γ := (Int × Int) × Unit) (env := fun ((to_j4_0, to_j4_1), _) => [(2, .v (.pointer (some ⟨b1, 0, none⟩))), (5, .v (.pointer (some ⟨b3, 0, none⟩))), (6, .v (.slice rh_1.a lh_1.length rh_1.cap)), (7, .v (.int .i64 (i_1 : Int))), (8, .v (.pointer (some ⟨b9, 0, none⟩))), (9, .v (.pointer (some ⟨b10, 0, none⟩)))]) (mem := fun ((to_j4_0, to_j4_1), _) => [imm (α := (List Str)) r_l0.1 l0.Stations, imm (α := (List Str)) r_l0.2.1 l0.Points, imm (α := (List Section)) r_l0.2.2.1 l0.Sections, imm (α := (List Link)) r_l0.2.2.2 l0.Links, own b1 28 [.slice r_l0.1.a l0.Stations.length r_l0.1.cap, .slice r_l0.2.1.a l0.Points.length r_l0.2.1.cap, .slice r_l0.2.2.1.a l0.Sections.length r_l0.2.2.1.cap, .slice r_l0.2.2.2.a l0.Links.length r_l0.2.2.2.cap], own b3 134 [.int .i64 s0.Section, .int .i64 out_j1_1], trow 43 rh_1 lh_1, own b9 91 [.int .i64 x7.A, .int .i64 x7.AEnd, .int .i64 x7.B, .int .i64 x7.BEnd, .int .i64 x7.Point, .int .i64 x7.Pos], own b10 134 [.int .i64 to_j4_0, .int .i64 to_j4_1]]) (R := fun g => ref1_HopsOf_k4 lh_1 x7 i_1 cont1 g.1 = some y) ?_ ?_
        · intro KJ4 hJ4
          refine cw_block ?_
          refine cw_seq fun K13 hK13 => ?_
          refine cw_region ?_
          refine ow_ev (ev_field_addr 0) ?_
          refine ow_ev (ev_load_own (b := b9)) ?_
          refine ow_ev (ev_field_addr 0) ?_
          refine ow_ev (ev_load_own (b := b3)) ?_
          refine ow_ev ev_eql ?_
          refine ow_ev ev_move ?_
          refine ow_evg rfl (ev_field_addr 1) ?_
          refine ow_evg rfl (ev_load_own (b := b9)) ?_
          refine ow_evg rfl (ev_field_addr 1) ?_
          refine ow_evg rfl (ev_load_own (b := b3)) ?_
          refine ow_evg rfl ev_eql ?_
          refine ow_ev ev_and ?_
          refine ow_ev ev_assign ?_
          refine ow_nil (hK13 _ _ ?_); clear hK13
          refine cw_cond rfl (fun hc16 => ?_) (fun hc16 => ?_)
          ·
            replace hM := (ite_t hc16).symm.trans hM
            refine cw_region ?_
            refine ow_ev (ev_field_addr 2) ?_
            refine ow_ev (ev_load_own (b := b9)) ?_
            refine ow_ev (ev_field_addr 3) ?_
            refine ow_ev (ev_load_own (b := b9)) ?_
            refine ow_ev (ev_build [.int .i64 x7.B, .int .i64 x7.BEnd]) ?_
            refine ow_cons (st_store_all (b := b10) (vs := [.int .i64 x7.B, .int .i64 x7.BEnd]) (k := ?_))
            refine ow_nil (hJ4 ((x7.B, x7.BEnd), ()) _ _ hM ⟨rfl, rfl, rfl, rfl, rfl, rfl, trivial⟩ (fun w hm => hm.reord))
          ·
            replace hM := (ite_f hc16).symm.trans hM
            refine cw_seq fun K14 hK14 => ?_
            refine cw_region ?_
            refine ow_ev (ev_field_addr 2) ?_
            refine ow_ev (ev_load_own (b := b9)) ?_
            refine ow_ev (ev_field_addr 0) ?_
            refine ow_ev (ev_load_own (b := b3)) ?_
            refine ow_ev ev_eql ?_
            refine ow_ev ev_move ?_
            refine ow_evg rfl (ev_field_addr 3) ?_
            refine ow_evg rfl (ev_load_own (b := b9)) ?_
            refine ow_evg rfl (ev_field_addr 1) ?_
            refine ow_evg rfl (ev_load_own (b := b3)) ?_
            refine ow_evg rfl ev_eql ?_
            refine ow_ev ev_and ?_
            refine ow_ev ev_assign ?_
            refine ow_nil (hK14 _ _ ?_); clear hK14
            refine cw_cond rfl (fun hc17 => ?_) (fun hc17 => ?_)
            ·
              replace hM := (ite_t hc17).symm.trans hM
              refine cw_region ?_
              refine ow_ev (ev_field_addr 0) ?_
              refine ow_ev (ev_load_own (b := b9)) ?_
              refine ow_ev (ev_field_addr 1) ?_
              refine ow_ev (ev_load_own (b := b9)) ?_
              refine ow_ev (ev_build [.int .i64 x7.A, .int .i64 x7.AEnd]) ?_
              refine ow_cons (st_store_all (b := b10) (vs := [.int .i64 x7.A, .int .i64 x7.AEnd]) (k := ?_))
              refine ow_nil (hJ4 ((x7.A, x7.AEnd), ()) _ _ hM ⟨rfl, rfl, rfl, rfl, rfl, rfl, trivial⟩ (fun w hm => hm.reord))
            ·
              replace hM := (ite_f hc17).symm.trans hM
              refine cw_skip (hJ4 (((-1), 0), ()) _ _ hM ⟨rfl, rfl, rfl, rfl, rfl, rfl, trivial⟩ (fun w hm => hm.reord))
        ·
          clear hM
          intro g hM
          obtain ⟨⟨to_j4_0, to_j4_1⟩, ⟨⟩⟩ := g
          dsimp only at hM ⊢
          dsimp only [ref1_HopsOf_k4] at hM
          refine cw_seq fun K10 hK10 => ?_
          refine cw_region ?_
          refine ow_ev (ev_field_addr 0) ?_
          refine ow_ev (ev_load_own (b := b10)) ?_
          refine ow_ev ev_geq ?_
          refine ow_nil (hK10 _ _ ?_); clear hK10
          refine cw_cond rfl (fun hc11 => ?_) (fun hc11 => ?_)
          ·
            replace hM := (ite_t hc11).symm.trans hM
            refine cw_seq fun K11 hK11 => ?_
            refine cw_region ?_
            refine ow_ev ev_assign ?_
            refine ow_nil (hK11 _ _ ?_); clear hK11
            refine cw_cut (γ := Int × Unit) (env := fun (dir_j5, _) => [(2, .v (.pointer (some ⟨b1, 0, none⟩))), (5, .v (.pointer (some ⟨b3, 0, none⟩))), (6, .v (.slice rh_1.a lh_1.length rh_1.cap)), (7, .v (.int .i64 (i_1 : Int))), (8, .v (.pointer (some ⟨b9, 0, none⟩))), (9, .v (.pointer (some ⟨b10, 0, none⟩))), (10, .v (.int .i64 dir_j5))]) (mem := fun (dir_j5, _) => [imm (α := (List Str)) r_l0.1 l0.Stations, imm (α := (List Str)) r_l0.2.1 l0.Points, imm (α := (List Section)) r_l0.2.2.1 l0.Sections, imm (α := (List Link)) r_l0.2.2.2 l0.Links, own b1 28 [.slice r_l0.1.a l0.Stations.length r_l0.1.cap, .slice r_l0.2.1.a l0.Points.length r_l0.2.1.cap, .slice r_l0.2.2.1.a l0.Sections.length r_l0.2.2.1.cap, .slice r_l0.2.2.2.a l0.Links.length r_l0.2.2.2.cap], own b3 134 [.int .i64 s0.Section, .int .i64 out_j1_1], trow 43 rh_1 lh_1, own b9 91 [.int .i64 x7.A, .int .i64 x7.AEnd, .int .i64 x7.B, .int .i64 x7.BEnd, .int .i64 x7.Point, .int .i64 x7.Pos], own b10 134 [.int .i64 to_j4_0, .int .i64 to_j4_1]]) (R := fun g => ref1_HopsOf_k5 lh_1 to_j4_0 x7 i_1 cont1 g.1 = some y) ?_ ?_
            · intro KJ5 hJ5
              refine cw_seq fun K12 hK12 => ?_
              refine cw_region ?_
              refine ow_ev (ev_field_addr 1) ?_
              refine ow_ev (ev_load_own (b := b10)) ?_
              refine ow_ev ev_eql ?_
              refine ow_nil (hK12 _ _ ?_); clear hK12
              refine cw_cond rfl (fun hc15 => ?_) (fun hc15 => ?_)
              ·
                replace hM := (ite_t hc15).symm.trans hM
                refine cw_region ?_
                refine ow_ev ev_assign ?_
                refine ow_nil (hJ5 (1, ()) _ _ hM ⟨rfl, rfl, rfl, rfl, rfl, rfl, rfl, trivial⟩ (fun w hm => hm.reord))
              ·
                replace hM := (ite_f hc15).symm.trans hM
                refine cw_skip (hJ5 (0, ()) _ _ hM ⟨rfl, rfl, rfl, rfl, rfl, rfl, rfl, trivial⟩ (fun w hm => hm.reord))
            ·
              clear hM
              intro g hM
              obtain ⟨dir_j5, ⟨⟩⟩ := g
              dsimp only at hM ⊢
              dsimp only [ref1_HopsOf_k5] at hM
              refine cw_region ?_
              refine ow_ev ev_move ?_
              refine ow_ev (ev_field_addr 0) ?_
              refine ow_ev (ev_load_own (b := b10)) ?_
              refine ow_ev ev_move ?_
              refine ow_ev (ev_build [.int .i64 to_j4_0, .int .i64 dir_j5]) ?_
              refine ow_ev (ev_field_addr 4) ?_
              refine ow_ev (ev_load_own (b := b9)) ?_
              refine ow_ev (ev_field_addr 5) ?_
              refine ow_ev (ev_load_own (b := b9)) ?_
              refine ow_ev (ev_build [.int .i64 to_j4_0, .int .i64 dir_j5, .int .i64 x7.Point, .int .i64 x7.Pos]) ?_
              refine ow_cons (st_bslice (α := Hop) 43 (fun _ => ()) ([(Hop.mk (Step.mk to_j4_0 dir_j5) x7.Point x7.Pos)] : List Hop) (OkL.flat (fun _ _ _ _ => trivial)) (fun r12 => ?_))
              obtain ⟨hb13, hM⟩ := chk_some hM
              refine ow_cons (st_append (r := rh_1) (r2 := r12) (by intro r'; repeat (first | exact Upd.head | apply Upd.tail)) (Kn.trow (e := 43) (r := r12) (by repeat (first | exact Has.head | apply Has.tail))) (OkL.flat (fun _ _ _ _ => trivial)) (of_decide_eq_true hb13) (fun r14 => ?_))
              refine ow_ev ev_assign ?_
              refine ow_nil (hJ3 ((lh_1 ++ ([(Hop.mk (Step.mk to_j4_0 dir_j5) x7.Point x7.Pos)] : List Hop)), r14) _ _ hM ⟨rfl, rfl, rfl, rfl, trivial⟩ (fun w hm => hm.reord))
          ·
            replace hM := (ite_f hc11).symm.trans hM
            refine cw_skip (hJ3 (lh_1, rh_1) _ _ hM ⟨rfl, rfl, rfl, rfl, trivial⟩ (fun w hm => hm.reord))
      ·
        clear hM
        intro g hM
        obtain ⟨lh_j3, rh_j3⟩ := g
        dsimp only at hM ⊢
        dsimp only [ref1_HopsOf_k3] at hM
        refine cw_region ?_
        refine ow_ev ev_move ?_
        obtain ⟨hI6, hM⟩ := chk_some hM
        refine ow_ev (ev_add (hr := fun hg => i64b_I64 hI6)) ?_
        refine ow_ev ev_assign ?_
        refine ow_nil (hL1 (nn1, (lh_j3, i_1 + 1), rh_j3) _ _ (eqc hcont1 hM) (Nat.lt_succ_self _) ⟨rfl, rfl, rfl, rfl, trivial⟩ (fun w hm => hm.reord))
    ·
      replace hM := (ite_f hc5).symm.trans hM
      refine cw_exit (hK4 _ _ ?_); clear hK4
      dsimp only [ref1_HopsOf_k2] at hM
      refine cw_seq fun K15 hK15 => ?_
      refine cw_region ?_
      refine ow_ev ev_move ?_
      refine ow_ev ev_assign ?_
      refine ow_nil (hK15 _ _ ?_); clear hK15
      obtain rfl := some_inj hM
      refine cw_ret (kw_retc1 (fun w hm => post_of rh_1 hm rfl))

def keep_Route_k1 (y3 : Keep_Source) : (Int × (List Step)) → Option Route := fun (s_j1_1, lr_j1_0) =>
  chk (i64b ((lr_j1_0.length : Int) - 2)) <|
  (keep_Source_Next_m (Keep_Source.mk y3.l s_j1_1) 3).bind fun y19 =>
  some (Route.mk lr_j1_0 (if (if ((lr_j1_0.length : Int) - 2) > 0 then ((lr_j1_0.length : Int) - 2) else 0) < y19.1 then (if ((lr_j1_0.length : Int) - 2) > 0 then ((lr_j1_0.length : Int) - 2) else 0) else y19.1))
def keep_Route_k2 (cont1 : (Int × (List Step) × Int × Int × Int) → Option Route) : (Int × (List Step) × Int × Int × Int) → Option Route := fun (s_j2_1, lr_j2_0, x_j2_0, x_j2_1, n_j2) =>
  chk (i64b (n_j2 - 1)) <|
  cont1 (s_j2_1, lr_j2_0, x_j2_0, x_j2_1, (n_j2 - 1))
def keep_Route_k4 (cont2 : (Int × Nat) → Option Route) (t51_2 : Nat) : Int → Option Route := fun n_j4 =>
  cont2 (n_j4, t51_2 + 1)
def keep_Route_k3 (n_2 : Int) (lr_1_0 : List Step) (x36 : Hop) (cont1 : (Int × (List Step) × Int × Int × Int) → Option Route) (y33 : Int × Int) : Unit → Option Route := fun _ =>
  if decide (0 < n_2) then
    (chk (decide ((lr_1_0.length + ([x36.To] : List Step).length) * 16 ≤ 140737488355328)) <|
    keep_Route_k2 cont1 (y33.2, (lr_1_0 ++ ([x36.To] : List Step)), x36.To.Section, x36.To.Dir, n_2))
  else
    (keep_Route_k2 cont1 (y33.2, lr_1_0, x36.To.Section, x36.To.Dir, n_2))
def keep_Route_b2 (lr_1_0 : List Step) (x36 : Hop) (cont1 : (Int × (List Step) × Int × Int × Int) → Option Route) (y33 : Int × Int) (cont2 : (Int × Nat) → Option Route) : (Int × Nat) → Option Route := fun (n_2, t51_2) =>
  if decide ((t51_2 : Int) < (lr_1_0.length : Int)) then
    ((idx lr_1_0 (t51_2 : Int)).bind fun x40 =>
    if decide (x40.Section = x36.To.Section) then
      (keep_Route_k4 cont2 t51_2 0)
    else
      (keep_Route_k4 cont2 t51_2 n_2))
  else
    (keep_Route_k3 n_2 lr_1_0 x36 cont1 y33 ())
def keep_Route_b1 (l0 : Layout) (y3 : Keep_Source) (cont1 : (Int × (List Step) × Int × Int × Int) → Option Route) : (Int × (List Step) × Int × Int × Int) → Option Route := fun (s_1_1, lr_1_0, x_1_0, x_1_1, n_1) =>
  if decide (0 < n_1) then
    ((ref1_HopsOf_m l0 (Step.mk x_1_0 x_1_1)).bind fun y29 =>
    if decide ((y29.length : Int) = 0) then
      (keep_Route_k1 y3 (s_1_1, lr_1_0))
    else
      ((keep_Source_Next_m (Keep_Source.mk y3.l s_1_1) (y29.length : Int)).bind fun y33 =>
      (idx y29 y33.1).bind fun x36 =>
      iter (keep_Route_b2 lr_1_0 x36 cont1 y33) FUEL (n_1, 0)))
  else
    (keep_Route_k1 y3 (s_1_1, lr_1_0))
def keep_Route_m (l0 : Layout) (choices0 : List Int) : Option Route :=
  (keep_From_m choices0).bind fun y3 =>
  (keep_Source_Next_m y3 (l0.Sections.length : Int)).bind fun y7 =>
  (keep_Source_Next_m (Keep_Source.mk y3.l y7.2) 2).bind fun y10 =>
  chk (decide ((([] : List Step).length + ([(Step.mk y7.1 y10.1)] : List Step).length) * 16 ≤ 140737488355328)) <|
  (keep_Source_Next_m (Keep_Source.mk y3.l y10.2) 6).bind fun y22 =>
  chk (i64b (1 + y22.1)) <|
  iter (keep_Route_b1 l0 y3) FUEL (y22.2, (([] : List Step) ++ ([(Step.mk y7.1 y10.1)] : List Step)), y7.1, y10.1, (1 + y22.1))
theorem keep_Route_spec (S : Soup) (w : World) (l0 : Layout) (r_l0 : GoRep.R Layout) (choices0 : List Int) (r_choices0 : GoRep.R (List Int)) (y : Route) (hM : keep_Route_m l0 choices0 = some y) (hS : ∀ k, S k → k < w.heap.size) (h_l0 : GoRep.ok S w r_l0 l0) (h_choices0 : GoRep.ok S w r_choices0 choices0) :
    Calls Try.prog 28 #[.agg #[.slice r_l0.1.a l0.Stations.length r_l0.1.cap, .slice r_l0.2.1.a l0.Points.length r_l0.2.1.cap, .slice r_l0.2.2.1.a l0.Sections.length r_l0.2.2.1.cap, .slice r_l0.2.2.2.a l0.Links.length r_l0.2.2.2.cap], .slice r_choices0.a choices0.length r_choices0.cap] w (Post (β := (GoRep.R Route)) S [] (fun g => .agg #[.slice g.a y.Steps.length g.cap, .int .i64 y.Overlap]) (fun g => [trow 40 g y.Steps]) w) := by
  refine calls_cw (args := [_, _]) Try.func28 rfl ((pre_nil hS).start |>.immP (α := List Str) (r := r_l0.1) (x := l0.Stations) h_l0.1|>.immP (α := List Str) (r := r_l0.2.1) (x := l0.Points) h_l0.2.1|>.immP (α := List Section) (r := r_l0.2.2.1) (x := l0.Sections) h_l0.2.2.1|>.immP (α := List Link) (r := r_l0.2.2.2) (x := l0.Links) h_l0.2.2.2|>.immP (α := List Int) (r := r_choices0) (x := choices0) h_choices0) rfl ?_
  unfold keep_Route_m at hM
  refine cw_seq fun K1 hK1 => ?_
  refine cw_region ?_
  refine ow_cons (st_box (l := [.slice r_l0.1.a l0.Stations.length r_l0.1.cap, .slice r_l0.2.1.a l0.Points.length r_l0.2.1.cap, .slice r_l0.2.2.1.a l0.Sections.length r_l0.2.2.1.cap, .slice r_l0.2.2.2.a l0.Links.length r_l0.2.2.2.cap]) (k := fun b1 => ?_))
  refine ow_cons (st_alloc rfl (k := fun b2 => ?_))
  refine ow_nil (hK1 _ _ ?_); clear hK1
  refine cw_seq fun K2 hK2 => ?_
  refine cw_region ?_
  refine ow_ev ev_move ?_
  obtain ⟨y3, hy4, hM⟩ := bind_some hM
  refine ow_cons (st_callS SelL.nil (fun S w hs hP => keep_From_spec _ w choices0 r_choices0 y3 hy4 hs.lt ((Sk.imm (α := List Int) (r := r_choices0) (x := choices0) (by repeat (first | exact Has.head | apply Has.tail))) S w hs))  (fun r5 => ?_))
  dsimp only [List.cons_append, List.nil_append]
  refine ow_ev ev_assign ?_
  refine ow_nil (hK2 _ _ ?_); clear hK2
  refine cw_seq fun K3 hK3 => ?_
  refine cw_region ?_
  refine ow_cons (st_alloc rfl (k := fun b6 => ?_))
  refine ow_nil (hK3 _ _ ?_); clear hK3
  refine cw_seq fun K4 hK4 => ?_
  refine cw_region ?_
  refine ow_ev ev_move ?_
  refine ow_ev (ev_field_addr 2) ?_
  refine ow_ev (ev_load_own (b := b1)) ?_
  refine ow_ev ev_len ?_
  obtain ⟨y7, hy8, hM⟩ := bind_some hM
  refine ow_cons (st_callF (by repeat (first | exact SelL.nil | (apply SelL.cons; · (repeat (first | exact Sel.head | apply Sel.tail))))) (fun S w hs hP => keep_Source_Next_spec _ w r5.1 y3 r5.2 (l0.Sections.length : Int) y7 hy8 hP (Kn.lend (Kn.imm (α := List Int) (r := r5.2) (x := y3.l) (by repeat (first | exact Has.head | apply Has.tail))) hs)) (by intro r c hc; simp only [List.mem_cons, List.not_mem_nil, or_false] at hc; rcases hc with rfl <;> first | exact flatC_own | exact flatC_trow (fun _ _ _ _ => trivial)) (fun r9 => ?_))
  dsimp only [List.cons_append, List.nil_append]
  refine ow_ev ev_move ?_
  obtain ⟨y10, hy11, hM⟩ := bind_some hM
  refine ow_cons (st_callF (by repeat (first | exact SelL.nil | (apply SelL.cons; · (repeat (first | exact Sel.head | apply Sel.tail))))) (fun S w hs hP => keep_Source_Next_spec _ w r5.1 (Keep_Source.mk y3.l y7.2) r5.2 2 y10 hy11 hP (Kn.lend (Kn.imm (α := List Int) (r := r5.2) (x := y3.l) (by repeat (first | exact Has.head | apply Has.tail))) hs)) (by intro r c hc; simp only [List.mem_cons, List.not_mem_nil, or_false] at hc; rcases hc with rfl <;> first | exact flatC_own | exact flatC_trow (fun _ _ _ _ => trivial)) (fun r12 => ?_))
  dsimp only [List.cons_append, List.nil_append]
  refine ow_ev (ev_build [.int .i64 y7.1, .int .i64 y10.1]) ?_
  refine ow_cons (st_alloc rfl (k := fun b13 => ?_))
  refine ow_cons (st_store_all (b := b13) (vs := [.int .i64 y7.1, .int .i64 y10.1]) (k := ?_))
  refine ow_nil (hK4 _ _ ?_); clear hK4
  refine cw_seq fun K5 hK5 => ?_
  refine cw_region ?_
  refine ow_ev (ev_field_addr 0) ?_
  refine ow_ev (ev_load_own (b := b6)) ?_
  refine ow_ev (ev_load_all (b := b13)) ?_
  refine ow_cons (st_bslice (α := Step) 40 (fun _ => ()) ([(Step.mk y7.1 y10.1)] : List Step) (OkL.flat (fun _ _ _ _ => trivial)) (fun r14 => ?_))
  refine ow_imp (fun w hm => hm.row_nil (α := Step) 40 (fun _ => ())) ?_
  obtain ⟨hb16, hM⟩ := chk_some hM
  refine ow_cons (st_append (r := (⟨none, 0, (fun _ => ())⟩ : SR (GoRep.R Step) )) (r2 := r14) (by intro r'; repeat (first | exact Upd.head | apply Upd.tail)) (Kn.trow (e := 40) (r := r14) (by repeat (first | exact Has.head | apply Has.tail))) (OkL.flat (fun _ _ _ _ => trivial)) (of_decide_eq_true hb16) (fun r17 => ?_))
  refine ow_ev (ev_field_addr 0) ?_
  refine ow_cons (st_store_own (b := b6) (l' := [.slice r17.a ((([] : List Step) ++ ([(Step.mk y7.1 y10.1)] : List Step)).length) r17.cap, .int .i64 0]) (k := ?_))
  refine ow_nil (hK5 _ _ ?_); clear hK5
  refine cw_cut (γ := (Int × (List Step)) × (SR (GoRep.R Step))) (env := fun ((s_j1_1, lr_j1_0), rr_j1_0) => [(4, .v (.pointer (some ⟨b2, 0, none⟩))), (5, .v (.pointer (some ⟨r5.1, 0, none⟩))), (6, .v (.pointer (some ⟨b6, 0, none⟩)))]) (mem := fun ((s_j1_1, lr_j1_0), rr_j1_0) => [trow 40 (⟨none, 0, (fun _ => ())⟩ : SR (GoRep.R Step)  ) ([] : List Step), own b2 48 [.slice (⟨none, 0, (fun _ => ())⟩ : SR (GoRep.R Step)  ).a (([] : List Step).length) (⟨none, 0, (fun _ => ())⟩ : SR (GoRep.R Step)  ).cap, .int .i64 0], imm (α := (List Int)) r5.2 y3.l, own r5.1 122 [.slice r5.2.a y3.l.length r5.2.cap, .int .i64 s_j1_1], trow 40 rr_j1_0 lr_j1_0, own b6 48 [.slice rr_j1_0.a lr_j1_0.length rr_j1_0.cap, .int .i64 0]]) (R := fun g => keep_Route_k1 y3 g.1 = some y) ?_ ?_
  · intro KJ1 hJ1
    refine cw_seq fun K8 hK8 => ?_
    refine cw_region ?_
    refine ow_ev ev_move ?_
    obtain ⟨y22, hy23, hM⟩ := bind_some hM
    refine ow_cons (st_callF (by repeat (first | exact SelL.nil | (apply SelL.cons; · (repeat (first | exact Sel.head | apply Sel.tail))))) (fun S w hs hP => keep_Source_Next_spec _ w r5.1 (Keep_Source.mk y3.l y10.2) r5.2 6 y22 hy23 hP (Kn.lend (Kn.imm (α := List Int) (r := r5.2) (x := y3.l) (by repeat (first | exact Has.head | apply Has.tail))) hs)) (by intro r c hc; simp only [List.mem_cons, List.not_mem_nil, or_false] at hc; rcases hc with rfl <;> first | exact flatC_own | exact flatC_trow (fun _ _ _ _ => trivial)) (fun r24 => ?_))
    dsimp only [List.cons_append, List.nil_append]
    obtain ⟨hI25, hM⟩ := chk_some hM
    refine ow_ev (ev_add (hr := fun hg => i64b_I64 hI25)) ?_
    refine ow_ev ev_assign ?_
    refine ow_nil (hK8 _ _ ?_); clear hK8
    refine cw_block ?_
    refine cw_imp (fun w hm => hm.row_nil (α := Step) 40 (fun _ => ())) ?_
    refine cw_loop (γ := Nat × (Int × (List Step) × Int × Int × Int) × (SR (GoRep.R Step))) (env := fun (_, (s_1_1, lr_1_0, x_1_0, x_1_1, n_1), rr_1_0) => [(2, .v (.pointer (some ⟨b1, 0, none⟩))), (4, .v (.pointer (some ⟨b2, 0, none⟩))), (5, .v (.pointer (some ⟨r5.1, 0, none⟩))), (6, .v (.pointer (some ⟨b6, 0, none⟩))), (7, .v (.pointer (some ⟨b13, 0, none⟩))), (8, .v (.int .i64 n_1))]) (mem := fun (_, (s_1_1, lr_1_0, x_1_0, x_1_1, n_1), rr_1_0) => [imm (α := (List Str)) r_l0.1 l0.Stations, imm (α := (List Str)) r_l0.2.1 l0.Points, imm (α := (List Section)) r_l0.2.2.1 l0.Sections, imm (α := (List Link)) r_l0.2.2.2 l0.Links, own b1 28 [.slice r_l0.1.a l0.Stations.length r_l0.1.cap, .slice r_l0.2.1.a l0.Points.length r_l0.2.1.cap, .slice r_l0.2.2.1.a l0.Sections.length r_l0.2.2.1.cap, .slice r_l0.2.2.2.a l0.Links.length r_l0.2.2.2.cap], trow 40 (⟨none, 0, (fun _ => ())⟩ : SR (GoRep.R Step)   ) ([] : List Step), own b2 48 [.slice (⟨none, 0, (fun _ => ())⟩ : SR (GoRep.R Step)   ).a (([] : List Step).length) (⟨none, 0, (fun _ => ())⟩ : SR (GoRep.R Step)   ).cap, .int .i64 0], imm (α := (List Int)) r5.2 y3.l, own r5.1 122 [.slice r5.2.a y3.l.length r5.2.cap, .int .i64 s_1_1], trow 40 rr_1_0 lr_1_0, own b6 48 [.slice rr_1_0.a lr_1_0.length rr_1_0.cap, .int .i64 0], own b13 40 [.int .i64 x_1_0, .int .i64 x_1_1]]) (R := fun g => iter (keep_Route_b1 l0 y3) g.1 g.2.1 = some y) (μ := fun g => g.1) (FUEL, (y22.2, (([] : List Step) ++ ([(Step.mk y7.1 y10.1)] : List Step)), y7.1, y10.1, (1 + y22.1)), r17) hM ⟨rfl, rfl, rfl, rfl, rfl, rfl, trivial⟩ (fun w hm => hm.reord) ?_
    clear hM
    intro g hM KL1 hL1
    obtain ⟨nn1, ⟨s_1_1, lr_1_0, x_1_0, x_1_1, n_1⟩, rr_1_0⟩ := g
    dsimp only at hM ⊢
    obtain ⟨nn1, cont1, rfl, hcont1, hM⟩ := iter_open' hM
    dsimp only [keep_Route_b1] at hM
    refine cw_seq fun K9 hK9 => ?_
    refine cw_seq fun K10 hK10 => ?_
    refine cw_region ?_
    refine ow_ev ev_move ?_
    refine ow_ev ev_gtr ?_
    refine ow_nil (hK10 _ _ ?_); clear hK10
    refine cw_cond rfl (fun hc27 => ?_) (fun hc27 => ?_)
    ·
      replace hM := (ite_t hc27).symm.trans hM
      refine cw_skip (hK9 _ _ ?_); clear hK9
      refine cw_cut (γ := (Int × (List Step) × Int × Int × Int) × (SR (GoRep.R Step))) (env := fun ((s_j2_1, lr_j2_0, x_j2_0, x_j2_1, n_j2), rr_j2_0) => [(2, .v (.pointer (some ⟨b1, 0, none⟩))), (4, .v (.pointer (some ⟨b2, 0, none⟩))), (5, .v (.pointer (some ⟨r5.1, 0, none⟩))), (6, .v (.pointer (some ⟨b6, 0, none⟩))), (7, .v (.pointer (some ⟨b13, 0, none⟩))), (8, .v (.int .i64 n_j2))]) (mem := fun ((s_j2_1, lr_j2_0, x_j2_0, x_j2_1, n_j2), rr_j2_0) => [imm (α := (List Str)) r_l0.1 l0.Stations, imm (α := (List Str)) r_l0.2.1 l0.Points, imm (α := (List Section)) r_l0.2.2.1 l0.Sections, imm (α := (List Link)) r_l0.2.2.2 l0.Links, own b1 28 [.slice r_l0.1.a l0.Stations.length r_l0.1.cap, .slice r_l0.2.1.a l0.Points.length r_l0.2.1.cap, .slice r_l0.2.2.1.a l0.Sections.length r_l0.2.2.1.cap, .slice r_l0.2.2.2.a l0.Links.length r_l0.2.2.2.cap], trow 40 (⟨none, 0, (fun _ => ())⟩ : SR (GoRep.R Step)   ) ([] : List Step), own b2 48 [.slice (⟨none, 0, (fun _ => ())⟩ : SR (GoRep.R Step)   ).a (([] : List Step).length) (⟨none, 0, (fun _ => ())⟩ : SR (GoRep.R Step)   ).cap, .int .i64 0], imm (α := (List Int)) r5.2 y3.l, own r5.1 122 [.slice r5.2.a y3.l.length r5.2.cap, .int .i64 s_j2_1], trow 40 rr_j2_0 lr_j2_0, own b6 48 [.slice rr_j2_0.a lr_j2_0.length rr_j2_0.cap, .int .i64 0], own b13 40 [.int .i64 x_j2_0, .int .i64 x_j2_1]]) (R := fun g => keep_Route_k2 cont1 g.1 = some y) ?_ ?_
      · intro KJ2 hJ2
        refine cw_block ?_
        refine cw_seq fun K11 hK11 => ?_
        refine cw_region ?_
        refine ow_ev (ev_load_all (b := b1)) ?_
        refine ow_ev (ev_load_all (b := b13)) ?_
        obtain ⟨y29, hy30, hM⟩ := bind_some hM
        refine ow_cons (st_callF SelL.nil (fun S w hs hP => ref1_HopsOf_spec _ w l0 r_l0 (Step.mk x_1_0 x_1_1) y29 hy30 (lend_lt hs) ⟨(Kn.lend (Kn.imm (α := List Str) (r := r_l0.1) (x := l0.Stations) (by repeat (first | exact Has.head | apply Has.tail))) hs), (Kn.lend (Kn.imm (α := List Str) (r := r_l0.2.1) (x := l0.Points) (by repeat (first | exact Has.head | apply Has.tail))) hs), (Kn.lend (Kn.imm (α := List Section) (r := r_l0.2.2.1) (x := l0.Sections) (by repeat (first | exact Has.head | apply Has.tail))) hs), (Kn.lend (Kn.imm (α := List Link) (r := r_l0.2.2.2) (x := l0.Links) (by repeat (first | exact Has.head | apply Has.tail))) hs)⟩) (by intro r c hc; simp only [List.mem_cons, List.not_mem_nil, or_false] at hc; rcases hc with rfl <;> first | exact flatC_own | exact flatC_trow (fun _ _ _ _ => trivial)) (fun r31 => ?_))
        dsimp only [List.cons_append, List.nil_append]
        refine ow_ev ev_assign ?_
        refine ow_nil (hK11 _ _ ?_); clear hK11
        refine cw_seq fun K12 hK12 => ?_
        refine cw_seq fun K13 hK13 => ?_
        refine cw_region ?_
        refine ow_ev ev_move ?_
        refine ow_ev ev_len ?_
        refine ow_ev ev_eql ?_
        refine ow_nil (hK13 _ _ ?_); clear hK13
        refine cw_cond rfl (fun hc32 => ?_) (fun hc32 => ?_)
        ·
          replace hM := (ite_t hc32).symm.trans hM
          refine cw_exit (hJ1 ((s_1_1, lr_1_0), rr_1_0) _ _ hM ⟨rfl, rfl, rfl, trivial⟩ (fun w hm => hm.reord))
        ·
          replace hM := (ite_f hc32).symm.trans hM
          refine cw_skip (hK12 _ _ ?_); clear hK12
          refine cw_seq fun K14 hK14 => ?_
          refine cw_region ?_
          refine ow_ev ev_move ?_
          refine ow_ev ev_move ?_
          refine ow_ev ev_move ?_
          refine ow_ev ev_len ?_
          obtain ⟨y33, hy34, hM⟩ := bind_some hM
          refine ow_cons (st_callF (by repeat (first | exact SelL.nil | (apply SelL.cons; · (repeat (first | exact Sel.head | apply Sel.tail))))) (fun S w hs hP => keep_Source_Next_spec _ w r5.1 (Keep_Source.mk y3.l s_1_1) r5.2 (y29.length : Int) y33 hy34 hP (Kn.lend (Kn.imm (α := List Int) (r := r5.2) (x := y3.l) (by repeat (first | exact Has.head | apply Has.tail))) hs)) (by intro r c hc; simp only [List.mem_cons, List.not_mem_nil, or_false] at hc; rcases hc with rfl <;> first | exact flatC_own | exact flatC_trow (fun _ _ _ _ => trivial)) (fun r35 => ?_))
          dsimp only [List.cons_append, List.nil_append]
          obtain ⟨x36, hx37, hM⟩ := bind_some hM
          refine ow_ev (ev_idx (xs := y29) 4 (Kn.trow (e := 43) (r := r31) (by repeat (first | exact Has.head | apply Has.tail))) (fun hg => let h := idx_some hx37; ⟨h.1, h.2.1⟩)) ?_
          refine ow_ev (ev_field_addr 0) ?_
          refine ow_ev (ev_lds (m := 2) (i := y33.1) (xs := y29) (y := x36) (l := [.int .i64 x36.To.Section, .int .i64 x36.To.Dir]) 0 (Kn.trow (e := 43) (r := r31) (by repeat (first | exact Has.head | apply Has.tail))) (fun _ => hx37)) ?_
          refine ow_cons (st_store_all (b := b13) (vs := [.int .i64 x36.To.Section, .int .i64 x36.To.Dir]) (k := ?_))
          refine ow_nil (hK14 _ _ ?_); clear hK14
          refine cw_seq fun K15 hK15 => ?_
          refine cw_seq fun K16 hK16 => ?_
          refine cw_region ?_
          refine ow_ev (ev_field_addr 0) ?_
          refine ow_ev (ev_load_own (b := b6)) ?_
          refine ow_have (fun w hm => Kn.len (Kn.trow (e := 40) (r := rr_1_0) (by repeat (first | exact Has.head | apply Has.tail))) hm) fun hl38 => ?_
          refine ow_ev ev_len ?_
          refine ow_ev ev_move ?_
          refine ow_nil (hK16 _ _ ?_); clear hK16
          refine cw_block ?_
          refine cw_loop (γ := Nat × (Int × Nat) × Unit) (env := fun (_, (n_2, t51_2), _) => [(2, .v (.pointer (some ⟨b1, 0, none⟩))), (4, .v (.pointer (some ⟨b2, 0, none⟩))), (5, .v (.pointer (some ⟨r5.1, 0, none⟩))), (6, .v (.pointer (some ⟨b6, 0, none⟩))), (7, .v (.pointer (some ⟨b13, 0, none⟩))), (8, .v (.int .i64 n_2)), (50, .v (.int .i64 (lr_1_0.length : Int))), (51, .v (.int .i64 (t51_2 : Int)))]) (mem := fun (_, (n_2, t51_2), _) => [imm (α := (List Str)) r_l0.1 l0.Stations, imm (α := (List Str)) r_l0.2.1 l0.Points, imm (α := (List Section)) r_l0.2.2.1 l0.Sections, imm (α := (List Link)) r_l0.2.2.2 l0.Links, own b1 28 [.slice r_l0.1.a l0.Stations.length r_l0.1.cap, .slice r_l0.2.1.a l0.Points.length r_l0.2.1.cap, .slice r_l0.2.2.1.a l0.Sections.length r_l0.2.2.1.cap, .slice r_l0.2.2.2.a l0.Links.length r_l0.2.2.2.cap], trow 40 (⟨none, 0, (fun _ => ())⟩ : SR (GoRep.R Step)   ) ([] : List Step), own b2 48 [.slice (⟨none, 0, (fun _ => ())⟩ : SR (GoRep.R Step)   ).a (([] : List Step).length) (⟨none, 0, (fun _ => ())⟩ : SR (GoRep.R Step)   ).cap, .int .i64 0], imm (α := (List Int)) r5.2 y3.l, own r5.1 122 [.slice r5.2.a y3.l.length r5.2.cap, .int .i64 y33.2], trow 40 rr_1_0 lr_1_0, own b6 48 [.slice rr_1_0.a lr_1_0.length rr_1_0.cap, .int .i64 0], own b13 40 [.int .i64 x36.To.Section, .int .i64 x36.To.Dir]]) (R := fun g => iter (keep_Route_b2 lr_1_0 x36 cont1 y33) g.1 g.2.1 = some y) (μ := fun g => g.1) (FUEL, (n_1, 0), ()) hM ⟨rfl, rfl, rfl, rfl, rfl, rfl, rfl, rfl, trivial⟩ (fun w hm => hm.reord) ?_
          clear hM
          intro g hM KL2 hL2
          obtain ⟨nn2, ⟨n_2, t51_2⟩, ⟨⟩⟩ := g
          dsimp only at hM ⊢
          obtain ⟨nn2, cont2, rfl, hcont2, hM⟩ := iter_open' hM
          dsimp only [keep_Route_b2] at hM
          refine cw_seq fun K17 hK17 => ?_
          refine cw_region ?_
          refine ow_ev ev_lss ?_
          refine ow_nil (hK17 _ _ ?_); clear hK17
          refine cw_seq fun K18 hK18 => ?_
          refine cw_cond rfl (fun hc39 => ?_) (fun hc39 => ?_)
          ·
            replace hM := (ite_t hc39).symm.trans hM
            have hc39d := of_decide_eq_true hc39
            refine cw_skip (hK18 _ _ ?_); clear hK18
            refine cw_cut (γ := Int × Unit) (env := fun (n_j4, _) => [(2, .v (.pointer (some ⟨b1, 0, none⟩))), (4, .v (.pointer (some ⟨b2, 0, none⟩))), (5, .v (.pointer (some ⟨r5.1, 0, none⟩))), (6, .v (.pointer (some ⟨b6, 0, none⟩))), (7, .v (.pointer (some ⟨b13, 0, none⟩))), (8, .v (.int .i64 n_j4)), (50, .v (.int .i64 (lr_1_0.length : Int))), (51, .v (.int .i64 (t51_2 : Int)))]) (mem := fun (n_j4, _) => [imm (α := (List Str)) r_l0.1 l0.Stations, imm (α := (List Str)) r_l0.2.1 l0.Points, imm (α := (List Section)) r_l0.2.2.1 l0.Sections, imm (α := (List Link)) r_l0.2.2.2 l0.Links, own b1 28 [.slice r_l0.1.a l0.Stations.length r_l0.1.cap, .slice r_l0.2.1.a l0.Points.length r_l0.2.1.cap, .slice r_l0.2.2.1.a l0.Sections.length r_l0.2.2.1.cap, .slice r_l0.2.2.2.a l0.Links.length r_l0.2.2.2.cap], trow 40 (⟨none, 0, (fun _ => ())⟩ : SR (GoRep.R Step)   ) ([] : List Step), own b2 48 [.slice (⟨none, 0, (fun _ => ())⟩ : SR (GoRep.R Step)   ).a (([] : List Step).length) (⟨none, 0, (fun _ => ())⟩ : SR (GoRep.R Step)   ).cap, .int .i64 0], imm (α := (List Int)) r5.2 y3.l, own r5.1 122 [.slice r5.2.a y3.l.length r5.2.cap, .int .i64 y33.2], trow 40 rr_1_0 lr_1_0, own b6 48 [.slice rr_1_0.a lr_1_0.length rr_1_0.cap, .int .i64 0], own b13 40 [.int .i64 x36.To.Section, .int .i64 x36.To.Dir]]) (R := fun g => keep_Route_k4 cont2 t51_2 g.1 = some y) ?_ ?_
            · intro KJ4 hJ4
              refine cw_block ?_
              refine cw_seq fun K19 hK19 => ?_
              refine cw_region ?_
              refine ow_ev ev_move ?_
              refine ow_ev ev_assign ?_
              refine ow_nil (hK19 _ _ ?_); clear hK19
              refine cw_seq fun K20 hK20 => ?_
              refine cw_region_any _ (List.Sublist.refl _) ?_
              refine aw_ev 0 rfl (ev_field_addr 0) ?_
              refine aw_ev 1 rfl (ev_load_own (b := b6)) ?_
              refine aw_ev 2 rfl ev_move ?_
              obtain ⟨x40, hx41, hM⟩ := bind_some hM
              refine aw_ev 3 rfl (ev_idx (xs := lr_1_0) 2 (Kn.trow (e := 40) (r := rr_1_0) (by repeat (first | exact Has.head | apply Has.tail))) (fun hg => let h := idx_some hx41; ⟨h.1, h.2.1⟩)) ?_
              refine aw_ev 4 rfl (ev_field_addr 0) ?_
              refine aw_ev 5 rfl (ev_ld (i := (t51_2 : Int)) (xs := lr_1_0) (y := x40) 0 (Kn.trow (e := 40) (r := rr_1_0) (by repeat (first | exact Has.head | apply Has.tail))) (fun _ => hx41)) ?_
              refine aw_ev 6 rfl (ev_field_addr 0) ?_
              refine aw_ev 7 rfl (ev_load_own (b := b13)) ?_
              refine aw_ev 8 rfl ev_eql ?_
              refine aw_done (hK20 _ _ ?_); clear hK20
              refine cw_cond rfl (fun hc42 => ?_) (fun hc42 => ?_)
              ·
                replace hM := (ite_t hc42).symm.trans hM
                refine cw_region ?_
                refine ow_ev ev_assign ?_
                refine ow_nil (hJ4 (0, ()) _ _ hM ⟨rfl, rfl, rfl, rfl, rfl, rfl, rfl, rfl, trivial⟩ (fun w hm => hm.reord))
              ·
                replace hM := (ite_f hc42).symm.trans hM
                refine cw_skip (hJ4 (n_2, ()) _ _ hM ⟨rfl, rfl, rfl, rfl, rfl, rfl, rfl, rfl, trivial⟩ (fun w hm => hm.reord))
            ·
              clear hM
              intro g hM
              obtain ⟨n_j4, ⟨⟩⟩ := g
              dsimp only at hM ⊢
              dsimp only [keep_Route_k4] at hM
              refine cw_region ?_
              refine ow_ev (ev_add (hr := fun _ => by unfold I64; omega)) ?_
              refine ow_ev ev_move ?_
              refine ow_nil (hL2 (nn2, (n_j4, t51_2 + 1), ()) _ _ (eqc hcont2 hM) (Nat.lt_succ_self _) ⟨rfl, rfl, rfl, rfl, rfl, rfl, rfl, rfl, trivial⟩ (fun w hm => hm.reord))
          ·
            replace hM := (ite_f hc39).symm.trans hM
            refine cw_exit (hK15 _ _ ?_); clear hK15
            dsimp only [keep_Route_k3] at hM
            refine cw_seq fun K21 hK21 => ?_
            refine cw_region ?_
            refine ow_ev ev_move ?_
            refine ow_ev ev_gtr ?_
            refine ow_nil (hK21 _ _ ?_); clear hK21
            refine cw_cond rfl (fun hc43 => ?_) (fun hc43 => ?_)
            ·
              replace hM := (ite_t hc43).symm.trans hM
              refine cw_region ?_
              refine ow_ev (ev_field_addr 0) ?_
              refine ow_ev (ev_load_own (b := b6)) ?_
              refine ow_ev (ev_load_all (b := b13)) ?_
              refine ow_cons (st_bslice (α := Step) 40 (fun _ => ()) ([x36.To] : List Step) (OkL.flat (fun _ _ _ _ => trivial)) (fun r44 => ?_))
              obtain ⟨hb45, hM⟩ := chk_some hM
              refine ow_cons (st_append (r := rr_1_0) (r2 := r44) (by intro r'; repeat (first | exact Upd.head | apply Upd.tail)) (Kn.trow (e := 40) (r := r44) (by repeat (first | exact Has.head | apply Has.tail))) (OkL.flat (fun _ _ _ _ => trivial)) (of_decide_eq_true hb45) (fun r46 => ?_))
              refine ow_ev (ev_field_addr 0) ?_
              refine ow_cons (st_store_own (b := b6) (l' := [.slice r46.a ((lr_1_0 ++ ([x36.To] : List Step)).length) r46.cap, .int .i64 0]) (k := ?_))
              refine ow_nil (hJ2 ((y33.2, (lr_1_0 ++ ([x36.To] : List Step)), x36.To.Section, x36.To.Dir, n_2), r46) _ _ hM ⟨rfl, rfl, rfl, rfl, rfl, rfl, trivial⟩ (fun w hm => hm.reord))
            ·
              replace hM := (ite_f hc43).symm.trans hM
              refine cw_skip (hJ2 ((y33.2, lr_1_0, x36.To.Section, x36.To.Dir, n_2), rr_1_0) _ _ hM ⟨rfl, rfl, rfl, rfl, rfl, rfl, trivial⟩ (fun w hm => hm.reord))
      ·
        clear hM
        intro g hM
        obtain ⟨⟨s_j2_1, lr_j2_0, x_j2_0, x_j2_1, n_j2⟩, rr_j2_0⟩ := g
        dsimp only at hM ⊢
        dsimp only [keep_Route_k2] at hM
        refine cw_region ?_
        refine ow_ev ev_move ?_
        obtain ⟨hI28, hM⟩ := chk_some hM
        refine ow_ev (ev_sub (hr := fun hg => i64b_I64 hI28)) ?_
        refine ow_ev ev_assign ?_
        refine ow_nil (hL1 (nn1, (s_j2_1, lr_j2_0, x_j2_0, x_j2_1, (n_j2 - 1)), rr_j2_0) _ _ (eqc hcont1 hM) (Nat.lt_succ_self _) ⟨rfl, rfl, rfl, rfl, rfl, rfl, trivial⟩ (fun w hm => hm.reord))
    ·
      replace hM := (ite_f hc27).symm.trans hM
      refine cw_exit (hJ1 ((s_1_1, lr_1_0), rr_1_0) _ _ hM ⟨rfl, rfl, rfl, trivial⟩ (fun w hm => hm.reord))
  ·
    clear hM
    intro g hM
    obtain ⟨⟨s_j1_1, lr_j1_0⟩, rr_j1_0⟩ := g
    dsimp only at hM ⊢
    dsimp only [keep_Route_k1] at hM
    refine cw_seq fun K6 hK6 => ?_
    refine cw_region_z [trow 40 (⟨none, 0, (fun _ => ())⟩ : SR (GoRep.R Step)  ) ([] : List Step), own b2 48 [.slice (⟨none, 0, (fun _ => ())⟩ : SR (GoRep.R Step)  ).a (([] : List Step).length) (⟨none, 0, (fun _ => ())⟩ : SR (GoRep.R Step)  ).cap, .int .i64 0], imm (α := (List Int)) r5.2 y3.l, trow 40 rr_j1_0 lr_j1_0, own b6 48 [.slice rr_j1_0.a lr_j1_0.length rr_j1_0.cap, .int .i64 0]] 9 ?_
    refine az_ev 0 rfl ev_move ?_
    refine az_ev 2 rfl (ev_field_addr 0) ?_
    refine az_ev 3 rfl (ev_load_own (b := b6)) ?_
    refine az_ev 4 rfl ev_len ?_
    obtain ⟨hI18, hM⟩ := chk_some hM
    refine az_ev 5 rfl (ev_sub (hr := fun hg => i64b_I64 hI18)) ?_
    refine az_ev 6 rfl ev_max2 ?_
    obtain ⟨y19, hy20, hM⟩ := bind_some hM
    refine az_one 1 rfl (st_callF (by repeat (first | exact SelL.nil | (apply SelL.cons; · (repeat (first | exact Sel.head | apply Sel.tail))))) (fun S w hs hP => keep_Source_Next_spec _ w r5.1 (Keep_Source.mk y3.l s_j1_1) r5.2 3 y19 hy20 hP (Kn.lend (Kn.imm (α := List Int) (r := r5.2) (x := y3.l) (by repeat (first | exact Has.head | apply Has.tail))) hs)) (by intro r c hc; simp only [List.mem_cons, List.not_mem_nil, or_false] at hc; rcases hc with rfl <;> first | exact flatC_own | exact flatC_trow (fun _ _ _ _ => trivial)) (fun r21 => ⟨fun w hm => hm.sub (by repeat (first | exact List.Sublist.refl _ | apply List.Sublist.cons_cons | apply List.Sublist.cons)), ?_⟩))
    dsimp only [List.cons_append, List.nil_append]
    refine az_ev 7 rfl ev_min2 ?_
    refine az_ev 8 rfl (ev_field_addr 1) ?_
    refine az_last rfl (st_store_own (b := b6) (l' := [.slice rr_j1_0.a lr_j1_0.length rr_j1_0.cap, .int .i64 (if (if ((lr_j1_0.length : Int) - 2) > 0 then ((lr_j1_0.length : Int) - 2) else 0) < y19.1 then (if ((lr_j1_0.length : Int) - 2) > 0 then ((lr_j1_0.length : Int) - 2) else 0) else y19.1)]) (k := ?_))
    refine az_done (hK6 _ _ ?_); clear hK6
    refine cw_seq fun K7 hK7 => ?_
    refine cw_region ?_
    refine ow_ev (ev_load_all (b := b6)) ?_
    refine ow_cons (st_store_all (b := b2) (vs := [.slice rr_j1_0.a lr_j1_0.length rr_j1_0.cap, .int .i64 (if (if ((lr_j1_0.length : Int) - 2) > 0 then ((lr_j1_0.length : Int) - 2) else 0) < y19.1 then (if ((lr_j1_0.length : Int) - 2) > 0 then ((lr_j1_0.length : Int) - 2) else 0) else y19.1)]) (k := ?_))
    refine ow_nil (hK7 _ _ ?_); clear hK7
    obtain rfl := some_inj hM
    refine cw_ret (kw_retc1 (fun w hm => post_of rr_j1_0 hm rfl))

end Go.Proofs.Ytnihhidbiepnhaa
