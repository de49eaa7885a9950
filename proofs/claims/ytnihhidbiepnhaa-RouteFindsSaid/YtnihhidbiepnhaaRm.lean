/- Models of functions, and that the code computes them. -/
import Derived.Test.YtnihhidbiepnhaaRk
namespace Go.Proofs.Ytnihhidbiepnhaa
open Go.Dc Go.RowKit
set_option maxRecDepth 10000
set_option linter.unusedVariables false
def ref1_HopsOf_k3 (i_1 : Nat) (cont1 : ((List Hop) × Nat) → Option (List Hop)) : (List Hop) → Option (List Hop) := fun lh_j3 =>
  chk (i64b ((i_1 : Int) + 1)) <|
  cont1 (lh_j3, i_1 + 1)
def ref1_HopsOf_k5 (lh_1 : List Hop) (to_j4_0 : Int) (x7 : Link) (i_1 : Nat) (cont1 : ((List Hop) × Nat) → Option (List Hop)) : Int → Option (List Hop) := fun dir_j5 =>
  chk (decide ((lh_1.length + ([(Hop.mk (Step.mk to_j4_0 dir_j5) x7.Point x7.Pos)] : List Hop).length) * 32 ≤ 140737488355328)) <|
  ref1_HopsOf_k3 i_1 cont1 (lh_1 ++ ([(Hop.mk (Step.mk to_j4_0 dir_j5) x7.Point x7.Pos)] : List Hop))
def ref1_HopsOf_k4 (lh_1 : List Hop) (x7 : Link) (i_1 : Nat) (cont1 : ((List Hop) × Nat) → Option (List Hop)) : (Int × Int) → Option (List Hop) := fun (to_j4_0, to_j4_1) =>
  if decide (0 ≤ to_j4_0) then
    (if decide (to_j4_1 = 1) then
      (ref1_HopsOf_k5 lh_1 to_j4_0 x7 i_1 cont1 1)
    else
      (ref1_HopsOf_k5 lh_1 to_j4_0 x7 i_1 cont1 0))
  else
    (ref1_HopsOf_k3 i_1 cont1 lh_1)
def ref1_HopsOf_k2 (lh_1 : List Hop) : Unit → Option (List Hop) := fun _ =>
  some lh_1
def ref1_HopsOf_b1 (l0 : Layout) (s0 : Step) (out_j1_1 : Int) (cont1 : ((List Hop) × Nat) → Option (List Hop)) : ((List Hop) × Nat) → Option (List Hop) := fun (lh_1, i_1) =>
  if decide ((i_1 : Int) < (l0.Links.length : Int)) then
    ((idx l0.Links (i_1 : Int)).bind fun x7 =>
    if (decide (x7.A = s0.Section) && decide (x7.AEnd = out_j1_1)) then
      (ref1_HopsOf_k4 lh_1 x7 i_1 cont1 (x7.B, x7.BEnd))
    else
      (if (decide (x7.B = s0.Section) && decide (x7.BEnd = out_j1_1)) then
        (ref1_HopsOf_k4 lh_1 x7 i_1 cont1 (x7.A, x7.AEnd))
      else
        (ref1_HopsOf_k4 lh_1 x7 i_1 cont1 ((-1), 0))))
  else
    (ref1_HopsOf_k2 lh_1 ())
def ref1_HopsOf_k1 (l0 : Layout) (s0 : Step) : Int → Option (List Hop) := fun out_j1_1 =>
  iter (ref1_HopsOf_b1 l0 s0 out_j1_1) FUEL (([] : List Hop), 0)
def ref1_HopsOf_m (l0 : Layout) (s0 : Step) : Option (List Hop) :=
  if decide (s0.Dir = 1) then
    (ref1_HopsOf_k1 l0 s0 0)
  else
    (ref1_HopsOf_k1 l0 s0 1)
theorem ref1_HopsOf_spec (S : Soup) (w : World) (l0 : Layout) (r_l0 : GoRep.R Layout) (s0 : Step) (y : (List Hop)) (hM : ref1_HopsOf_m l0 s0 = some y) (hS : ∀ k, S k → k < w.heap.size) (h_l0 : GoRep.ok S w r_l0 l0) :
    Calls Try.prog 51 #[.agg #[.slice r_l0.1.a l0.Stations.length r_l0.1.cap, .slice r_l0.2.1.a l0.Points.length r_l0.2.1.cap, .slice r_l0.2.2.1.a l0.Sections.length r_l0.2.2.1.cap, .slice r_l0.2.2.2.a l0.Links.length r_l0.2.2.2.cap], .agg #[.int .i64 s0.Section, .int .i64 s0.Dir]] w (Post (β := (GoRep.R (List Hop))) S [] (fun g => .slice g.a y.length g.cap) (fun g => [trow 43 g y]) w) := by
  refine calls_cw (args := [_, _]) Try.func51 rfl ((pre_nil hS).start |>.immP (α := List Str) (r := r_l0.1) (x := l0.Stations) h_l0.1|>.immP (α := List Str) (r := r_l0.2.1) (x := l0.Points) h_l0.2.1|>.immP (α := List Section) (r := r_l0.2.2.1) (x := l0.Sections) h_l0.2.2.1|>.immP (α := List Link) (r := r_l0.2.2.2) (x := l0.Links) h_l0.2.2.2) rfl ?_
  unfold ref1_HopsOf_m at hM
  refine cw_seq fun K1 hK1 => ?_
  refine cw_region ?_
  refine ow_cons (st_box (l := [.slice r_l0.1.a l0.Stations.length r_l0.1.cap, .slice r_l0.2.1.a l0.Points.length r_l0.2.1.cap, .slice r_l0.2.2.1.a l0.Sections.length r_l0.2.2.1.cap, .slice r_l0.2.2.2.a l0.Links.length r_l0.2.2.2.cap]) (k := fun b1 => ?_))
  refine ow_cons (st_box (l := [.int .i64 s0.Section, .int .i64 s0.Dir]) (k := fun b2 => ?_))
  refine ow_ev ev_assign ?_
  refine ow_nil (hK1 _ _ ?_); clear hK1
  refine cw_seq fun K2 hK2 => ?_
  refine cw_region ?_
  refine ow_ev (ev_field_addr 0) ?_
  refine ow_ev (ev_load_own (b := b2)) ?_
  refine ow_ev (ev_build [.int .i64 s0.Section, .int .i64 1]) ?_
  refine ow_cons (st_alloc rfl (k := fun b3 => ?_))
  refine ow_cons (st_store_all (b := b3) (vs := [.int .i64 s0.Section, .int .i64 1]) (k := ?_))
  refine ow_nil (hK2 _ _ ?_); clear hK2
  refine cw_cut (γ := Int × Unit) (env := fun (out_j1_1, _) => [(2, .v (.pointer (some ⟨b1, 0, none⟩))), (5, .v (.pointer (some ⟨b3, 0, none⟩)))]) (mem := fun (out_j1_1, _) => [imm (α := (List Str)) r_l0.1 l0.Stations, imm (α := (List Str)) r_l0.2.1 l0.Points, imm (α := (List Section)) r_l0.2.2.1 l0.Sections, imm (α := (List Link)) r_l0.2.2.2 l0.Links, own b1 28 [.slice r_l0.1.a l0.Stations.length r_l0.1.cap, .slice r_l0.2.1.a l0.Points.length r_l0.2.1.cap, .slice r_l0.2.2.1.a l0.Sections.length r_l0.2.2.1.cap, .slice r_l0.2.2.2.a l0.Links.length r_l0.2.2.2.cap], own b3 134 [.int .i64 s0.Section, .int .i64 out_j1_1]]) (R := fun g => ref1_HopsOf_k1 l0 s0 g.1 = some y) ?_ ?_
  · intro KJ1 hJ1
    refine cw_seq fun K16 hK16 => ?_
    refine cw_region ?_
    refine ow_ev (ev_field_addr 1) ?_
    refine ow_ev (ev_load_own (b := b2)) ?_
    refine ow_ev ev_eql ?_
    refine ow_nil (hK16 _ _ ?_); clear hK16
    refine cw_cond rfl (fun hc18 => ?_) (fun hc18 => ?_)
    ·
      replace hM := (ite_t hc18).symm.trans hM
      refine cw_region ?_
      refine ow_ev (ev_field_addr 1) ?_
      refine ow_cons (st_store_own (b := b3) (l' := [.int .i64 s0.Section, .int .i64 0]) (k := ?_))
      refine ow_nil (hJ1 (0, ()) _ _ hM ⟨rfl, rfl, trivial⟩ (fun w hm => hm.reord))
    ·
      replace hM := (ite_f hc18).symm.trans hM
      refine cw_skip (hJ1 (1, ()) _ _ hM ⟨rfl, rfl, trivial⟩ (fun w hm => hm.reord))
  ·
    clear hM
    intro g hM
    obtain ⟨out_j1_1, ⟨⟩⟩ := g
    dsimp only at hM ⊢
    dsimp only [ref1_HopsOf_k1] at hM
    refine cw_seq fun K3 hK3 => ?_
    refine cw_region ?_
    refine ow_ev ev_assign ?_
    refine ow_nil (hK3 _ _ ?_); clear hK3
    refine cw_seq fun K4 hK4 => ?_
    refine cw_seq fun K5 hK5 => ?_
    refine cw_region ?_
    refine ow_ev ev_assign ?_
    refine ow_nil (hK5 _ _ ?_); clear hK5
    refine cw_block ?_
    refine cw_imp (fun w hm => hm.row_nil (α := Hop) 43 (fun _ => ())) ?_
    refine cw_loop (γ := Nat × ((List Hop) × Nat) × (SR (GoRep.R Hop))) (env := fun (_, (lh_1, i_1), rh_1) => [(2, .v (.pointer (some ⟨b1, 0, none⟩))), (5, .v (.pointer (some ⟨b3, 0, none⟩))), (6, .v (.slice rh_1.a lh_1.length rh_1.cap)), (7, .v (.int .i64 (i_1 : Int)))]) (mem := fun (_, (lh_1, i_1), rh_1) => [imm (α := (List Str)) r_l0.1 l0.Stations, imm (α := (List Str)) r_l0.2.1 l0.Points, imm (α := (List Section)) r_l0.2.2.1 l0.Sections, imm (α := (List Link)) r_l0.2.2.2 l0.Links, own b1 28 [.slice r_l0.1.a l0.Stations.length r_l0.1.cap, .slice r_l0.2.1.a l0.Points.length r_l0.2.1.cap, .slice r_l0.2.2.1.a l0.Sections.length r_l0.2.2.1.cap, .slice r_l0.2.2.2.a l0.Links.length r_l0.2.2.2.cap], own b3 134 [.int .i64 s0.Section, .int .i64 out_j1_1], trow 43 rh_1 lh_1]) (R := fun g => iter (ref1_HopsOf_b1 l0 s0 out_j1_1) g.1 g.2.1 = some y) (μ := fun g => g.1) (FUEL, (([] : List Hop), 0), (⟨none, 0, (fun _ => ())⟩ : SR (GoRep.R Hop) )) hM ⟨rfl, rfl, rfl, rfl, trivial⟩ (fun w hm => hm.reord) ?_
    clear hM
    intro g hM KL1 hL1
    obtain ⟨nn1, ⟨lh_1, i_1⟩, rh_1⟩ := g
    dsimp only at hM ⊢
    obtain ⟨nn1, cont1, rfl, hcont1, hM⟩ := iter_open' hM
    dsimp only [ref1_HopsOf_b1] at hM
    refine cw_seq fun K6 hK6 => ?_
    refine cw_seq fun K7 hK7 => ?_
    refine cw_region ?_
    refine ow_ev ev_move ?_
    refine ow_ev (ev_field_addr 3) ?_
    refine ow_ev (ev_load_own (b := b1)) ?_
    refine ow_ev ev_len ?_
    refine ow_ev ev_lss ?_
    refine ow_nil (hK7 _ _ ?_); clear hK7
    refine cw_cond rfl (fun hc5 => ?_) (fun hc5 => ?_)
    ·
      replace hM := (ite_t hc5).symm.trans hM
      refine cw_skip (hK6 _ _ ?_); clear hK6
      refine cw_cut (γ := (List Hop) × (SR (GoRep.R Hop))) (env := fun (lh_j3, rh_j3) => [(2, .v (.pointer (some ⟨b1, 0, none⟩))), (5, .v (.pointer (some ⟨b3, 0, none⟩))), (6, .v (.slice rh_j3.a lh_j3.length rh_j3.cap)), (7, .v (.int .i64 (i_1 : Int)))]) (mem := fun (lh_j3, rh_j3) => [imm (α := (List Str)) r_l0.1 l0.Stations, imm (α := (List Str)) r_l0.2.1 l0.Points, imm (α := (List Section)) r_l0.2.2.1 l0.Sections, imm (α := (List Link)) r_l0.2.2.2 l0.Links, own b1 28 [.slice r_l0.1.a l0.Stations.length r_l0.1.cap, .slice r_l0.2.1.a l0.Points.length r_l0.2.1.cap, .slice r_l0.2.2.1.a l0.Sections.length r_l0.2.2.1.cap, .slice r_l0.2.2.2.a l0.Links.length r_l0.2.2.2.cap], own b3 134 [.int .i64 s0.Section, .int .i64 out_j1_1], trow 43 rh_j3 lh_j3]) (R := fun g => ref1_HopsOf_k3 i_1 cont1 g.1 = some y) ?_ ?_
      · intro KJ3 hJ3
        refine cw_block ?_
        refine cw_seq fun K8 hK8 => ?_
        refine cw_region ?_
        refine ow_ev (ev_field_addr 3) ?_
        refine ow_ev (ev_load_own (b := b1)) ?_
        refine ow_ev ev_move ?_
        obtain ⟨x7, hx8, hM⟩ := bind_some hM
        refine ow_ev (ev_idx (xs := l0.Links) 6 (Kn.imm (α := List Link) (r := r_l0.2.2.2) (x := l0.Links) (by repeat (first | exact Has.head | apply Has.tail))) (fun hg => let h := idx_some hx8; ⟨h.1, h.2.1⟩)) ?_
        refine ow_ev (ev_lds (m := 6) (i := (i_1 : Int)) (xs := l0.Links) (y := x7) (l := [.int .i64 x7.A, .int .i64 x7.AEnd, .int .i64 x7.B, .int .i64 x7.BEnd, .int .i64 x7.Point, .int .i64 x7.Pos]) 0 (Kn.imm (α := List Link) (r := r_l0.2.2.2) (x := l0.Links) (by repeat (first | exact Has.head | apply Has.tail))) (fun _ => hx8)) ?_
        refine ow_cons (st_alloc rfl (k := fun b9 => ?_))
        refine ow_cons (st_store_all (b := b9) (vs := [.int .i64 x7.A, .int .i64 x7.AEnd, .int .i64 x7.B, .int .i64 x7.BEnd, .int .i64 x7.Point, .int .i64 x7.Pos]) (k := ?_))
        refine ow_nil (hK8 _ _ ?_); clear hK8
        refine cw_seq fun K9 hK9 => ?_
        refine cw_region ?_
        refine ow_ev (ev_build [.int .i64 (-1), .int .i64 0]) ?_
        refine ow_cons (st_alloc rfl (k := fun b10 => ?_))
        refine ow_cons (st_store_all (b := b10) (vs := [.int .i64 (-1), .int .i64 0]) (k := ?_))
        refine ow_nil (hK9 _ _ ?_); clear hK9
        refine cw_cut (γ := (Int × Int) × Unit) (env := fun ((to_j4_0, to_j4_1), _) => [(2, .v (.pointer (some ⟨b1, 0, none⟩))), (5, .v (.pointer (some ⟨b3, 0, none⟩))), (6, .v (.slice rh_1.a lh_1.length rh_1.cap)), (7, .v (.int .i64 (i_1 : Int))), (8, .v (.pointer (some ⟨b9, 0, none⟩))), (9, .v (.pointer (some ⟨b10, 0, none⟩)))]) (mem := fun ((to_j4_0, to_j4_1), _) => [imm (α := (List Str)) r_l0.1 l0.Stations, imm (α := (List Str)) r_l0.2.1 l0.Points, imm (α := (List Section)) r_l0.2.2.1 l0.Sections, imm (α := (List Link)) r_l0.2.2.2 l0.Links, own b1 28 [.slice r_l0.1.a l0.Stations.length r_l0.1.cap, .slice r_l0.2.1.a l0.Points.length r_l0.2.1.cap, .slice r_l0.2.2.1.a l0.Sections.length r_l0.2.2.1.cap, .slice r_l0.2.2.2.a l0.Links.length r_l0.2.2.2.cap], own b3 134 [.int .i64 s0.Section, .int .i64 out_j1_1], trow 43 rh_1 lh_1, own b9 91 [.int .i64 x7.A, .int .i64 x7.AEnd, .int .i64 x7.B, .int .i64 x7.BEnd, .int .i64 x7.Point, .int .i64 x7.Pos], own b10 134 [.int .i64 to_j4_0, .int .i64 to_j4_1]]) (R := fun g => ref1_HopsOf_k4 lh_1 x7 i_1 cont1 g.1 = some y) ?_ ?_
        · intro KJ4 hJ4
          refine cw_block ?_
          refine cw_seq fun K13 hK13 => ?_
          refine cw_region ?_
          refine ow_ev (ev_field_addr 0) ?_
          refine ow_ev (ev_load_own (b := b9)) ?_
          refine ow_ev (ev_field_addr 0) ?_
          refine ow_ev (ev_load_own (b := b3)) ?_
          refine ow_ev ev_eql ?_
          refine ow_ev ev_move ?_
          refine ow_evg rfl (ev_field_addr 1) ?_
          refine ow_evg rfl (ev_load_own (b := b9)) ?_
          refine ow_evg rfl (ev_field_addr 1) ?_
          refine ow_evg rfl (ev_load_own (b := b3)) ?_
          refine ow_evg rfl ev_eql ?_
          refine ow_ev ev_and ?_
          refine ow_ev ev_assign ?_
          refine ow_nil (hK13 _ _ ?_); clear hK13
          refine cw_cond rfl (fun hc16 => ?_) (fun hc16 => ?_)
          ·
            replace hM := (ite_t hc16).symm.trans hM
            refine cw_region ?_
            refine ow_ev (ev_field_addr 2) ?_
            refine ow_ev (ev_load_own (b := b9)) ?_
            refine ow_ev (ev_field_addr 3) ?_
            refine ow_ev (ev_load_own (b := b9)) ?_
            refine ow_ev (ev_build [.int .i64 x7.B, .int .i64 x7.BEnd]) ?_
            refine ow_cons (st_store_all (b := b10) (vs := [.int .i64 x7.B, .int .i64 x7.BEnd]) (k := ?_))
            refine ow_nil (hJ4 ((x7.B, x7.BEnd), ()) _ _ hM ⟨rfl, rfl, rfl, rfl, rfl, rfl, trivial⟩ (fun w hm => hm.reord))
          ·
            replace hM := (ite_f hc16).symm.trans hM
            refine cw_seq fun K14 hK14 => ?_
            refine cw_region ?_
            refine ow_ev (ev_field_addr 2) ?_
            refine ow_ev (ev_load_own (b := b9)) ?_
            refine ow_ev (ev_field_addr 0) ?_
            refine ow_ev (ev_load_own (b := b3)) ?_
            refine ow_ev ev_eql ?_
            refine ow_ev ev_move ?_
            refine ow_evg rfl (ev_field_addr 3) ?_
            refine ow_evg rfl (ev_load_own (b := b9)) ?_
            refine ow_evg rfl (ev_field_addr 1) ?_
            refine ow_evg rfl (ev_load_own (b := b3)) ?_
            refine ow_evg rfl ev_eql ?_
            refine ow_ev ev_and ?_
            refine ow_ev ev_assign ?_
            refine ow_nil (hK14 _ _ ?_); clear hK14
            refine cw_cond rfl (fun hc17 => ?_) (fun hc17 => ?_)
            ·
              replace hM := (ite_t hc17).symm.trans hM
              refine cw_region ?_
              refine ow_ev (ev_field_addr 0) ?_
              refine ow_ev (ev_load_own (b := b9)) ?_
              refine ow_ev (ev_field_addr 1) ?_
              refine ow_ev (ev_load_own (b := b9)) ?_
              refine ow_ev (ev_build [.int .i64 x7.A, .int .i64 x7.AEnd]) ?_
              refine ow_cons (st_store_all (b := b10) (vs := [.int .i64 x7.A, .int .i64 x7.AEnd]) (k := ?_))
              refine ow_nil (hJ4 ((x7.A, x7.AEnd), ()) _ _ hM ⟨rfl, rfl, rfl, rfl, rfl, rfl, trivial⟩ (fun w hm => hm.reord))
            ·
              replace hM := (ite_f hc17).symm.trans hM
              refine cw_skip (hJ4 (((-1), 0), ()) _ _ hM ⟨rfl, rfl, rfl, rfl, rfl, rfl, trivial⟩ (fun w hm => hm.reord))
        ·
          clear hM
          intro g hM
          obtain ⟨⟨to_j4_0, to_j4_1⟩, ⟨⟩⟩ := g
          dsimp only at hM ⊢
          dsimp only [ref1_HopsOf_k4] at hM
          refine cw_seq fun K10 hK10 => ?_
          refine cw_region ?_
          refine ow_ev (ev_field_addr 0) ?_
          refine ow_ev (ev_load_own (b := b10)) ?_
          refine ow_ev ev_geq ?_
          refine ow_nil (hK10 _ _ ?_); clear hK10
          refine cw_cond rfl (fun hc11 => ?_) (fun hc11 => ?_)
          ·
            replace hM := (ite_t hc11).symm.trans hM
            refine cw_seq fun K11 hK11 => ?_
            refine cw_region ?_
            refine ow_ev ev_assign ?_
            refine ow_nil (hK11 _ _ ?_); clear hK11
            refine cw_cut (γ := Int × Unit) (env := fun (dir_j5, _) => [(2, .v (.pointer (some ⟨b1, 0, none⟩))), (5, .v (.pointer (some ⟨b3, 0, none⟩))), (6, .v (.slice rh_1.a lh_1.length rh_1.cap)), (7, .v (.int .i64 (i_1 : Int))), (8, .v (.pointer (some ⟨b9, 0, none⟩))), (9, .v (.pointer (some ⟨b10, 0, none⟩))), (10, .v (.int .i64 dir_j5))]) (mem := fun (dir_j5, _) => [imm (α := (List Str)) r_l0.1 l0.Stations, imm (α := (List Str)) r_l0.2.1 l0.Points, imm (α := (List Section)) r_l0.2.2.1 l0.Sections, imm (α := (List Link)) r_l0.2.2.2 l0.Links, own b1 28 [.slice r_l0.1.a l0.Stations.length r_l0.1.cap, .slice r_l0.2.1.a l0.Points.length r_l0.2.1.cap, .slice r_l0.2.2.1.a l0.Sections.length r_l0.2.2.1.cap, .slice r_l0.2.2.2.a l0.Links.length r_l0.2.2.2.cap], own b3 134 [.int .i64 s0.Section, .int .i64 out_j1_1], trow 43 rh_1 lh_1, own b9 91 [.int .i64 x7.A, .int .i64 x7.AEnd, .int .i64 x7.B, .int .i64 x7.BEnd, .int .i64 x7.Point, .int .i64 x7.Pos], own b10 134 [.int .i64 to_j4_0, .int .i64 to_j4_1]]) (R := fun g => ref1_HopsOf_k5 lh_1 to_j4_0 x7 i_1 cont1 g.1 = some y) ?_ ?_
            · intro KJ5 hJ5
              refine cw_seq fun K12 hK12 => ?_
              refine cw_region ?_
              refine ow_ev (ev_field_addr 1) ?_
              refine ow_ev (ev_load_own (b := b10)) ?_
              refine ow_ev ev_eql ?_
              refine ow_nil (hK12 _ _ ?_); clear hK12
              refine cw_cond rfl (fun hc15 => ?_) (fun hc15 => ?_)
              ·
                replace hM := (ite_t hc15).symm.trans hM
                refine cw_region ?_
                refine ow_ev ev_assign ?_
                refine ow_nil (hJ5 (1, ()) _ _ hM ⟨rfl, rfl, rfl, rfl, rfl, rfl, rfl, trivial⟩ (fun w hm => hm.reord))
              ·
                replace hM := (ite_f hc15).symm.trans hM
                refine cw_skip (hJ5 (0, ()) _ _ hM ⟨rfl, rfl, rfl, rfl, rfl, rfl, rfl, trivial⟩ (fun w hm => hm.reord))
            ·
              clear hM
              intro g hM
              obtain ⟨dir_j5, ⟨⟩⟩ := g
              dsimp only at hM ⊢
              dsimp only [ref1_HopsOf_k5] at hM
              refine cw_region ?_
              refine ow_ev ev_move ?_
              refine ow_ev (ev_field_addr 0) ?_
              refine ow_ev (ev_load_own (b := b10)) ?_
              refine ow_ev ev_move ?_
              refine ow_ev (ev_build [.int .i64 to_j4_0, .int .i64 dir_j5]) ?_
              refine ow_ev (ev_field_addr 4) ?_
              refine ow_ev (ev_load_own (b := b9)) ?_
              refine ow_ev (ev_field_addr 5) ?_
              refine ow_ev (ev_load_own (b := b9)) ?_
              refine ow_ev (ev_build [.int .i64 to_j4_0, .int .i64 dir_j5, .int .i64 x7.Point, .int .i64 x7.Pos]) ?_
              refine ow_cons (st_bslice (α := Hop) 43 (fun _ => ()) ([(Hop.mk (Step.mk to_j4_0 dir_j5) x7.Point x7.Pos)] : List Hop) (OkL.flat (fun _ _ _ _ => trivial)) (fun r12 => ?_))
              obtain ⟨hb13, hM⟩ := chk_some hM
              refine ow_cons (st_append (r := rh_1) (r2 := r12) (by intro r'; repeat (first | exact Upd.head | apply Upd.tail)) (Kn.trow (e := 43) (r := r12) (by repeat (first | exact Has.head | apply Has.tail))) (OkL.flat (fun _ _ _ _ => trivial)) (of_decide_eq_true hb13) (fun r14 => ?_))
              refine ow_ev ev_assign ?_
              refine ow_nil (hJ3 ((lh_1 ++ ([(Hop.mk (Step.mk to_j4_0 dir_j5) x7.Point x7.Pos)] : List Hop)), r14) _ _ hM ⟨rfl, rfl, rfl, rfl, trivial⟩ (fun w hm => hm.reord))
          ·
            replace hM := (ite_f hc11).symm.trans hM
            refine cw_skip (hJ3 (lh_1, rh_1) _ _ hM ⟨rfl, rfl, rfl, rfl, trivial⟩ (fun w hm => hm.reord))
      ·
        clear hM
        intro g hM
        obtain ⟨lh_j3, rh_j3⟩ := g
        dsimp only at hM ⊢
        dsimp only [ref1_HopsOf_k3] at hM
        refine cw_region ?_
        refine ow_ev ev_move ?_
        obtain ⟨hI6, hM⟩ := chk_some hM
        refine ow_ev (ev_add (hr := fun hg => i64b_I64 hI6)) ?_
        refine ow_ev ev_assign ?_
        refine ow_nil (hL1 (nn1, (lh_j3, i_1 + 1), rh_j3) _ _ (eqc hcont1 hM) (Nat.lt_succ_self _) ⟨rfl, rfl, rfl, rfl, trivial⟩ (fun w hm => hm.reord))
    ·
      replace hM := (ite_f hc5).symm.trans hM
      refine cw_exit (hK4 _ _ ?_); clear hK4
      dsimp only [ref1_HopsOf_k2] at hM
      refine cw_seq fun K15 hK15 => ?_
      refine cw_region ?_
      refine ow_ev ev_move ?_
      refine ow_ev ev_assign ?_
      refine ow_nil (hK15 _ _ ?_); clear hK15
      obtain rfl := some_inj hM
      refine cw_ret (kw_retc1 (fun w hm => post_of rh_1 hm rfl))

end Go.Proofs.Ytnihhidbiepnhaa
