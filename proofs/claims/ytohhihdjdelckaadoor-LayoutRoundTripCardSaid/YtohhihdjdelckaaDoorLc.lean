/- Models of functions, and that the code computes them. -/
import Derived.Test.YtohhihdjdelckaaDoorLb
import Derived.Test.YtohhihdjdelckaaDoorWd
import Derived.Test.YtohhihdjdelckaaDoorWb
import Derived.Test.YtohhihdjdelckaaDoorLm
set_option linter.all false
namespace Go.Proofs.YtohhihdjdelckaaDoor
open Go.Dc Go.RowKit
set_option maxRecDepth 10000
def layout_side_k1 : Unit → Option Int := fun _ =>
  some (-1)
def layout_side_b1 (word0 : Str) (cont1 : Nat → Option Int) : Nat → Option Int := fun t6_1 =>
  if decide ((t6_1 : Int) < 2) then
    ((idx ([(⟨[65]⟩ : Str), (⟨[66]⟩ : Str)] : List Str) (t6_1 : Int)).bind fun x2 =>
    if decide (x2 = word0) then
      (some (t6_1 : Int))
    else
      (cont1 (t6_1 + 1)))
  else
    (layout_side_k1 ())
def layout_side_m (word0 : Str) : Option Int :=
  iter (layout_side_b1 word0) FUEL 0
theorem layout_side_spec (S : Soup) (w : World) (word0 : Str) (y : Int) (hM : layout_side_m word0 = some y) (hS : ∀ k, S k → k < w.heap.size) (hg_0 : (imm (α := (List Str)) (⟨some ⟨0, 0, none⟩, 2, fun _ => ()⟩ : SR Unit) ([(⟨[65]⟩ : Str), (⟨[66]⟩ : Str)] : List Str)).φ S w) :
    Calls Tryd.prog 92 #[.string word0.ba] w (Ret w (.int .i64 y)) := by
  refine calls_cw (args := [_]) Tryd.func92 rfl ((pre_nil hS).start |>.factP (c := imm (α := (List Str)) (⟨some ⟨0, 0, none⟩, 2, fun _ => ()⟩ : SR Unit) ([(⟨[65]⟩ : Str), (⟨[66]⟩ : Str)] : List Str)) (fun _ h => False.elim h) hg_0) rfl ?_
  unfold layout_side_m at hM
  refine cw_seq fun K1 hK1 => ?_
  refine cw_region ?_
  refine ow_ev ev_assign ?_
  refine ow_nil (hK1 _ _ ?_); clear hK1
  refine cw_seq fun K2 hK2 => ?_
  refine cw_seq fun K3 hK3 => ?_
  refine cw_region ?_
  refine ow_ev (ev_garr (r := (⟨some ⟨0, 0, none⟩, 2, fun _ => ()⟩ : SR Unit)) (xs := ([(⟨[65]⟩ : Str), (⟨[66]⟩ : Str)] : List Str)) [.string (⟨[65]⟩ : Str).ba, .string (⟨[66]⟩ : Str).ba] (Kn.imm (α := List Str) (r := (⟨some ⟨0, 0, none⟩, 2, fun _ => ()⟩ : SR Unit)) (x := ([(⟨[65]⟩ : Str), (⟨[66]⟩ : Str)] : List Str)) (by repeat (first | exact Has.head | apply Has.tail)))) ?_
  refine ow_ev ev_move ?_
  refine ow_nil (hK3 _ _ ?_); clear hK3
  refine cw_block ?_
  refine cw_loop (γ := Nat × Nat × Unit) (env := fun (_, t6_1, _) => [(0, .v (.string word0.ba)), (5, .v (.agg #[.string (⟨[65]⟩ : Str).ba, .string (⟨[66]⟩ : Str).ba])), (6, .v (.int .i64 (t6_1 : Int)))]) (mem := fun (_, t6_1, _) => [imm (α := (List Str)) (⟨some ⟨0, 0, none⟩, 2, fun _ => ()⟩ : SR Unit) ([(⟨[65]⟩ : Str), (⟨[66]⟩ : Str)] : List Str)]) (R := fun g => iter (layout_side_b1 word0) g.1 g.2.1 = some y) (μ := fun g => g.1) (FUEL, 0, ()) hM ⟨rfl, rfl, rfl, trivial⟩ (fun w hm => hm.reord) ?_
  clear hM
  intro g hM KL1 hL1
  obtain ⟨nn1, t6_1, ⟨⟩⟩ := g
  dsimp only at hM ⊢
  obtain ⟨nn1, cont1, rfl, hcont1, hM⟩ := iter_open' hM
  dsimp only [layout_side_b1] at hM
  refine cw_seq fun K4 hK4 => ?_
  refine cw_region ?_
  refine ow_ev ev_lss ?_
  refine ow_nil (hK4 _ _ ?_); clear hK4
  refine cw_seq fun K5 hK5 => ?_
  refine cw_cond rfl (fun hc1 => ?_) (fun hc1 => ?_)
  ·
    replace hM := (ite_t hc1).symm.trans hM
    have hc1d := of_decide_eq_true hc1
    refine cw_skip (hK5 _ _ ?_); clear hK5
    refine cw_seq fun K6 hK6 => ?_
    refine cw_block ?_
    refine cw_seq fun K7 hK7 => ?_
    refine cw_region ?_
    refine ow_ev ev_move ?_
    obtain ⟨x2, hx3, hM⟩ := bind_some hM
    refine ow_ev (ev_aggidx (xs := ([(⟨[65]⟩ : Str), (⟨[66]⟩ : Str)] : List Str)) [.string (⟨[65]⟩ : Str).ba, .string (⟨[66]⟩ : Str).ba] (fun _ => hx3)) ?_
    refine ow_ev ev_assign ?_
    refine ow_ev ev_assign ?_
    refine ow_nil (hK7 _ _ ?_); clear hK7
    refine cw_seq fun K8 hK8 => ?_
    refine cw_region ?_
    refine ow_ev ev_move ?_
    refine ow_ev ev_move ?_
    refine ow_ev ev_str_eql ?_
    refine ow_nil (hK8 _ _ ?_); clear hK8
    refine cw_cond rfl (fun hc4 => ?_) (fun hc4 => ?_)
    ·
      replace hM := (ite_t hc4).symm.trans hM
      refine cw_seq fun K9 hK9 => ?_
      refine cw_region ?_
      refine ow_ev ev_move ?_
      refine ow_ev ev_assign ?_
      refine ow_nil (hK9 _ _ ?_); clear hK9
      obtain rfl := some_inj hM
      refine cw_ret (kw_retc1 (fun w hm => ret_of hm rfl))
    ·
      replace hM := (ite_f hc4).symm.trans hM
      refine cw_skip (hK6 _ _ ?_); clear hK6
      refine cw_region ?_
      refine ow_ev (ev_add (hr := fun _ => by unfold I64; omega)) ?_
      refine ow_ev ev_move ?_
      refine ow_nil (hL1 (nn1, (t6_1 + 1), ()) _ _ (eqc hcont1 hM) (Nat.lt_succ_self _) ⟨rfl, rfl, rfl, trivial⟩ (fun w hm => hm.reord))
  ·
    replace hM := (ite_f hc1).symm.trans hM
    refine cw_exit (hK2 _ _ ?_); clear hK2
    dsimp only [layout_side_k1] at hM
    refine cw_seq fun K10 hK10 => ?_
    refine cw_region ?_
    refine ow_ev ev_assign ?_
    refine ow_nil (hK10 _ _ ?_); clear hK10
    obtain rfl := some_inj hM
    refine cw_ret (kw_retc1 (fun w hm => ret_of hm rfl))

def layout_declareSection_k1 (l0 : Layout) (x1 : Str) (y6 : Int × Bool) (y10 : Int × Bool) (y14 : Int × Bool) : Int → Option (Int × (List Section)) := fun s_j1_4 =>
  chk (decide ((l0.Sections.length + ([(Section.mk x1 y6.1 y10.1 y14.1 s_j1_4)] : List Section).length) * 48 ≤ 140737488355328)) <|
  some (0, (l0.Sections ++ ([(Section.mk x1 y6.1 y10.1 y14.1 s_j1_4)] : List Section)))
def layout_declareSection_m (l0 : Layout) (p1 : List Str) : Option (Int × (List Section)) :=
  (idx p1 1).bind fun x1 =>
  (idx p1 2).bind fun x4 =>
  (words_Number_m x4).bind fun y6 =>
  (idx p1 3).bind fun x8 =>
  (words_Number_m x8).bind fun y10 =>
  (idx p1 4).bind fun x12 =>
  (words_Number_m x12).bind fun y14 =>
  if (((!y6.2) || (!y10.2)) || (!y14.2)) then
    (some (2, l0.Sections))
  else
    (if decide ((p1.length : Int) = 7) then
      ((idx p1 6).bind fun x21 =>
      (slices_Index_string_string_m l0.Stations x21).bind fun y23 =>
      if decide (y23 < 0) then
        (some (3, l0.Sections))
      else
        (layout_declareSection_k1 l0 x1 y6 y10 y14 y23))
    else
      (layout_declareSection_k1 l0 x1 y6 y10 y14 (-1)))
theorem layout_declareSection_spec (S : Soup) (w : World) (b_l0 : Nat) (l0 : Layout) (r_l0 : GoRep.R Layout) (p1 : List Str) (r_p1 : GoRep.R (List Str)) (y : Int × (List Section)) (hM : layout_declareSection_m l0 p1 = some y) (hP : Pre S [own b_l0 26 [.slice r_l0.1.a l0.Stations.length r_l0.1.cap, .slice r_l0.2.1.a l0.Points.length r_l0.2.1.cap, .slice r_l0.2.2.1.a l0.Sections.length r_l0.2.2.1.cap, .slice r_l0.2.2.2.a l0.Links.length r_l0.2.2.2.cap], trow 9 r_l0.1 l0.Stations, trow 9 r_l0.2.1 l0.Points, trow 57 r_l0.2.2.1 l0.Sections, trow 72 r_l0.2.2.2 l0.Links] w) (h_p1 : GoRep.ok S w r_p1 p1) :
    Calls Tryd.prog 70 #[.pointer (some ⟨b_l0, 0, none⟩), .slice r_p1.a p1.length r_p1.cap] w (Post (β := (SR (GoRep.R Section))) S [own b_l0 26 [.slice r_l0.1.a l0.Stations.length r_l0.1.cap, .slice r_l0.2.1.a l0.Points.length r_l0.2.1.cap, .slice r_l0.2.2.1.a l0.Sections.length r_l0.2.2.1.cap, .slice r_l0.2.2.2.a l0.Links.length r_l0.2.2.2.cap], trow 9 r_l0.1 l0.Stations, trow 9 r_l0.2.1 l0.Points, trow 57 r_l0.2.2.1 l0.Sections, trow 72 r_l0.2.2.2 l0.Links] (fun g => .int .i64 y.1) (fun g => [own b_l0 26 [.slice r_l0.1.a l0.Stations.length r_l0.1.cap, .slice r_l0.2.1.a l0.Points.length r_l0.2.1.cap, .slice g.a y.2.length g.cap, .slice r_l0.2.2.2.a l0.Links.length r_l0.2.2.2.cap], trow 9 r_l0.1 l0.Stations, trow 9 r_l0.2.1 l0.Points, trow 57 g y.2, trow 72 r_l0.2.2.2 l0.Links]) w) := by
  refine calls_cw (args := [_, _]) Tryd.func70 rfl (hP.start |>.immP (α := List Str) (r := r_p1) (x := p1) h_p1) rfl ?_
  unfold layout_declareSection_m at hM
  refine cw_seq fun K1 hK1 => ?_
  refine cw_region ?_
  refine ow_ev ev_assign ?_
  refine ow_nil (hK1 _ _ ?_); clear hK1
  refine cw_seq fun K2 hK2 => ?_
  refine cw_region ?_
  refine ow_ev ev_move ?_
  obtain ⟨x1, hx2, hM⟩ := bind_some hM
  refine ow_ev (ev_idx (xs := p1) 1 (Kn.imm (α := List Str) (r := r_p1) (x := p1) (by repeat (first | exact Has.head | apply Has.tail))) (fun hg => let h := idx_some hx2; ⟨h.1, h.2.1⟩)) ?_
  refine ow_ev (ev_ld (i := 1) (xs := p1) (y := x1) 0 (Kn.imm (α := List Str) (r := r_p1) (x := p1) (by repeat (first | exact Has.head | apply Has.tail))) (fun _ => hx2)) ?_
  refine ow_ev (ev_build [.string x1.ba, .int .i64 0, .int .i64 0, .int .i64 0, .int .i64 (-1)]) ?_
  refine ow_cons (st_alloc rfl (k := fun b3 => ?_))
  refine ow_cons (st_store_all (b := b3) (vs := [.string x1.ba, .int .i64 0, .int .i64 0, .int .i64 0, .int .i64 (-1)]) (k := ?_))
  refine ow_nil (hK2 _ _ ?_); clear hK2
  refine cw_seq fun K3 hK3 => ?_
  refine cw_region ?_
  refine ow_ev ev_assign ?_
  refine ow_ev ev_assign ?_
  refine ow_ev ev_assign ?_
  refine ow_nil (hK3 _ _ ?_); clear hK3
  refine cw_seq fun K4 hK4 => ?_
  refine cw_region ?_
  refine ow_ev ev_move ?_
  obtain ⟨x4, hx5, hM⟩ := bind_some hM
  refine ow_ev (ev_idx (xs := p1) 1 (Kn.imm (α := List Str) (r := r_p1) (x := p1) (by repeat (first | exact Has.head | apply Has.tail))) (fun hg => let h := idx_some hx5; ⟨h.1, h.2.1⟩)) ?_
  refine ow_ev (ev_ld (i := 2) (xs := p1) (y := x4) 0 (Kn.imm (α := List Str) (r := r_p1) (x := p1) (by repeat (first | exact Has.head | apply Has.tail))) (fun _ => hx5)) ?_
  obtain ⟨y6, hy7, hM⟩ := bind_some hM
  refine ow_cons (st_callv (fun w hm => let ⟨S, hs⟩ := hm; words_Number_spec _ w x4 y6 hy7 (lend_lt hs) ) ?_)
  refine ow_ev ev_move ?_
  refine ow_ev (ev_extract (vs := [.int .i64 y6.1, .bool y6.2])) ?_
  refine ow_ev (ev_extract (vs := [.int .i64 y6.1, .bool y6.2])) ?_
  refine ow_ev (ev_field_addr 1) ?_
  refine ow_cons (st_store_own (b := b3) (l' := [.string x1.ba, .int .i64 y6.1, .int .i64 0, .int .i64 0, .int .i64 (-1)]) (k := ?_))
  refine ow_ev ev_assign ?_
  refine ow_nil (hK4 _ _ ?_); clear hK4
  refine cw_seq fun K5 hK5 => ?_
  refine cw_region ?_
  refine ow_ev ev_move ?_
  obtain ⟨x8, hx9, hM⟩ := bind_some hM
  refine ow_ev (ev_idx (xs := p1) 1 (Kn.imm (α := List Str) (r := r_p1) (x := p1) (by repeat (first | exact Has.head | apply Has.tail))) (fun hg => let h := idx_some hx9; ⟨h.1, h.2.1⟩)) ?_
  refine ow_ev (ev_ld (i := 3) (xs := p1) (y := x8) 0 (Kn.imm (α := List Str) (r := r_p1) (x := p1) (by repeat (first | exact Has.head | apply Has.tail))) (fun _ => hx9)) ?_
  obtain ⟨y10, hy11, hM⟩ := bind_some hM
  refine ow_cons (st_callv (fun w hm => let ⟨S, hs⟩ := hm; words_Number_spec _ w x8 y10 hy11 (lend_lt hs) ) ?_)
  refine ow_ev ev_move ?_
  refine ow_ev (ev_extract (vs := [.int .i64 y10.1, .bool y10.2])) ?_
  refine ow_ev (ev_extract (vs := [.int .i64 y10.1, .bool y10.2])) ?_
  refine ow_ev (ev_field_addr 2) ?_
  refine ow_cons (st_store_own (b := b3) (l' := [.string x1.ba, .int .i64 y6.1, .int .i64 y10.1, .int .i64 0, .int .i64 (-1)]) (k := ?_))
  refine ow_ev ev_assign ?_
  refine ow_nil (hK5 _ _ ?_); clear hK5
  refine cw_seq fun K6 hK6 => ?_
  refine cw_region ?_
  refine ow_ev ev_move ?_
  obtain ⟨x12, hx13, hM⟩ := bind_some hM
  refine ow_ev (ev_idx (xs := p1) 1 (Kn.imm (α := List Str) (r := r_p1) (x := p1) (by repeat (first | exact Has.head | apply Has.tail))) (fun hg => let h := idx_some hx13; ⟨h.1, h.2.1⟩)) ?_
  refine ow_ev (ev_ld (i := 4) (xs := p1) (y := x12) 0 (Kn.imm (α := List Str) (r := r_p1) (x := p1) (by repeat (first | exact Has.head | apply Has.tail))) (fun _ => hx13)) ?_
  obtain ⟨y14, hy15, hM⟩ := bind_some hM
  refine ow_cons (st_callv (fun w hm => let ⟨S, hs⟩ := hm; words_Number_spec _ w x12 y14 hy15 (lend_lt hs) ) ?_)
  refine ow_ev ev_move ?_
  refine ow_ev (ev_extract (vs := [.int .i64 y14.1, .bool y14.2])) ?_
  refine ow_ev (ev_extract (vs := [.int .i64 y14.1, .bool y14.2])) ?_
  refine ow_ev (ev_field_addr 3) ?_
  refine ow_cons (st_store_own (b := b3) (l' := [.string x1.ba, .int .i64 y6.1, .int .i64 y10.1, .int .i64 y14.1, .int .i64 (-1)]) (k := ?_))
  refine ow_ev ev_assign ?_
  refine ow_nil (hK6 _ _ ?_); clear hK6
  refine cw_seq fun K7 hK7 => ?_
  refine cw_seq fun K8 hK8 => ?_
  refine cw_region ?_
  refine ow_ev ev_move ?_
  refine ow_ev ev_not ?_
  refine ow_ev ev_move ?_
  refine ow_evg rfl ev_move ?_
  refine ow_evg rfl ev_not ?_
  refine ow_ev ev_or ?_
  refine ow_ev ev_move ?_
  refine ow_evg rfl ev_move ?_
  refine ow_evg rfl ev_not ?_
  refine ow_ev ev_or ?_
  refine ow_nil (hK8 _ _ ?_); clear hK8
  refine cw_cond rfl (fun hc16 => ?_) (fun hc16 => ?_)
  ·
    replace hM := (ite_t hc16).symm.trans hM
    refine cw_seq fun K9 hK9 => ?_
    refine cw_region ?_
    refine ow_ev ev_assign ?_
    refine ow_nil (hK9 _ _ ?_); clear hK9
    obtain rfl := some_inj hM
    refine cw_ret (kw_retc1 (fun w hm => post_of r_l0.2.2.1 hm rfl))
  ·
    replace hM := (ite_f hc16).symm.trans hM
    refine cw_skip (hK7 _ _ ?_); clear hK7
    refine cw_cut (γ := Int × Unit) (env := fun (s_j1_4, _) => [(0, .v (.pointer (some ⟨b_l0, 0, none⟩))), (5, .v (.pointer (some ⟨b3, 0, none⟩)))]) (mem := fun (s_j1_4, _) => [trow 9 r_l0.1 l0.Stations, trow 9 r_l0.2.1 l0.Points, trow 57 r_l0.2.2.1 l0.Sections, trow 72 r_l0.2.2.2 l0.Links, own b_l0 26 [.slice r_l0.1.a l0.Stations.length r_l0.1.cap, .slice r_l0.2.1.a l0.Points.length r_l0.2.1.cap, .slice r_l0.2.2.1.a l0.Sections.length r_l0.2.2.1.cap, .slice r_l0.2.2.2.a l0.Links.length r_l0.2.2.2.cap], own b3 57 [.string x1.ba, .int .i64 y6.1, .int .i64 y10.1, .int .i64 y14.1, .int .i64 s_j1_4]]) (R := fun g => layout_declareSection_k1 l0 x1 y6 y10 y14 g.1 = some y) ?_ ?_
    · intro KJ1 hJ1
      refine cw_seq fun K12 hK12 => ?_
      refine cw_region ?_
      refine ow_ev ev_move ?_
      refine ow_ev ev_len ?_
      refine ow_ev ev_eql ?_
      refine ow_nil (hK12 _ _ ?_); clear hK12
      refine cw_cond rfl (fun hc20 => ?_) (fun hc20 => ?_)
      ·
        replace hM := (ite_t hc20).symm.trans hM
        refine cw_seq fun K13 hK13 => ?_
        refine cw_region_z [own b3 57 [.string x1.ba, .int .i64 y6.1, .int .i64 y10.1, .int .i64 y14.1, .int .i64 (-1)], imm (α := (List Str)) r_p1 p1, own b_l0 26 [.slice r_l0.1.a l0.Stations.length r_l0.1.cap, .slice r_l0.2.1.a l0.Points.length r_l0.2.1.cap, .slice r_l0.2.2.1.a l0.Sections.length r_l0.2.2.1.cap, .slice r_l0.2.2.2.a l0.Links.length r_l0.2.2.2.cap], trow 9 r_l0.1 l0.Stations, trow 9 r_l0.2.1 l0.Points, trow 57 r_l0.2.2.1 l0.Sections, trow 72 r_l0.2.2.2 l0.Links] 9 ?_
        refine az_ev 0 rfl ev_move ?_
        refine az_ev 1 rfl ev_nilcheck ?_
        refine az_ev 2 rfl (ev_field_addr 0) ?_
        refine az_ev 3 rfl (ev_load_own (b := b_l0)) ?_
        refine az_ev 4 rfl ev_move ?_
        obtain ⟨x21, hx22, hM⟩ := bind_some hM
        refine az_ev 5 rfl (ev_idx (xs := p1) 1 (Kn.imm (α := List Str) (r := r_p1) (x := p1) (by repeat (first | exact Has.head | apply Has.tail))) (fun hg => let h := idx_some hx22; ⟨h.1, h.2.1⟩)) ?_
        refine az_ev 6 rfl (ev_ld (i := 6) (xs := p1) (y := x21) 0 (Kn.imm (α := List Str) (r := r_p1) (x := p1) (by repeat (first | exact Has.head | apply Has.tail))) (fun _ => hx22)) ?_
        obtain ⟨y23, hy24, hM⟩ := bind_some hM
        refine az_one 7 rfl (st_callv (fun w hm => let ⟨S, hs⟩ := hm; slices_Index_string_string_spec _ w l0.Stations r_l0.1 x21 y23 hy24 (lend_lt hs) (Kn.lend (Kn.trow (e := 9) (r := r_l0.1) (by repeat (first | exact Has.head | apply Has.tail))) hs)) ⟨fun w hm => hm.sub (by repeat (first | exact List.Sublist.refl _ | apply List.Sublist.cons_cons | apply List.Sublist.cons)), ?_⟩)
        refine az_ev 8 rfl (ev_field_addr 4) ?_
        refine az_last rfl (st_store_own (b := b3) (l' := [.string x1.ba, .int .i64 y6.1, .int .i64 y10.1, .int .i64 y14.1, .int .i64 y23]) (k := ?_))
        refine az_done (hK13 _ _ ?_); clear hK13
        refine cw_seq fun K14 hK14 => ?_
        refine cw_region ?_
        refine ow_ev (ev_field_addr 4) ?_
        refine ow_ev (ev_load_own (b := b3)) ?_
        refine ow_ev ev_lss ?_
        refine ow_nil (hK14 _ _ ?_); clear hK14
        refine cw_cond rfl (fun hc25 => ?_) (fun hc25 => ?_)
        ·
          replace hM := (ite_t hc25).symm.trans hM
          refine cw_seq fun K15 hK15 => ?_
          refine cw_region ?_
          refine ow_ev ev_assign ?_
          refine ow_nil (hK15 _ _ ?_); clear hK15
          obtain rfl := some_inj hM
          refine cw_ret (kw_retc1 (fun w hm => post_of r_l0.2.2.1 hm rfl))
        ·
          replace hM := (ite_f hc25).symm.trans hM
          refine cw_skip (hJ1 (y23, ()) _ _ hM ⟨rfl, rfl, trivial⟩ (fun w hm => hm.reord))
      ·
        replace hM := (ite_f hc20).symm.trans hM
        refine cw_skip (hJ1 ((-1), ()) _ _ hM ⟨rfl, rfl, trivial⟩ (fun w hm => hm.reord))
    ·
      clear hM
      intro g hM
      obtain ⟨s_j1_4, ⟨⟩⟩ := g
      dsimp only at hM ⊢
      dsimp only [layout_declareSection_k1] at hM
      refine cw_seq fun K10 hK10 => ?_
      refine cw_region_z [trow 9 r_l0.1 l0.Stations, trow 9 r_l0.2.1 l0.Points, trow 72 r_l0.2.2.2 l0.Links, own b_l0 26 [.slice r_l0.1.a l0.Stations.length r_l0.1.cap, .slice r_l0.2.1.a l0.Points.length r_l0.2.1.cap, .slice r_l0.2.2.1.a l0.Sections.length r_l0.2.2.1.cap, .slice r_l0.2.2.2.a l0.Links.length r_l0.2.2.2.cap], own b3 57 [.string x1.ba, .int .i64 y6.1, .int .i64 y10.1, .int .i64 y14.1, .int .i64 s_j1_4]] 10 ?_
      refine az_ev 0 rfl ev_move ?_
      refine az_ev 1 rfl ev_move ?_
      refine az_ev 2 rfl ev_nilcheck ?_
      refine az_ev 3 rfl (ev_field_addr 2) ?_
      refine az_ev 4 rfl (ev_load_own (b := b_l0)) ?_
      refine az_ev 5 rfl (ev_load_all (b := b3)) ?_
      refine az_one 6 rfl (st_bslice (α := Section) 57 (fun _ => ()) ([(Section.mk x1 y6.1 y10.1 y14.1 s_j1_4)] : List Section) (OkL.flat (fun _ _ _ _ => trivial)) (fun r17 => ⟨fun w hm => hm.sub (by repeat (first | exact List.Sublist.refl _ | apply List.Sublist.cons_cons | apply List.Sublist.cons)), ?_⟩))
      obtain ⟨hb19, hM⟩ := chk_some hM
      refine az_one 7 rfl (st_append (r := r_l0.2.2.1) (r2 := r17) (by intro r'; repeat (first | exact Upd.head | apply Upd.tail)) (Kn.trow (e := 57) (r := r17) (by repeat (first | exact Has.head | apply Has.tail))) (OkL.flat (fun _ _ _ _ => trivial)) (of_decide_eq_true hb19) (fun r18 => ⟨fun w hm => hm.sub (by repeat (first | exact List.Sublist.refl _ | apply List.Sublist.cons_cons | apply List.Sublist.cons)), ?_⟩))
      refine az_ev 8 rfl ev_nilcheck ?_
      refine az_ev 9 rfl (ev_field_addr 2) ?_
      refine az_last rfl (st_store_own (b := b_l0) (l' := [.slice r_l0.1.a l0.Stations.length r_l0.1.cap, .slice r_l0.2.1.a l0.Points.length r_l0.2.1.cap, .slice r18.a ((l0.Sections ++ ([(Section.mk x1 y6.1 y10.1 y14.1 s_j1_4)] : List Section)).length) r18.cap, .slice r_l0.2.2.2.a l0.Links.length r_l0.2.2.2.cap]) (k := ?_))
      refine az_done (hK10 _ _ ?_); clear hK10
      refine cw_seq fun K11 hK11 => ?_
      refine cw_region ?_
      refine ow_ev ev_assign ?_
      refine ow_nil (hK11 _ _ ?_); clear hK11
      obtain rfl := some_inj hM
      refine cw_ret (kw_retc1 (fun w hm => post_of r18 hm rfl))

def layout_declareLink_k2 (l0 : Layout) (y10 : Int) (k_j1_1 : Int) (y12 : Int) (k_j1_3 : Int) : (Int × Int) → Option (Int × (List Link)) := fun (k_j2_4, k_j2_5) =>
  chk (decide ((l0.Links.length + ([(Link.mk y10 k_j1_1 y12 k_j1_3 k_j2_4 k_j2_5)] : List Link).length) * 48 ≤ 140737488355328)) <|
  some (0, (l0.Links ++ ([(Link.mk y10 k_j1_1 y12 k_j1_3 k_j2_4 k_j2_5)] : List Link)))
def layout_declareLink_k1 (p1 : List Str) (l0 : Layout) : (Int × Int) → Option (Int × (List Link)) := fun (k_j1_1, k_j1_3) =>
  (whn ((!(decide (k_j1_1 < 0) || decide (k_j1_3 < 0))) && decide ((p1.length : Int) = 7)) default (idx p1 6)).bind fun x1 =>
  (whn ((!(decide (k_j1_1 < 0) || decide (k_j1_3 < 0))) && (decide ((p1.length : Int) = 7) && (!decide (x1 = (⟨[48]⟩ : Str))))) default (idx p1 6)).bind fun x3 =>
  if ((decide (k_j1_1 < 0) || decide (k_j1_3 < 0)) || ((decide ((p1.length : Int) = 7) && (!decide (x1 = (⟨[48]⟩ : Str)))) && (!decide (x3 = (⟨[49]⟩ : Str))))) then
    (some (2, l0.Links))
  else
    ((idx p1 1).bind fun x6 =>
    (idx p1 3).bind fun x8 =>
    (layout_sectionNamed_m l0 x6).bind fun y10 =>
    (layout_sectionNamed_m l0 x8).bind fun y12 =>
    if (decide (y10 < 0) || decide (y12 < 0)) then
      (some (3, l0.Links))
    else
      (if decide ((p1.length : Int) = 7) then
        ((idx p1 5).bind fun x19 =>
        (slices_Index_string_string_m l0.Points x19).bind fun y21 =>
        if decide (y21 < 0) then
          (some (3, l0.Links))
        else
          ((idx p1 6).bind fun x24 =>
          if decide (x24 = (⟨[49]⟩ : Str)) then
            (layout_declareLink_k2 l0 y10 k_j1_1 y12 k_j1_3 (y21, 1))
          else
            (layout_declareLink_k2 l0 y10 k_j1_1 y12 k_j1_3 (y21, 0))))
      else
        (layout_declareLink_k2 l0 y10 k_j1_1 y12 k_j1_3 ((-1), 0))))
def layout_declareLink_m (l0 : Layout) (p1 : List Str) : Option (Int × (List Link)) :=
  (idx p1 2).bind fun x27 =>
  (idx p1 4).bind fun x29 =>
  (layout_side_m x27).bind fun y31 =>
  (layout_side_m x29).bind fun y34 =>
  layout_declareLink_k1 p1 l0 (y31, y34)
theorem layout_declareLink_spec (S : Soup) (w : World) (b_l0 : Nat) (l0 : Layout) (r_l0 : GoRep.R Layout) (p1 : List Str) (r_p1 : GoRep.R (List Str)) (y : Int × (List Link)) (hM : layout_declareLink_m l0 p1 = some y) (hP : Pre S [own b_l0 26 [.slice r_l0.1.a l0.Stations.length r_l0.1.cap, .slice r_l0.2.1.a l0.Points.length r_l0.2.1.cap, .slice r_l0.2.2.1.a l0.Sections.length r_l0.2.2.1.cap, .slice r_l0.2.2.2.a l0.Links.length r_l0.2.2.2.cap], trow 9 r_l0.1 l0.Stations, trow 9 r_l0.2.1 l0.Points, trow 57 r_l0.2.2.1 l0.Sections, trow 72 r_l0.2.2.2 l0.Links] w) (h_p1 : GoRep.ok S w r_p1 p1) (hg_0 : (imm (α := (List Str)) (⟨some ⟨0, 0, none⟩, 2, fun _ => ()⟩ : SR Unit) ([(⟨[65]⟩ : Str), (⟨[66]⟩ : Str)] : List Str)).φ S w) :
    Calls Tryd.prog 71 #[.pointer (some ⟨b_l0, 0, none⟩), .slice r_p1.a p1.length r_p1.cap] w (Post (β := (SR (GoRep.R Link))) S [own b_l0 26 [.slice r_l0.1.a l0.Stations.length r_l0.1.cap, .slice r_l0.2.1.a l0.Points.length r_l0.2.1.cap, .slice r_l0.2.2.1.a l0.Sections.length r_l0.2.2.1.cap, .slice r_l0.2.2.2.a l0.Links.length r_l0.2.2.2.cap], trow 9 r_l0.1 l0.Stations, trow 9 r_l0.2.1 l0.Points, trow 57 r_l0.2.2.1 l0.Sections, trow 72 r_l0.2.2.2 l0.Links] (fun g => .int .i64 y.1) (fun g => [own b_l0 26 [.slice r_l0.1.a l0.Stations.length r_l0.1.cap, .slice r_l0.2.1.a l0.Points.length r_l0.2.1.cap, .slice r_l0.2.2.1.a l0.Sections.length r_l0.2.2.1.cap, .slice g.a y.2.length g.cap], trow 9 r_l0.1 l0.Stations, trow 9 r_l0.2.1 l0.Points, trow 57 r_l0.2.2.1 l0.Sections, trow 72 g y.2]) w) := by
  refine calls_cw (args := [_, _]) Tryd.func71 rfl (hP.start |>.immP (α := List Str) (r := r_p1) (x := p1) h_p1|>.factP (c := imm (α := (List Str)) (⟨some ⟨0, 0, none⟩, 2, fun _ => ()⟩ : SR Unit) ([(⟨[65]⟩ : Str), (⟨[66]⟩ : Str)] : List Str)) (fun _ h => False.elim h) hg_0) rfl ?_
  unfold layout_declareLink_m at hM
  refine cw_seq fun K1 hK1 => ?_
  refine cw_region ?_
  refine ow_ev ev_assign ?_
  refine ow_nil (hK1 _ _ ?_); clear hK1
  refine cw_cut (γ := (Int × Int) × Nat) (env := fun ((k_j1_1, k_j1_3), bk_j1) => [(0, .v (.pointer (some ⟨b_l0, 0, none⟩))), (1, .v (.slice r_p1.a p1.length r_p1.cap)), (5, .v (.pointer (some ⟨bk_j1, 0, none⟩)))]) (mem := fun ((k_j1_1, k_j1_3), bk_j1) => [trow 9 r_l0.1 l0.Stations, trow 9 r_l0.2.1 l0.Points, trow 57 r_l0.2.2.1 l0.Sections, trow 72 r_l0.2.2.2 l0.Links, own b_l0 26 [.slice r_l0.1.a l0.Stations.length r_l0.1.cap, .slice r_l0.2.1.a l0.Points.length r_l0.2.1.cap, .slice r_l0.2.2.1.a l0.Sections.length r_l0.2.2.1.cap, .slice r_l0.2.2.2.a l0.Links.length r_l0.2.2.2.cap], imm (α := (List Str)) (⟨some ⟨0, 0, none⟩, 2, fun _ => ()⟩ : SR Unit) ([(⟨[65]⟩ : Str), (⟨[66]⟩ : Str)] : List Str), imm (α := (List Str)) r_p1 p1, own bk_j1 72 [.int .i64 0, .int .i64 k_j1_1, .int .i64 0, .int .i64 k_j1_3, .int .i64 (-1), .int .i64 0]]) (R := fun g => layout_declareLink_k1 p1 l0 g.1 = some y) ?_ ?_
  · intro KJ1 hJ1
    refine cw_region_any _ (List.Sublist.refl _) ?_
    refine aw_ev 0 rfl ev_move ?_
    obtain ⟨x27, hx28, hM⟩ := bind_some hM
    refine aw_ev 1 rfl (ev_idx (xs := p1) 1 (Kn.imm (α := List Str) (r := r_p1) (x := p1) (by repeat (first | exact Has.head | apply Has.tail))) (fun hg => let h := idx_some hx28; ⟨h.1, h.2.1⟩)) ?_
    refine aw_ev 2 rfl (ev_ld (i := 2) (xs := p1) (y := x27) 0 (Kn.imm (α := List Str) (r := r_p1) (x := p1) (by repeat (first | exact Has.head | apply Has.tail))) (fun _ => hx28)) ?_
    refine aw_ev 4 rfl ev_move ?_
    obtain ⟨x29, hx30, hM⟩ := bind_some hM
    refine aw_ev 5 rfl (ev_idx (xs := p1) 1 (Kn.imm (α := List Str) (r := r_p1) (x := p1) (by repeat (first | exact Has.head | apply Has.tail))) (fun hg => let h := idx_some hx30; ⟨h.1, h.2.1⟩)) ?_
    refine aw_ev 6 rfl (ev_ld (i := 4) (xs := p1) (y := x29) 0 (Kn.imm (α := List Str) (r := r_p1) (x := p1) (by repeat (first | exact Has.head | apply Has.tail))) (fun _ => hx30)) ?_
    obtain ⟨y31, hy32, hM⟩ := bind_some hM
    refine aw_two 3 9 (⟨_, rfl, rfl, st_callv (fun w hm => let ⟨S, hs⟩ := hm; layout_side_spec _ w x27 y31 hy32 (lend_lt hs) (Chunk.mono _ _ _ _ (fun _ h => .inl h) (((by repeat (first | exact Has.head | apply Has.tail)) : Has _ (imm (α := (List Str)) (⟨some ⟨0, 0, none⟩, 2, fun _ => ()⟩ : SR Unit) ([(⟨[65]⟩ : Str), (⟨[66]⟩ : Str)] : List Str))).φ hs))) ⟨fun w hm => hm.sub (by repeat (first | exact List.Sublist.refl _ | apply List.Sublist.cons_cons | apply List.Sublist.cons)), ?_⟩⟩) (⟨_, rfl, rfl, st_alloc rfl (k := fun b33 => ⟨fun w hm => hm.sub (by repeat (first | exact List.Sublist.refl _ | apply List.Sublist.cons_cons | apply List.Sublist.cons)), ?_⟩)⟩)
    ·
      obtain ⟨y34, hy35, hM⟩ := bind_some hM
      refine aw_two 7 9 (⟨_, rfl, rfl, st_callv (fun w hm => let ⟨S, hs⟩ := hm; layout_side_spec _ w x29 y34 hy35 (lend_lt hs) (Chunk.mono _ _ _ _ (fun _ h => .inl h) (((by repeat (first | exact Has.head | apply Has.tail)) : Has _ (imm (α := (List Str)) (⟨some ⟨0, 0, none⟩, 2, fun _ => ()⟩ : SR Unit) ([(⟨[65]⟩ : Str), (⟨[66]⟩ : Str)] : List Str))).φ hs))) ⟨fun w hm => hm.sub (by repeat (first | exact List.Sublist.refl _ | apply List.Sublist.cons_cons | apply List.Sublist.cons)), ?_⟩⟩) (⟨_, rfl, rfl, st_alloc rfl (k := fun b36 => ⟨fun w hm => hm.sub (by repeat (first | exact List.Sublist.refl _ | apply List.Sublist.cons_cons | apply List.Sublist.cons)), ?_⟩)⟩)
      ·
        refine aw_ev 8 rfl (ev_build [.int .i64 0, .int .i64 y31, .int .i64 0, .int .i64 y34, .int .i64 (-1), .int .i64 0]) ?_
        refine aw_one 9 rfl (st_alloc rfl (k := fun b37 => ⟨fun w hm => hm.sub (by repeat (first | exact List.Sublist.refl _ | apply List.Sublist.cons_cons | apply List.Sublist.cons)), ?_⟩))
        refine aw_one 10 rfl (st_store_all (b := b37) (vs := [.int .i64 0, .int .i64 y31, .int .i64 0, .int .i64 y34, .int .i64 (-1), .int .i64 0]) (k := ⟨fun w hm => hm.sub (by repeat (first | exact List.Sublist.refl _ | apply List.Sublist.cons_cons | apply List.Sublist.cons)), ?_⟩))
        refine aw_done (hJ1 ((y31, y34), b37) _ _ hM ⟨rfl, rfl, rfl, trivial⟩ (fun w hm => hm.reord))
      ·
        refine aw_one 7 rfl (st_callv (fun w hm => let ⟨S, hs⟩ := hm; layout_side_spec _ w x29 y34 hy35 (lend_lt hs) (Chunk.mono _ _ _ _ (fun _ h => .inl h) (((by repeat (first | exact Has.head | apply Has.tail)) : Has _ (imm (α := (List Str)) (⟨some ⟨0, 0, none⟩, 2, fun _ => ()⟩ : SR Unit) ([(⟨[65]⟩ : Str), (⟨[66]⟩ : Str)] : List Str))).φ hs))) ⟨fun w hm => hm.sub (by repeat (first | exact List.Sublist.refl _ | apply List.Sublist.cons_cons | apply List.Sublist.cons)), ?_⟩)
        refine aw_ev 8 rfl (ev_build [.int .i64 0, .int .i64 y31, .int .i64 0, .int .i64 y34, .int .i64 (-1), .int .i64 0]) ?_
        refine aw_one 10 rfl (st_store_all (b := b36) (vs := [.int .i64 0, .int .i64 y31, .int .i64 0, .int .i64 y34, .int .i64 (-1), .int .i64 0]) (k := ⟨fun w hm => hm.sub (by repeat (first | exact List.Sublist.refl _ | apply List.Sublist.cons_cons | apply List.Sublist.cons)), ?_⟩))
        refine aw_done (hJ1 ((y31, y34), b36) _ _ hM ⟨rfl, rfl, rfl, trivial⟩ (fun w hm => hm.reord))
    ·
      refine aw_one 3 rfl (st_callv (fun w hm => let ⟨S, hs⟩ := hm; layout_side_spec _ w x27 y31 hy32 (lend_lt hs) (Chunk.mono _ _ _ _ (fun _ h => .inl h) (((by repeat (first | exact Has.head | apply Has.tail)) : Has _ (imm (α := (List Str)) (⟨some ⟨0, 0, none⟩, 2, fun _ => ()⟩ : SR Unit) ([(⟨[65]⟩ : Str), (⟨[66]⟩ : Str)] : List Str))).φ hs))) ⟨fun w hm => hm.sub (by repeat (first | exact List.Sublist.refl _ | apply List.Sublist.cons_cons | apply List.Sublist.cons)), ?_⟩)
      obtain ⟨y38, hy39, hM⟩ := bind_some hM
      refine aw_one 7 rfl (st_callv (fun w hm => let ⟨S, hs⟩ := hm; layout_side_spec _ w x29 y38 hy39 (lend_lt hs) (Chunk.mono _ _ _ _ (fun _ h => .inl h) (((by repeat (first | exact Has.head | apply Has.tail)) : Has _ (imm (α := (List Str)) (⟨some ⟨0, 0, none⟩, 2, fun _ => ()⟩ : SR Unit) ([(⟨[65]⟩ : Str), (⟨[66]⟩ : Str)] : List Str))).φ hs))) ⟨fun w hm => hm.sub (by repeat (first | exact List.Sublist.refl _ | apply List.Sublist.cons_cons | apply List.Sublist.cons)), ?_⟩)
      refine aw_ev 8 rfl (ev_build [.int .i64 0, .int .i64 y31, .int .i64 0, .int .i64 y38, .int .i64 (-1), .int .i64 0]) ?_
      refine aw_one 10 rfl (st_store_all (b := b33) (vs := [.int .i64 0, .int .i64 y31, .int .i64 0, .int .i64 y38, .int .i64 (-1), .int .i64 0]) (k := ⟨fun w hm => hm.sub (by repeat (first | exact List.Sublist.refl _ | apply List.Sublist.cons_cons | apply List.Sublist.cons)), ?_⟩))
      refine aw_done (hJ1 ((y31, y38), b33) _ _ hM ⟨rfl, rfl, rfl, trivial⟩ (fun w hm => hm.reord))
  ·
    clear hM
    intro g hM
    obtain ⟨⟨k_j1_1, k_j1_3⟩, bk_j1⟩ := g
    dsimp only at hM ⊢
    dsimp only [layout_declareLink_k1] at hM
    refine cw_seq fun K2 hK2 => ?_
    refine cw_seq fun K3 hK3 => ?_
    refine cw_region ?_
    refine ow_ev (ev_field_addr 1) ?_
    refine ow_ev (ev_load_own (b := bk_j1)) ?_
    refine ow_ev ev_lss ?_
    refine ow_ev ev_move ?_
    refine ow_evg rfl (ev_field_addr 3) ?_
    refine ow_evg rfl (ev_load_own (b := bk_j1)) ?_
    refine ow_evg rfl ev_lss ?_
    refine ow_ev ev_or ?_
    refine ow_ev ev_move ?_
    refine ow_evg rfl ev_move ?_
    refine ow_evg rfl ev_len ?_
    refine ow_evg rfl ev_eql ?_
    refine ow_evg rfl ev_move ?_
    refine ow_evg rfl ev_move ?_
    obtain ⟨x1, hx2, hM⟩ := bind_some hM
    refine ow_evg rfl (ev_idx (xs := p1) 1 (Kn.imm (α := List Str) (r := r_p1) (x := p1) (by repeat (first | exact Has.head | apply Has.tail))) (fun hg => let h := idx_some (whn_some hx2 hg); ⟨h.1, h.2.1⟩)) ?_
    refine ow_evg rfl (ev_ld (i := 6) (xs := p1) (y := x1) 0 (Kn.imm (α := List Str) (r := r_p1) (x := p1) (by repeat (first | exact Has.head | apply Has.tail))) (fun hg => whn_some hx2 hg)) ?_
    refine ow_evg rfl ev_str_neq ?_
    refine ow_evg rfl ev_and ?_
    refine ow_evg rfl ev_move ?_
    refine ow_evg rfl ev_move ?_
    obtain ⟨x3, hx4, hM⟩ := bind_some hM
    refine ow_evg rfl (ev_idx (xs := p1) 1 (Kn.imm (α := List Str) (r := r_p1) (x := p1) (by repeat (first | exact Has.head | apply Has.tail))) (fun hg => let h := idx_some (whn_some hx4 hg); ⟨h.1, h.2.1⟩)) ?_
    refine ow_evg rfl (ev_ld (i := 6) (xs := p1) (y := x3) 0 (Kn.imm (α := List Str) (r := r_p1) (x := p1) (by repeat (first | exact Has.head | apply Has.tail))) (fun hg => whn_some hx4 hg)) ?_
    refine ow_evg rfl ev_str_neq ?_
    refine ow_evg rfl ev_and ?_
    refine ow_ev ev_or ?_
    refine ow_nil (hK3 _ _ ?_); clear hK3
    refine cw_cond rfl (fun hc5 => ?_) (fun hc5 => ?_)
    ·
      replace hM := (ite_t hc5).symm.trans hM
      refine cw_seq fun K4 hK4 => ?_
      refine cw_region ?_
      refine ow_ev ev_assign ?_
      refine ow_nil (hK4 _ _ ?_); clear hK4
      obtain rfl := some_inj hM
      refine cw_ret (kw_retc1 (fun w hm => post_of r_l0.2.2.2 hm rfl))
    ·
      replace hM := (ite_f hc5).symm.trans hM
      refine cw_skip (hK2 _ _ ?_); clear hK2
      refine cw_seq fun K5 hK5 => ?_
      refine cw_region_any [trow 9 r_l0.1 l0.Stations, trow 9 r_l0.2.1 l0.Points, trow 57 r_l0.2.2.1 l0.Sections, trow 72 r_l0.2.2.2 l0.Links, own b_l0 26 [.slice r_l0.1.a l0.Stations.length r_l0.1.cap, .slice r_l0.2.1.a l0.Points.length r_l0.2.1.cap, .slice r_l0.2.2.1.a l0.Sections.length r_l0.2.2.1.cap, .slice r_l0.2.2.2.a l0.Links.length r_l0.2.2.2.cap], imm (α := (List Str)) (⟨some ⟨0, 0, none⟩, 2, fun _ => ()⟩ : SR Unit) ([(⟨[65]⟩ : Str), (⟨[66]⟩ : Str)] : List Str), imm (α := (List Str)) r_p1 p1] (by repeat (first | exact List.Sublist.refl _ | apply List.Sublist.cons_cons | apply List.Sublist.cons)) ?_
      refine aw_ev 0 rfl ev_move ?_
      refine aw_ev 1 rfl ev_move ?_
      obtain ⟨x6, hx7, hM⟩ := bind_some hM
      refine aw_ev 2 rfl (ev_idx (xs := p1) 1 (Kn.imm (α := List Str) (r := r_p1) (x := p1) (by repeat (first | exact Has.head | apply Has.tail))) (fun hg => let h := idx_some hx7; ⟨h.1, h.2.1⟩)) ?_
      refine aw_ev 3 rfl (ev_ld (i := 1) (xs := p1) (y := x6) 0 (Kn.imm (α := List Str) (r := r_p1) (x := p1) (by repeat (first | exact Has.head | apply Has.tail))) (fun _ => hx7)) ?_
      refine aw_ev 5 rfl ev_move ?_
      refine aw_ev 6 rfl ev_move ?_
      obtain ⟨x8, hx9, hM⟩ := bind_some hM
      refine aw_ev 7 rfl (ev_idx (xs := p1) 1 (Kn.imm (α := List Str) (r := r_p1) (x := p1) (by repeat (first | exact Has.head | apply Has.tail))) (fun hg => let h := idx_some hx9; ⟨h.1, h.2.1⟩)) ?_
      refine aw_ev 8 rfl (ev_ld (i := 3) (xs := p1) (y := x8) 0 (Kn.imm (α := List Str) (r := r_p1) (x := p1) (by repeat (first | exact Has.head | apply Has.tail))) (fun _ => hx9)) ?_
      obtain ⟨y10, hy11, hM⟩ := bind_some hM
      refine aw_one 4 rfl (st_callv (fun w hm => let ⟨S, hs⟩ := hm; layout_sectionNamed_spec _ w b_l0 l0 r_l0 x6 y10 hy11 (lend_lt hs) (own_lend (by repeat (first | exact Has.head | apply Has.tail)) hs) ⟨(Kn.lend (Kn.trow (e := 9) (r := r_l0.1) (by repeat (first | exact Has.head | apply Has.tail))) hs), (Kn.lend (Kn.trow (e := 9) (r := r_l0.2.1) (by repeat (first | exact Has.head | apply Has.tail))) hs), (Kn.lend (Kn.trow (e := 57) (r := r_l0.2.2.1) (by repeat (first | exact Has.head | apply Has.tail))) hs), (Kn.lend (Kn.trow (e := 72) (r := r_l0.2.2.2) (by repeat (first | exact Has.head | apply Has.tail))) hs)⟩) ⟨fun w hm => hm.sub (by repeat (first | exact List.Sublist.refl _ | apply List.Sublist.cons_cons | apply List.Sublist.cons)), ?_⟩)
      refine aw_ev 10 rfl (ev_field_addr 0) ?_
      obtain ⟨y12, hy13, hM⟩ := bind_some hM
      refine aw_one 9 rfl (st_callv (fun w hm => let ⟨S, hs⟩ := hm; layout_sectionNamed_spec _ w b_l0 l0 r_l0 x8 y12 hy13 (lend_lt hs) (own_lend (by repeat (first | exact Has.head | apply Has.tail)) hs) ⟨(Kn.lend (Kn.trow (e := 9) (r := r_l0.1) (by repeat (first | exact Has.head | apply Has.tail))) hs), (Kn.lend (Kn.trow (e := 9) (r := r_l0.2.1) (by repeat (first | exact Has.head | apply Has.tail))) hs), (Kn.lend (Kn.trow (e := 57) (r := r_l0.2.2.1) (by repeat (first | exact Has.head | apply Has.tail))) hs), (Kn.lend (Kn.trow (e := 72) (r := r_l0.2.2.2) (by repeat (first | exact Has.head | apply Has.tail))) hs)⟩) ⟨fun w hm => hm.sub (by repeat (first | exact List.Sublist.refl _ | apply List.Sublist.cons_cons | apply List.Sublist.cons)), ?_⟩)
      refine aw_one 11 rfl (st_store_own (b := bk_j1) (l' := [.int .i64 y10, .int .i64 k_j1_1, .int .i64 0, .int .i64 k_j1_3, .int .i64 (-1), .int .i64 0]) (k := ⟨fun w hm => hm.sub (by repeat (first | exact List.Sublist.refl _ | apply List.Sublist.cons_cons | apply List.Sublist.cons)), ?_⟩))
      refine aw_ev 12 rfl (ev_field_addr 2) ?_
      refine aw_one 13 rfl (st_store_own (b := bk_j1) (l' := [.int .i64 y10, .int .i64 k_j1_1, .int .i64 y12, .int .i64 k_j1_3, .int .i64 (-1), .int .i64 0]) (k := ⟨fun w hm => hm.sub (by repeat (first | exact List.Sublist.refl _ | apply List.Sublist.cons_cons | apply List.Sublist.cons)), ?_⟩))
      refine aw_done (hK5 _ _ ?_); clear hK5
      refine cw_seq fun K6 hK6 => ?_
      refine cw_seq fun K7 hK7 => ?_
      refine cw_region ?_
      refine ow_ev (ev_field_addr 0) ?_
      refine ow_ev (ev_load_own (b := bk_j1)) ?_
      refine ow_ev ev_lss ?_
      refine ow_ev ev_move ?_
      refine ow_evg rfl (ev_field_addr 2) ?_
      refine ow_evg rfl (ev_load_own (b := bk_j1)) ?_
      refine ow_evg rfl ev_lss ?_
      refine ow_ev ev_or ?_
      refine ow_nil (hK7 _ _ ?_); clear hK7
      refine cw_cond rfl (fun hc14 => ?_) (fun hc14 => ?_)
      ·
        replace hM := (ite_t hc14).symm.trans hM
        refine cw_seq fun K8 hK8 => ?_
        refine cw_region ?_
        refine ow_ev ev_assign ?_
        refine ow_nil (hK8 _ _ ?_); clear hK8
        obtain rfl := some_inj hM
        refine cw_ret (kw_retc1 (fun w hm => post_of r_l0.2.2.2 hm rfl))
      ·
        replace hM := (ite_f hc14).symm.trans hM
        refine cw_skip (hK6 _ _ ?_); clear hK6
        refine cw_cut (γ := (Int × Int) × Unit) (env := fun ((k_j2_4, k_j2_5), _) => [(0, .v (.pointer (some ⟨b_l0, 0, none⟩))), (5, .v (.pointer (some ⟨bk_j1, 0, none⟩)))]) (mem := fun ((k_j2_4, k_j2_5), _) => [trow 9 r_l0.1 l0.Stations, trow 9 r_l0.2.1 l0.Points, trow 57 r_l0.2.2.1 l0.Sections, trow 72 r_l0.2.2.2 l0.Links, own b_l0 26 [.slice r_l0.1.a l0.Stations.length r_l0.1.cap, .slice r_l0.2.1.a l0.Points.length r_l0.2.1.cap, .slice r_l0.2.2.1.a l0.Sections.length r_l0.2.2.1.cap, .slice r_l0.2.2.2.a l0.Links.length r_l0.2.2.2.cap], imm (α := (List Str)) (⟨some ⟨0, 0, none⟩, 2, fun _ => ()⟩ : SR Unit) ([(⟨[65]⟩ : Str), (⟨[66]⟩ : Str)] : List Str), own bk_j1 72 [.int .i64 y10, .int .i64 k_j1_1, .int .i64 y12, .int .i64 k_j1_3, .int .i64 k_j2_4, .int .i64 k_j2_5]]) (R := fun g => layout_declareLink_k2 l0 y10 k_j1_1 y12 k_j1_3 g.1 = some y) ?_ ?_
        · intro KJ2 hJ2
          refine cw_seq fun K11 hK11 => ?_
          refine cw_region ?_
          refine ow_ev ev_move ?_
          refine ow_ev ev_len ?_
          refine ow_ev ev_eql ?_
          refine ow_nil (hK11 _ _ ?_); clear hK11
          refine cw_cond rfl (fun hc18 => ?_) (fun hc18 => ?_)
          ·
            replace hM := (ite_t hc18).symm.trans hM
            refine cw_seq fun K12 hK12 => ?_
            refine cw_region_z [trow 9 r_l0.1 l0.Stations, trow 9 r_l0.2.1 l0.Points, trow 57 r_l0.2.2.1 l0.Sections, trow 72 r_l0.2.2.2 l0.Links, own b_l0 26 [.slice r_l0.1.a l0.Stations.length r_l0.1.cap, .slice r_l0.2.1.a l0.Points.length r_l0.2.1.cap, .slice r_l0.2.2.1.a l0.Sections.length r_l0.2.2.1.cap, .slice r_l0.2.2.2.a l0.Links.length r_l0.2.2.2.cap], imm (α := (List Str)) (⟨some ⟨0, 0, none⟩, 2, fun _ => ()⟩ : SR Unit) ([(⟨[65]⟩ : Str), (⟨[66]⟩ : Str)] : List Str), imm (α := (List Str)) r_p1 p1, own bk_j1 72 [.int .i64 y10, .int .i64 k_j1_1, .int .i64 y12, .int .i64 k_j1_3, .int .i64 (-1), .int .i64 0]] 9 ?_
            refine az_ev 0 rfl ev_move ?_
            refine az_ev 1 rfl ev_nilcheck ?_
            refine az_ev 2 rfl (ev_field_addr 1) ?_
            refine az_ev 3 rfl (ev_load_own (b := b_l0)) ?_
            refine az_ev 4 rfl ev_move ?_
            obtain ⟨x19, hx20, hM⟩ := bind_some hM
            refine az_ev 5 rfl (ev_idx (xs := p1) 1 (Kn.imm (α := List Str) (r := r_p1) (x := p1) (by repeat (first | exact Has.head | apply Has.tail))) (fun hg => let h := idx_some hx20; ⟨h.1, h.2.1⟩)) ?_
            refine az_ev 6 rfl (ev_ld (i := 5) (xs := p1) (y := x19) 0 (Kn.imm (α := List Str) (r := r_p1) (x := p1) (by repeat (first | exact Has.head | apply Has.tail))) (fun _ => hx20)) ?_
            obtain ⟨y21, hy22, hM⟩ := bind_some hM
            refine az_one 7 rfl (st_callv (fun w hm => let ⟨S, hs⟩ := hm; slices_Index_string_string_spec _ w l0.Points r_l0.2.1 x19 y21 hy22 (lend_lt hs) (Kn.lend (Kn.trow (e := 9) (r := r_l0.2.1) (by repeat (first | exact Has.head | apply Has.tail))) hs)) ⟨fun w hm => hm.sub (by repeat (first | exact List.Sublist.refl _ | apply List.Sublist.cons_cons | apply List.Sublist.cons)), ?_⟩)
            refine az_ev 8 rfl (ev_field_addr 4) ?_
            refine az_last rfl (st_store_own (b := bk_j1) (l' := [.int .i64 y10, .int .i64 k_j1_1, .int .i64 y12, .int .i64 k_j1_3, .int .i64 y21, .int .i64 0]) (k := ?_))
            refine az_done (hK12 _ _ ?_); clear hK12
            refine cw_seq fun K13 hK13 => ?_
            refine cw_seq fun K14 hK14 => ?_
            refine cw_region ?_
            refine ow_ev (ev_field_addr 4) ?_
            refine ow_ev (ev_load_own (b := bk_j1)) ?_
            refine ow_ev ev_lss ?_
            refine ow_nil (hK14 _ _ ?_); clear hK14
            refine cw_cond rfl (fun hc23 => ?_) (fun hc23 => ?_)
            ·
              replace hM := (ite_t hc23).symm.trans hM
              refine cw_seq fun K15 hK15 => ?_
              refine cw_region ?_
              refine ow_ev ev_assign ?_
              refine ow_nil (hK15 _ _ ?_); clear hK15
              obtain rfl := some_inj hM
              refine cw_ret (kw_retc1 (fun w hm => post_of r_l0.2.2.2 hm rfl))
            ·
              replace hM := (ite_f hc23).symm.trans hM
              refine cw_skip (hK13 _ _ ?_); clear hK13
              refine cw_seq fun K16 hK16 => ?_
              refine cw_region ?_
              refine ow_ev ev_move ?_
              obtain ⟨x24, hx25, hM⟩ := bind_some hM
              refine ow_ev (ev_idx (xs := p1) 1 (Kn.imm (α := List Str) (r := r_p1) (x := p1) (by repeat (first | exact Has.head | apply Has.tail))) (fun hg => let h := idx_some hx25; ⟨h.1, h.2.1⟩)) ?_
              refine ow_ev (ev_ld (i := 6) (xs := p1) (y := x24) 0 (Kn.imm (α := List Str) (r := r_p1) (x := p1) (by repeat (first | exact Has.head | apply Has.tail))) (fun _ => hx25)) ?_
              refine ow_ev ev_str_eql ?_
              refine ow_nil (hK16 _ _ ?_); clear hK16
              refine cw_cond rfl (fun hc26 => ?_) (fun hc26 => ?_)
              ·
                replace hM := (ite_t hc26).symm.trans hM
                refine cw_region ?_
                refine ow_ev (ev_field_addr 5) ?_
                refine ow_cons (st_store_own (b := bk_j1) (l' := [.int .i64 y10, .int .i64 k_j1_1, .int .i64 y12, .int .i64 k_j1_3, .int .i64 y21, .int .i64 1]) (k := ?_))
                refine ow_nil (hJ2 ((y21, 1), ()) _ _ hM ⟨rfl, rfl, trivial⟩ (fun w hm => hm.reord))
              ·
                replace hM := (ite_f hc26).symm.trans hM
                refine cw_skip (hJ2 ((y21, 0), ()) _ _ hM ⟨rfl, rfl, trivial⟩ (fun w hm => hm.reord))
          ·
            replace hM := (ite_f hc18).symm.trans hM
            refine cw_skip (hJ2 (((-1), 0), ()) _ _ hM ⟨rfl, rfl, trivial⟩ (fun w hm => hm.reord))
        ·
          clear hM
          intro g hM
          obtain ⟨⟨k_j2_4, k_j2_5⟩, ⟨⟩⟩ := g
          dsimp only at hM ⊢
          dsimp only [layout_declareLink_k2] at hM
          refine cw_seq fun K9 hK9 => ?_
          refine cw_region_z [trow 9 r_l0.1 l0.Stations, trow 9 r_l0.2.1 l0.Points, trow 57 r_l0.2.2.1 l0.Sections, own b_l0 26 [.slice r_l0.1.a l0.Stations.length r_l0.1.cap, .slice r_l0.2.1.a l0.Points.length r_l0.2.1.cap, .slice r_l0.2.2.1.a l0.Sections.length r_l0.2.2.1.cap, .slice r_l0.2.2.2.a l0.Links.length r_l0.2.2.2.cap], imm (α := (List Str)) (⟨some ⟨0, 0, none⟩, 2, fun _ => ()⟩ : SR Unit) ([(⟨[65]⟩ : Str), (⟨[66]⟩ : Str)] : List Str), own bk_j1 72 [.int .i64 y10, .int .i64 k_j1_1, .int .i64 y12, .int .i64 k_j1_3, .int .i64 k_j2_4, .int .i64 k_j2_5]] 10 ?_
          refine az_ev 0 rfl ev_move ?_
          refine az_ev 1 rfl ev_move ?_
          refine az_ev 2 rfl ev_nilcheck ?_
          refine az_ev 3 rfl (ev_field_addr 3) ?_
          refine az_ev 4 rfl (ev_load_own (b := b_l0)) ?_
          refine az_ev 5 rfl (ev_load_all (b := bk_j1)) ?_
          refine az_one 6 rfl (st_bslice (α := Link) 72 (fun _ => ()) ([(Link.mk y10 k_j1_1 y12 k_j1_3 k_j2_4 k_j2_5)] : List Link) (OkL.flat (fun _ _ _ _ => trivial)) (fun r15 => ⟨fun w hm => hm.sub (by repeat (first | exact List.Sublist.refl _ | apply List.Sublist.cons_cons | apply List.Sublist.cons)), ?_⟩))
          obtain ⟨hb17, hM⟩ := chk_some hM
          refine az_one 7 rfl (st_append (r := r_l0.2.2.2) (r2 := r15) (by intro r'; repeat (first | exact Upd.head | apply Upd.tail)) (Kn.trow (e := 72) (r := r15) (by repeat (first | exact Has.head | apply Has.tail))) (OkL.flat (fun _ _ _ _ => trivial)) (of_decide_eq_true hb17) (fun r16 => ⟨fun w hm => hm.sub (by repeat (first | exact List.Sublist.refl _ | apply List.Sublist.cons_cons | apply List.Sublist.cons)), ?_⟩))
          refine az_ev 8 rfl ev_nilcheck ?_
          refine az_ev 9 rfl (ev_field_addr 3) ?_
          refine az_last rfl (st_store_own (b := b_l0) (l' := [.slice r_l0.1.a l0.Stations.length r_l0.1.cap, .slice r_l0.2.1.a l0.Points.length r_l0.2.1.cap, .slice r_l0.2.2.1.a l0.Sections.length r_l0.2.2.1.cap, .slice r16.a ((l0.Links ++ ([(Link.mk y10 k_j1_1 y12 k_j1_3 k_j2_4 k_j2_5)] : List Link)).length) r16.cap]) (k := ?_))
          refine az_done (hK9 _ _ ?_); clear hK9
          refine cw_seq fun K10 hK10 => ?_
          refine cw_region ?_
          refine ow_ev ev_assign ?_
          refine ow_nil (hK10 _ _ ?_); clear hK10
          obtain rfl := some_inj hM
          refine cw_ret (kw_retc1 (fun w hm => post_of r16 hm rfl))

def layout_declare_k1 (lw_1 : List Str) (l0 : Layout) : Unit → Option (Int × (List Str) × (List Str) × (List Section) × (List Link)) := fun _ =>
  (idx lw_1 0).bind fun x10 =>
  if (decide (x10 = (⟨[115, 116, 97, 116, 105, 111, 110]⟩ : Str)) && decide ((lw_1.length : Int) = 2)) then
    ((idx lw_1 1).bind fun x13 =>
    chk (decide ((l0.Stations.length + ([x13] : List Str).length) * 16 ≤ 140737488355328)) <|
    some (0, (l0.Stations ++ ([x13] : List Str)), l0.Points, l0.Sections, l0.Links))
  else
    ((idx lw_1 0).bind fun x18 =>
    if (decide (x18 = (⟨[112, 111, 105, 110, 116]⟩ : Str)) && decide ((lw_1.length : Int) = 2)) then
      ((idx lw_1 1).bind fun x21 =>
      chk (decide ((l0.Points.length + ([x21] : List Str).length) * 16 ≤ 140737488355328)) <|
      some (0, l0.Stations, (l0.Points ++ ([x21] : List Str)), l0.Sections, l0.Links))
    else
      ((idx lw_1 0).bind fun x26 =>
      (whn ((decide (x26 = (⟨[115, 101, 99, 116, 105, 111, 110]⟩ : Str)) && !(decide ((lw_1.length : Int) = 5))) && decide ((lw_1.length : Int) = 7)) default (idx lw_1 5)).bind fun x28 =>
      if (decide (x26 = (⟨[115, 101, 99, 116, 105, 111, 110]⟩ : Str)) && (decide ((lw_1.length : Int) = 5) || (decide ((lw_1.length : Int) = 7) && decide (x28 = (⟨[97, 116]⟩ : Str))))) then
        ((layout_declareSection_m l0 lw_1).bind fun y31 =>
        some (y31.1, l0.Stations, l0.Points, y31.2, l0.Links))
      else
        ((idx lw_1 0).bind fun x34 =>
        if (decide (x34 = (⟨[108, 105, 110, 107]⟩ : Str)) && (decide ((lw_1.length : Int) = 5) || decide ((lw_1.length : Int) = 7))) then
          ((layout_declareLink_m l0 lw_1).bind fun y37 =>
          some (y37.1, l0.Stations, l0.Points, l0.Sections, y37.2))
        else
          (some (2, l0.Stations, l0.Points, l0.Sections, l0.Links)))))
def layout_declare_b1 (line0 : List Word) (l0 : Layout) (cont1 : ((List Str) × Nat) → Option (Int × (List Str) × (List Str) × (List Section) × (List Link))) : ((List Str) × Nat) → Option (Int × (List Str) × (List Str) × (List Section) × (List Link)) := fun (lw_1, t10_1) =>
  if decide ((t10_1 : Int) < (line0.length : Int)) then
    ((idx line0 (t10_1 : Int)).bind fun x4 =>
    chk (decide ((lw_1.length + ([x4.Text] : List Str).length) * 16 ≤ 140737488355328)) <|
    cont1 ((lw_1 ++ ([x4.Text] : List Str)), t10_1 + 1))
  else
    (layout_declare_k1 lw_1 l0 ())
def layout_declare_m (l0 : Layout) (line0 : List Word) : Option (Int × (List Str) × (List Str) × (List Section) × (List Link)) :=
  iter (layout_declare_b1 line0 l0) FUEL (([] : List Str), 0)
theorem layout_declare_spec (S : Soup) (w : World) (b_l0 : Nat) (l0 : Layout) (r_l0 : GoRep.R Layout) (line0 : List Word) (r_line0 : GoRep.R (List Word)) (y : Int × (List Str) × (List Str) × (List Section) × (List Link)) (hM : layout_declare_m l0 line0 = some y) (hP : Pre S [own b_l0 26 [.slice r_l0.1.a l0.Stations.length r_l0.1.cap, .slice r_l0.2.1.a l0.Points.length r_l0.2.1.cap, .slice r_l0.2.2.1.a l0.Sections.length r_l0.2.2.1.cap, .slice r_l0.2.2.2.a l0.Links.length r_l0.2.2.2.cap], trow 9 r_l0.1 l0.Stations, trow 9 r_l0.2.1 l0.Points, trow 57 r_l0.2.2.1 l0.Sections, trow 72 r_l0.2.2.2 l0.Links] w) (h_line0 : GoRep.ok S w r_line0 line0) (hg_0 : (imm (α := (List Str)) (⟨some ⟨0, 0, none⟩, 2, fun _ => ()⟩ : SR Unit) ([(⟨[65]⟩ : Str), (⟨[66]⟩ : Str)] : List Str)).φ S w) :
    Calls Tryd.prog 41 #[.pointer (some ⟨b_l0, 0, none⟩), .slice r_line0.a line0.length r_line0.cap] w (Post (β := (SR (GoRep.R Str)) × (SR (GoRep.R Str)) × (SR (GoRep.R Section)) × (SR (GoRep.R Link))) S [own b_l0 26 [.slice r_l0.1.a l0.Stations.length r_l0.1.cap, .slice r_l0.2.1.a l0.Points.length r_l0.2.1.cap, .slice r_l0.2.2.1.a l0.Sections.length r_l0.2.2.1.cap, .slice r_l0.2.2.2.a l0.Links.length r_l0.2.2.2.cap], trow 9 r_l0.1 l0.Stations, trow 9 r_l0.2.1 l0.Points, trow 57 r_l0.2.2.1 l0.Sections, trow 72 r_l0.2.2.2 l0.Links] (fun g => .int .i64 y.1) (fun g => [own b_l0 26 [.slice g.1.a y.2.1.length g.1.cap, .slice g.2.1.a y.2.2.1.length g.2.1.cap, .slice g.2.2.1.a y.2.2.2.1.length g.2.2.1.cap, .slice g.2.2.2.a y.2.2.2.2.length g.2.2.2.cap], trow 9 g.1 y.2.1, trow 9 g.2.1 y.2.2.1, trow 57 g.2.2.1 y.2.2.2.1, trow 72 g.2.2.2 y.2.2.2.2]) w) := by
  refine calls_cw (args := [_, _]) Tryd.func41 rfl (hP.start |>.immP (α := List Word) (r := r_line0) (x := line0) h_line0|>.factP (c := imm (α := (List Str)) (⟨some ⟨0, 0, none⟩, 2, fun _ => ()⟩ : SR Unit) ([(⟨[65]⟩ : Str), (⟨[66]⟩ : Str)] : List Str)) (fun _ h => False.elim h) hg_0) rfl ?_
  unfold layout_declare_m at hM
  refine cw_seq fun K1 hK1 => ?_
  refine cw_region ?_
  refine ow_ev ev_assign ?_
  refine ow_nil (hK1 _ _ ?_); clear hK1
  refine cw_seq fun K2 hK2 => ?_
  refine cw_region ?_
  refine ow_ev ev_assign ?_
  refine ow_nil (hK2 _ _ ?_); clear hK2
  refine cw_seq fun K3 hK3 => ?_
  refine cw_seq fun K4 hK4 => ?_
  refine cw_region ?_
  refine ow_ev ev_move ?_
  refine ow_have (fun w hm => Kn.len (Kn.imm (α := List Word) (r := r_line0) (x := line0) (by repeat (first | exact Has.head | apply Has.tail))) hm) fun hl1 => ?_
  refine ow_ev ev_len ?_
  refine ow_ev ev_move ?_
  refine ow_nil (hK4 _ _ ?_); clear hK4
  refine cw_block ?_
  refine cw_imp (fun w hm => hm.row_nil (α := Str) 9 (fun _ => ())) ?_
  refine cw_loop (γ := Nat × ((List Str) × Nat) × (SR (GoRep.R Str))) (env := fun (_, (lw_1, t10_1), rw_1) => [(0, .v (.pointer (some ⟨b_l0, 0, none⟩))), (5, .v (.slice rw_1.a lw_1.length rw_1.cap)), (8, .v (.slice r_line0.a line0.length r_line0.cap)), (9, .v (.int .i64 (line0.length : Int))), (10, .v (.int .i64 (t10_1 : Int)))]) (mem := fun (_, (lw_1, t10_1), rw_1) => [trow 9 r_l0.1 l0.Stations, trow 9 r_l0.2.1 l0.Points, trow 57 r_l0.2.2.1 l0.Sections, trow 72 r_l0.2.2.2 l0.Links, own b_l0 26 [.slice r_l0.1.a l0.Stations.length r_l0.1.cap, .slice r_l0.2.1.a l0.Points.length r_l0.2.1.cap, .slice r_l0.2.2.1.a l0.Sections.length r_l0.2.2.1.cap, .slice r_l0.2.2.2.a l0.Links.length r_l0.2.2.2.cap], imm (α := (List Str)) (⟨some ⟨0, 0, none⟩, 2, fun _ => ()⟩ : SR Unit) ([(⟨[65]⟩ : Str), (⟨[66]⟩ : Str)] : List Str), trow 9 rw_1 lw_1, imm (α := (List Word)) r_line0 line0]) (R := fun g => iter (layout_declare_b1 line0 l0) g.1 g.2.1 = some y) (μ := fun g => g.1) (FUEL, (([] : List Str), 0), (⟨none, 0, (fun _ => ())⟩ : SR (GoRep.R Str) )) hM ⟨rfl, rfl, rfl, rfl, rfl, trivial⟩ (fun w hm => hm.reord) ?_
  clear hM
  intro g hM KL1 hL1
  obtain ⟨nn1, ⟨lw_1, t10_1⟩, rw_1⟩ := g
  dsimp only at hM ⊢
  obtain ⟨nn1, cont1, rfl, hcont1, hM⟩ := iter_open' hM
  dsimp only [layout_declare_b1] at hM
  refine cw_seq fun K5 hK5 => ?_
  refine cw_region ?_
  refine ow_ev ev_lss ?_
  refine ow_nil (hK5 _ _ ?_); clear hK5
  refine cw_seq fun K6 hK6 => ?_
  refine cw_cond rfl (fun hc3 => ?_) (fun hc3 => ?_)
  ·
    replace hM := (ite_t hc3).symm.trans hM
    have hc3d := of_decide_eq_true hc3
    refine cw_skip (hK6 _ _ ?_); clear hK6
    refine cw_seq fun K7 hK7 => ?_
    refine cw_block ?_
    refine cw_seq fun K8 hK8 => ?_
    refine cw_region ?_
    obtain ⟨x4, hx5, hM⟩ := bind_some hM
    refine ow_ev (ev_idx (xs := line0) 3 (Kn.imm (α := List Word) (r := r_line0) (x := line0) (by repeat (first | exact Has.head | apply Has.tail))) (fun hg => let h := idx_some hx5; ⟨h.1, h.2.1⟩)) ?_
    refine ow_ev (ev_lds (m := 3) (i := (t10_1 : Int)) (xs := line0) (y := x4) (l := [.string x4.Text.ba, .int .i64 x4.Line, .int .i64 x4.Col]) 0 (Kn.imm (α := List Word) (r := r_line0) (x := line0) (by repeat (first | exact Has.head | apply Has.tail))) (fun _ => hx5)) ?_
    refine ow_cons (st_alloc rfl (k := fun b6 => ?_))
    refine ow_cons (st_store_all (b := b6) (vs := [.string x4.Text.ba, .int .i64 x4.Line, .int .i64 x4.Col]) (k := ?_))
    refine ow_nil (hK8 _ _ ?_); clear hK8
    refine cw_region ?_
    refine ow_ev ev_move ?_
    refine ow_ev (ev_field_addr 0) ?_
    refine ow_ev (ev_load_own (b := b6)) ?_
    refine ow_cons (st_bslice (α := Str) 9 (fun _ => ()) ([x4.Text] : List Str) (OkL.flat (fun _ _ _ _ => trivial)) (fun r7 => ?_))
    obtain ⟨hb9, hM⟩ := chk_some hM
    refine ow_cons (st_append (r := rw_1) (r2 := r7) (by intro r'; repeat (first | exact Upd.head | apply Upd.tail)) (Kn.trow (e := 9) (r := r7) (by repeat (first | exact Has.head | apply Has.tail))) (OkL.flat (fun _ _ _ _ => trivial)) (of_decide_eq_true hb9) (fun r8 => ?_))
    refine ow_ev ev_assign ?_
    refine ow_nil (hK7 _ _ ?_); clear hK7
    refine cw_region ?_
    refine ow_ev (ev_add (hr := fun _ => by unfold I64; omega)) ?_
    refine ow_ev ev_move ?_
    refine ow_nil (hL1 (nn1, ((lw_1 ++ ([x4.Text] : List Str)), t10_1 + 1), r8) _ _ (eqc hcont1 hM) (Nat.lt_succ_self _) ⟨rfl, rfl, rfl, rfl, rfl, trivial⟩ (fun w hm => hm.reord))
  ·
    replace hM := (ite_f hc3).symm.trans hM
    refine cw_exit (hK3 _ _ ?_); clear hK3
    dsimp only [layout_declare_k1] at hM
    refine cw_seq fun K9 hK9 => ?_
    refine cw_block ?_
    refine cw_seq fun K10 hK10 => ?_
    refine cw_region ?_
    refine ow_ev ev_move ?_
    obtain ⟨x10, hx11, hM⟩ := bind_some hM
    refine ow_ev (ev_idx (xs := lw_1) 1 (Kn.trow (e := 9) (r := rw_1) (by repeat (first | exact Has.head | apply Has.tail))) (fun hg => let h := idx_some hx11; ⟨h.1, h.2.1⟩)) ?_
    refine ow_ev (ev_ld (i := 0) (xs := lw_1) (y := x10) 0 (Kn.trow (e := 9) (r := rw_1) (by repeat (first | exact Has.head | apply Has.tail))) (fun _ => hx11)) ?_
    refine ow_ev ev_str_eql ?_
    refine ow_ev ev_move ?_
    refine ow_evg rfl ev_move ?_
    refine ow_evg rfl ev_len ?_
    refine ow_evg rfl ev_eql ?_
    refine ow_ev ev_and ?_
    refine ow_ev ev_assign ?_
    refine ow_nil (hK10 _ _ ?_); clear hK10
    refine cw_cond rfl (fun hc12 => ?_) (fun hc12 => ?_)
    ·
      replace hM := (ite_t hc12).symm.trans hM
      refine cw_seq fun K11 hK11 => ?_
      refine cw_region_z [trow 9 r_l0.2.1 l0.Points, trow 57 r_l0.2.2.1 l0.Sections, trow 72 r_l0.2.2.2 l0.Links, own b_l0 26 [.slice r_l0.1.a l0.Stations.length r_l0.1.cap, .slice r_l0.2.1.a l0.Points.length r_l0.2.1.cap, .slice r_l0.2.2.1.a l0.Sections.length r_l0.2.2.1.cap, .slice r_l0.2.2.2.a l0.Links.length r_l0.2.2.2.cap], imm (α := (List Str)) (⟨some ⟨0, 0, none⟩, 2, fun _ => ()⟩ : SR Unit) ([(⟨[65]⟩ : Str), (⟨[66]⟩ : Str)] : List Str), trow 9 rw_1 lw_1, imm (α := (List Word)) r_line0 line0] 12 ?_
      refine az_ev 0 rfl ev_move ?_
      refine az_ev 1 rfl ev_move ?_
      refine az_ev 2 rfl ev_nilcheck ?_
      refine az_ev 3 rfl (ev_field_addr 0) ?_
      refine az_ev 4 rfl (ev_load_own (b := b_l0)) ?_
      refine az_ev 5 rfl ev_move ?_
      obtain ⟨x13, hx14, hM⟩ := bind_some hM
      refine az_ev 6 rfl (ev_idx (xs := lw_1) 1 (Kn.trow (e := 9) (r := rw_1) (by repeat (first | exact Has.head | apply Has.tail))) (fun hg => let h := idx_some hx14; ⟨h.1, h.2.1⟩)) ?_
      refine az_ev 7 rfl (ev_ld (i := 1) (xs := lw_1) (y := x13) 0 (Kn.trow (e := 9) (r := rw_1) (by repeat (first | exact Has.head | apply Has.tail))) (fun _ => hx14)) ?_
      refine az_one 8 rfl (st_bslice (α := Str) 9 (fun _ => ()) ([x13] : List Str) (OkL.flat (fun _ _ _ _ => trivial)) (fun r15 => ⟨fun w hm => hm.sub (by repeat (first | exact List.Sublist.refl _ | apply List.Sublist.cons_cons | apply List.Sublist.cons)), ?_⟩))
      obtain ⟨hb17, hM⟩ := chk_some hM
      refine az_one 9 rfl (st_append (r := r_l0.1) (r2 := r15) (by intro r'; repeat (first | exact Upd.head | apply Upd.tail)) (Kn.trow (e := 9) (r := r15) (by repeat (first | exact Has.head | apply Has.tail))) (OkL.flat (fun _ _ _ _ => trivial)) (of_decide_eq_true hb17) (fun r16 => ⟨fun w hm => hm.sub (by repeat (first | exact List.Sublist.refl _ | apply List.Sublist.cons_cons | apply List.Sublist.cons)), ?_⟩))
      refine az_ev 10 rfl ev_nilcheck ?_
      refine az_ev 11 rfl (ev_field_addr 0) ?_
      refine az_last rfl (st_store_own (b := b_l0) (l' := [.slice r16.a ((l0.Stations ++ ([x13] : List Str)).length) r16.cap, .slice r_l0.2.1.a l0.Points.length r_l0.2.1.cap, .slice r_l0.2.2.1.a l0.Sections.length r_l0.2.2.1.cap, .slice r_l0.2.2.2.a l0.Links.length r_l0.2.2.2.cap]) (k := ?_))
      refine az_done (hK11 _ _ ?_); clear hK11
      refine cw_seq fun K12 hK12 => ?_
      refine cw_region ?_
      refine ow_ev ev_assign ?_
      refine ow_nil (hK12 _ _ ?_); clear hK12
      obtain rfl := some_inj hM
      refine cw_ret (kw_retc1 (fun w hm => post_of (r16, r_l0.2.1, r_l0.2.2.1, r_l0.2.2.2) hm rfl))
    ·
      replace hM := (ite_f hc12).symm.trans hM
      refine cw_seq fun K13 hK13 => ?_
      refine cw_region ?_
      refine ow_ev ev_move ?_
      obtain ⟨x18, hx19, hM⟩ := bind_some hM
      refine ow_ev (ev_idx (xs := lw_1) 1 (Kn.trow (e := 9) (r := rw_1) (by repeat (first | exact Has.head | apply Has.tail))) (fun hg => let h := idx_some hx19; ⟨h.1, h.2.1⟩)) ?_
      refine ow_ev (ev_ld (i := 0) (xs := lw_1) (y := x18) 0 (Kn.trow (e := 9) (r := rw_1) (by repeat (first | exact Has.head | apply Has.tail))) (fun _ => hx19)) ?_
      refine ow_ev ev_str_eql ?_
      refine ow_ev ev_move ?_
      refine ow_evg rfl ev_move ?_
      refine ow_evg rfl ev_len ?_
      refine ow_evg rfl ev_eql ?_
      refine ow_ev ev_and ?_
      refine ow_ev ev_assign ?_
      refine ow_nil (hK13 _ _ ?_); clear hK13
      refine cw_cond rfl (fun hc20 => ?_) (fun hc20 => ?_)
      ·
        replace hM := (ite_t hc20).symm.trans hM
        refine cw_seq fun K14 hK14 => ?_
        refine cw_region_z [trow 9 r_l0.1 l0.Stations, trow 57 r_l0.2.2.1 l0.Sections, trow 72 r_l0.2.2.2 l0.Links, own b_l0 26 [.slice r_l0.1.a l0.Stations.length r_l0.1.cap, .slice r_l0.2.1.a l0.Points.length r_l0.2.1.cap, .slice r_l0.2.2.1.a l0.Sections.length r_l0.2.2.1.cap, .slice r_l0.2.2.2.a l0.Links.length r_l0.2.2.2.cap], imm (α := (List Str)) (⟨some ⟨0, 0, none⟩, 2, fun _ => ()⟩ : SR Unit) ([(⟨[65]⟩ : Str), (⟨[66]⟩ : Str)] : List Str), trow 9 rw_1 lw_1, imm (α := (List Word)) r_line0 line0] 12 ?_
        refine az_ev 0 rfl ev_move ?_
        refine az_ev 1 rfl ev_move ?_
        refine az_ev 2 rfl ev_nilcheck ?_
        refine az_ev 3 rfl (ev_field_addr 1) ?_
        refine az_ev 4 rfl (ev_load_own (b := b_l0)) ?_
        refine az_ev 5 rfl ev_move ?_
        obtain ⟨x21, hx22, hM⟩ := bind_some hM
        refine az_ev 6 rfl (ev_idx (xs := lw_1) 1 (Kn.trow (e := 9) (r := rw_1) (by repeat (first | exact Has.head | apply Has.tail))) (fun hg => let h := idx_some hx22; ⟨h.1, h.2.1⟩)) ?_
        refine az_ev 7 rfl (ev_ld (i := 1) (xs := lw_1) (y := x21) 0 (Kn.trow (e := 9) (r := rw_1) (by repeat (first | exact Has.head | apply Has.tail))) (fun _ => hx22)) ?_
        refine az_one 8 rfl (st_bslice (α := Str) 9 (fun _ => ()) ([x21] : List Str) (OkL.flat (fun _ _ _ _ => trivial)) (fun r23 => ⟨fun w hm => hm.sub (by repeat (first | exact List.Sublist.refl _ | apply List.Sublist.cons_cons | apply List.Sublist.cons)), ?_⟩))
        obtain ⟨hb25, hM⟩ := chk_some hM
        refine az_one 9 rfl (st_append (r := r_l0.2.1) (r2 := r23) (by intro r'; repeat (first | exact Upd.head | apply Upd.tail)) (Kn.trow (e := 9) (r := r23) (by repeat (first | exact Has.head | apply Has.tail))) (OkL.flat (fun _ _ _ _ => trivial)) (of_decide_eq_true hb25) (fun r24 => ⟨fun w hm => hm.sub (by repeat (first | exact List.Sublist.refl _ | apply List.Sublist.cons_cons | apply List.Sublist.cons)), ?_⟩))
        refine az_ev 10 rfl ev_nilcheck ?_
        refine az_ev 11 rfl (ev_field_addr 1) ?_
        refine az_last rfl (st_store_own (b := b_l0) (l' := [.slice r_l0.1.a l0.Stations.length r_l0.1.cap, .slice r24.a ((l0.Points ++ ([x21] : List Str)).length) r24.cap, .slice r_l0.2.2.1.a l0.Sections.length r_l0.2.2.1.cap, .slice r_l0.2.2.2.a l0.Links.length r_l0.2.2.2.cap]) (k := ?_))
        refine az_done (hK14 _ _ ?_); clear hK14
        refine cw_seq fun K15 hK15 => ?_
        refine cw_region ?_
        refine ow_ev ev_assign ?_
        refine ow_nil (hK15 _ _ ?_); clear hK15
        obtain rfl := some_inj hM
        refine cw_ret (kw_retc1 (fun w hm => post_of (r_l0.1, r24, r_l0.2.2.1, r_l0.2.2.2) hm rfl))
      ·
        replace hM := (ite_f hc20).symm.trans hM
        refine cw_seq fun K16 hK16 => ?_
        refine cw_region ?_
        refine ow_ev ev_move ?_
        obtain ⟨x26, hx27, hM⟩ := bind_some hM
        refine ow_ev (ev_idx (xs := lw_1) 1 (Kn.trow (e := 9) (r := rw_1) (by repeat (first | exact Has.head | apply Has.tail))) (fun hg => let h := idx_some hx27; ⟨h.1, h.2.1⟩)) ?_
        refine ow_ev (ev_ld (i := 0) (xs := lw_1) (y := x26) 0 (Kn.trow (e := 9) (r := rw_1) (by repeat (first | exact Has.head | apply Has.tail))) (fun _ => hx27)) ?_
        refine ow_ev ev_str_eql ?_
        refine ow_ev ev_move ?_
        refine ow_evg rfl ev_move ?_
        refine ow_evg rfl ev_len ?_
        refine ow_evg rfl ev_eql ?_
        refine ow_evg rfl ev_move ?_
        refine ow_evg rfl ev_move ?_
        refine ow_evg rfl ev_len ?_
        refine ow_evg rfl ev_eql ?_
        refine ow_evg rfl ev_move ?_
        refine ow_evg rfl ev_move ?_
        obtain ⟨x28, hx29, hM⟩ := bind_some hM
        refine ow_evg rfl (ev_idx (xs := lw_1) 1 (Kn.trow (e := 9) (r := rw_1) (by repeat (first | exact Has.head | apply Has.tail))) (fun hg => let h := idx_some (whn_some hx29 hg); ⟨h.1, h.2.1⟩)) ?_
        refine ow_evg rfl (ev_ld (i := 5) (xs := lw_1) (y := x28) 0 (Kn.trow (e := 9) (r := rw_1) (by repeat (first | exact Has.head | apply Has.tail))) (fun hg => whn_some hx29 hg)) ?_
        refine ow_evg rfl ev_str_eql ?_
        refine ow_evg rfl ev_and ?_
        refine ow_evg rfl ev_or ?_
        refine ow_ev ev_and ?_
        refine ow_ev ev_assign ?_
        refine ow_nil (hK16 _ _ ?_); clear hK16
        refine cw_cond rfl (fun hc30 => ?_) (fun hc30 => ?_)
        ·
          replace hM := (ite_t hc30).symm.trans hM
          refine cw_seq fun K17 hK17 => ?_
          refine cw_region ?_
          refine ow_ev ev_move ?_
          refine ow_ev ev_move ?_
          obtain ⟨y31, hy32, hM⟩ := bind_some hM
          refine ow_cons (st_callF (by repeat (first | exact SelL.nil | (apply SelL.cons; · (repeat (first | exact Sel.head | apply Sel.tail))))) (fun S w hs hP => layout_declareSection_spec _ w b_l0 l0 r_l0 lw_1 rw_1 y31 hy32 hP (Kn.lend (Kn.trow (e := 9) (r := rw_1) (by repeat (first | exact Has.head | apply Has.tail))) hs)) (by intro r c hc; simp only [List.mem_cons, List.not_mem_nil, or_false] at hc; rcases hc with rfl | rfl | rfl | rfl | rfl <;> first | exact flatC_own | exact flatC_trow (fun _ _ _ _ => trivial)) (fun r33 => ?_))
          dsimp only [List.cons_append, List.nil_append]
          refine ow_ev ev_assign ?_
          refine ow_nil (hK17 _ _ ?_); clear hK17
          obtain rfl := some_inj hM
          refine cw_ret (kw_retc1 (fun w hm => post_of (r_l0.1, r_l0.2.1, r33, r_l0.2.2.2) hm rfl))
        ·
          replace hM := (ite_f hc30).symm.trans hM
          refine cw_seq fun K18 hK18 => ?_
          refine cw_region ?_
          refine ow_ev ev_move ?_
          obtain ⟨x34, hx35, hM⟩ := bind_some hM
          refine ow_ev (ev_idx (xs := lw_1) 1 (Kn.trow (e := 9) (r := rw_1) (by repeat (first | exact Has.head | apply Has.tail))) (fun hg => let h := idx_some hx35; ⟨h.1, h.2.1⟩)) ?_
          refine ow_ev (ev_ld (i := 0) (xs := lw_1) (y := x34) 0 (Kn.trow (e := 9) (r := rw_1) (by repeat (first | exact Has.head | apply Has.tail))) (fun _ => hx35)) ?_
          refine ow_ev ev_str_eql ?_
          refine ow_ev ev_move ?_
          refine ow_evg rfl ev_move ?_
          refine ow_evg rfl ev_len ?_
          refine ow_evg rfl ev_eql ?_
          refine ow_evg rfl ev_move ?_
          refine ow_evg rfl ev_move ?_
          refine ow_evg rfl ev_len ?_
          refine ow_evg rfl ev_eql ?_
          refine ow_evg rfl ev_or ?_
          refine ow_ev ev_and ?_
          refine ow_ev ev_assign ?_
          refine ow_nil (hK18 _ _ ?_); clear hK18
          refine cw_cond rfl (fun hc36 => ?_) (fun hc36 => ?_)
          ·
            replace hM := (ite_t hc36).symm.trans hM
            refine cw_seq fun K19 hK19 => ?_
            refine cw_region ?_
            refine ow_ev ev_move ?_
            refine ow_ev ev_move ?_
            obtain ⟨y37, hy38, hM⟩ := bind_some hM
            refine ow_cons (st_callF (by repeat (first | exact SelL.nil | (apply SelL.cons; · (repeat (first | exact Sel.head | apply Sel.tail))))) (fun S w hs hP => layout_declareLink_spec _ w b_l0 l0 r_l0 lw_1 rw_1 y37 hy38 hP (Kn.lend (Kn.trow (e := 9) (r := rw_1) (by repeat (first | exact Has.head | apply Has.tail))) hs) (Chunk.mono _ _ _ _ (fun _ h => .inl h) (((by repeat (first | exact Has.head | apply Has.tail)) : Has _ (imm (α := (List Str)) (⟨some ⟨0, 0, none⟩, 2, fun _ => ()⟩ : SR Unit) ([(⟨[65]⟩ : Str), (⟨[66]⟩ : Str)] : List Str))).φ hs))) (by intro r c hc; simp only [List.mem_cons, List.not_mem_nil, or_false] at hc; rcases hc with rfl | rfl | rfl | rfl | rfl <;> first | exact flatC_own | exact flatC_trow (fun _ _ _ _ => trivial)) (fun r39 => ?_))
            dsimp only [List.cons_append, List.nil_append]
            refine ow_ev ev_assign ?_
            refine ow_nil (hK19 _ _ ?_); clear hK19
            obtain rfl := some_inj hM
            refine cw_ret (kw_retc1 (fun w hm => post_of (r_l0.1, r_l0.2.1, r_l0.2.2.1, r39) hm rfl))
          ·
            replace hM := (ite_f hc36).symm.trans hM
            refine cw_skip (hK9 _ _ ?_); clear hK9
            refine cw_seq fun K20 hK20 => ?_
            refine cw_region ?_
            refine ow_ev ev_assign ?_
            refine ow_nil (hK20 _ _ ?_); clear hK20
            obtain rfl := some_inj hM
            refine cw_ret (kw_retc1 (fun w hm => post_of (r_l0.1, r_l0.2.1, r_l0.2.2.1, r_l0.2.2.2) hm rfl))

def layout_Parse_k1 (ll_1_0 : List Str) (ll_1_1 : List Str) (ll_1_2 : List Section) (ll_1_3 : List Link) : Unit → Option (Layout × Int × Int) := fun _ =>
  (layout_Check_m (Layout.mk ll_1_0 ll_1_1 ll_1_2 ll_1_3)).bind fun y33 =>
  if decide (y33 ≠ 0) then
    (some ((Layout.mk ([] : List Str) ([] : List Str) ([] : List Section) ([] : List Link)), 0, y33))
  else
    (some ((Layout.mk ll_1_0 ll_1_1 ll_1_2 ll_1_3), 0, 0))
def layout_Parse_b1 (y2 : (List (List Word)) × Int × Int) (cont1 : ((List Str) × (List Str) × (List Section) × (List Link) × Nat) → Option (Layout × Int × Int)) : ((List Str) × (List Str) × (List Section) × (List Link) × Nat) → Option (Layout × Int × Int) := fun (ll_1_0, ll_1_1, ll_1_2, ll_1_3, t26_1) =>
  if decide ((t26_1 : Int) < (y2.1.length : Int)) then
    ((idx y2.1 (t26_1 : Int)).bind fun x21 =>
    (layout_declare_m (Layout.mk ll_1_0 ll_1_1 ll_1_2 ll_1_3) x21).bind fun y23 =>
    if decide (y23.1 ≠ 0) then
      ((idx x21 0).bind fun x27 =>
      some ((Layout.mk ([] : List Str) ([] : List Str) ([] : List Section) ([] : List Link)), x27.Line, y23.1))
    else
      (cont1 (y23.2.1, y23.2.2.1, y23.2.2.2.1, y23.2.2.2.2, t26_1 + 1)))
  else
    (layout_Parse_k1 ll_1_0 ll_1_1 ll_1_2 ll_1_3 ())
def layout_Parse_m (src0 : Str) : Option (Layout × Int × Int) :=
  (words_Lines_m src0).bind fun y2 =>
  if decide (y2.2.2 ≠ 0) then
    (some ((Layout.mk ([] : List Str) ([] : List Str) ([] : List Section) ([] : List Link)), y2.2.1, y2.2.2))
  else
    (iter (layout_Parse_b1 y2) FUEL (([] : List Str), ([] : List Str), ([] : List Section), ([] : List Link), 0))
theorem layout_Parse_spec (S : Soup) (w : World) (src0 : Str) (y : Layout × Int × Int) (hM : layout_Parse_m src0 = some y) (hS : ∀ k, S k → k < w.heap.size) (hg_0 : (imm (α := (List Str)) (⟨some ⟨0, 0, none⟩, 2, fun _ => ()⟩ : SR Unit) ([(⟨[65]⟩ : Str), (⟨[66]⟩ : Str)] : List Str)).φ S w) :
    Calls Tryd.prog 19 #[.string src0.ba] w (Post (β := (GoRep.R Layout)) S [] (fun g => .tuple #[.agg #[.slice g.1.a y.1.Stations.length g.1.cap, .slice g.2.1.a y.1.Points.length g.2.1.cap, .slice g.2.2.1.a y.1.Sections.length g.2.2.1.cap, .slice g.2.2.2.a y.1.Links.length g.2.2.2.cap], .int .i64 y.2.1, .int .i64 y.2.2]) (fun g => [trow 9 g.1 y.1.Stations, trow 9 g.2.1 y.1.Points, trow 57 g.2.2.1 y.1.Sections, trow 72 g.2.2.2 y.1.Links]) w) := by
  refine calls_cw (args := [_]) Tryd.func19 rfl ((pre_nil hS).start |>.factP (c := imm (α := (List Str)) (⟨some ⟨0, 0, none⟩, 2, fun _ => ()⟩ : SR Unit) ([(⟨[65]⟩ : Str), (⟨[66]⟩ : Str)] : List Str)) (fun _ h => False.elim h) hg_0) rfl ?_
  unfold layout_Parse_m at hM
  refine cw_seq fun K1 hK1 => ?_
  refine cw_region ?_
  refine ow_cons (st_alloc rfl (k := fun b1 => ?_))
  refine ow_ev ev_assign ?_
  refine ow_ev ev_assign ?_
  refine ow_nil (hK1 _ _ ?_); clear hK1
  refine cw_seq fun K2 hK2 => ?_
  refine cw_region ?_
  refine ow_ev ev_move ?_
  obtain ⟨y2, hy3, hM⟩ := bind_some hM
  refine ow_cons (st_callS SelL.nil (fun S w hs hP => words_Lines_spec _ w src0 y2 hy3 hs.lt )  (fun r4 => ?_))
  dsimp only [List.cons_append, List.nil_append]
  refine ow_ev ev_move ?_
  refine ow_ev (ev_extract (vs := [.slice r4.a y2.1.length r4.cap, .int .i64 y2.2.1, .int .i64 y2.2.2])) ?_
  refine ow_ev (ev_extract (vs := [.slice r4.a y2.1.length r4.cap, .int .i64 y2.2.1, .int .i64 y2.2.2])) ?_
  refine ow_ev (ev_extract (vs := [.slice r4.a y2.1.length r4.cap, .int .i64 y2.2.1, .int .i64 y2.2.2])) ?_
  refine ow_ev ev_assign ?_
  refine ow_ev ev_assign ?_
  refine ow_ev ev_assign ?_
  refine ow_nil (hK2 _ _ ?_); clear hK2
  refine cw_seq fun K3 hK3 => ?_
  refine cw_seq fun K4 hK4 => ?_
  refine cw_region ?_
  refine ow_ev ev_move ?_
  refine ow_ev ev_neq ?_
  refine ow_nil (hK4 _ _ ?_); clear hK4
  refine cw_cond rfl (fun hc5 => ?_) (fun hc5 => ?_)
  ·
    replace hM := (ite_t hc5).symm.trans hM
    refine cw_seq fun K5 hK5 => ?_
    refine cw_region ?_
    refine ow_ev (ev_build [.slice none 0 0, .slice none 0 0, .slice none 0 0, .slice none 0 0]) ?_
    refine ow_ev ev_move ?_
    refine ow_ev ev_move ?_
    refine ow_cons (st_store_all (b := b1) (vs := [.slice none 0 0, .slice none 0 0, .slice none 0 0, .slice none 0 0]) (k := ?_))
    refine ow_ev ev_assign ?_
    refine ow_ev ev_assign ?_
    refine ow_nil (hK5 _ _ ?_); clear hK5
    refine cw_imp (fun w hm => hm.row_nil (α := Str) 9 (fun _ => ())) ?_
    refine cw_imp (fun w hm => hm.row_nil (α := Str) 9 (fun _ => ())) ?_
    refine cw_imp (fun w hm => hm.row_nil (α := Section) 57 (fun _ => ())) ?_
    refine cw_imp (fun w hm => hm.row_nil (α := Link) 72 (fun _ => ())) ?_
    obtain rfl := some_inj hM
    refine cw_ret (kw_retc3 (fun w hm => post_of ((⟨none, 0, (fun _ => ())⟩ : SR (GoRep.R Str) ), (⟨none, 0, (fun _ => ())⟩ : SR (GoRep.R Str)  ), (⟨none, 0, (fun _ => ())⟩ : SR (GoRep.R Section)   ), (⟨none, 0, (fun _ => ())⟩ : SR (GoRep.R Link)    )) hm rfl))
  ·
    replace hM := (ite_f hc5).symm.trans hM
    refine cw_skip (hK3 _ _ ?_); clear hK3
    refine cw_seq fun K6 hK6 => ?_
    refine cw_region ?_
    refine ow_cons (st_alloc rfl (k := fun b10 => ?_))
    refine ow_nil (hK6 _ _ ?_); clear hK6
    refine cw_seq fun K7 hK7 => ?_
    refine cw_seq fun K8 hK8 => ?_
    refine cw_region ?_
    refine ow_ev ev_move ?_
    refine ow_have (fun w hm => Kn.len (Kn.trow (e := 79) (r := r4) (by repeat (first | exact Has.head | apply Has.tail))) hm) fun hl11 => ?_
    refine ow_ev ev_len ?_
    refine ow_ev ev_move ?_
    refine ow_nil (hK8 _ _ ?_); clear hK8
    refine cw_block ?_
    refine cw_imp (fun w hm => hm.row_nil (α := Str) 9 (fun _ => ())) ?_
    refine cw_imp (fun w hm => hm.row_nil (α := Str) 9 (fun _ => ())) ?_
    refine cw_imp (fun w hm => hm.row_nil (α := Section) 57 (fun _ => ())) ?_
    refine cw_imp (fun w hm => hm.row_nil (α := Link) 72 (fun _ => ())) ?_
    refine cw_imp (fun w hm => hm.row_nil (α := Str) 9 (fun _ => ())) ?_
    refine cw_imp (fun w hm => hm.row_nil (α := Str) 9 (fun _ => ())) ?_
    refine cw_imp (fun w hm => hm.row_nil (α := Section) 57 (fun _ => ())) ?_
    refine cw_imp (fun w hm => hm.row_nil (α := Link) 72 (fun _ => ())) ?_
    refine cw_loop (γ := Nat × ((List Str) × (List Str) × (List Section) × (List Link) × Nat) × ((SR (GoRep.R Str)) × (SR (GoRep.R Str)) × (SR (GoRep.R Section)) × (SR (GoRep.R Link)))) (env := fun (_, (ll_1_0, ll_1_1, ll_1_2, ll_1_3, t26_1), (rl_1_0, rl_1_1, rl_1_2, rl_1_3)) => [(2, .v (.pointer (some ⟨b1, 0, none⟩))), (8, .v (.pointer (some ⟨b10, 0, none⟩))), (24, .v (.slice r4.a y2.1.length r4.cap)), (25, .v (.int .i64 (y2.1.length : Int))), (26, .v (.int .i64 (t26_1 : Int)))]) (mem := fun (_, (ll_1_0, ll_1_1, ll_1_2, ll_1_3, t26_1), (rl_1_0, rl_1_1, rl_1_2, rl_1_3)) => [imm (α := (List Str)) (⟨some ⟨0, 0, none⟩, 2, fun _ => ()⟩ : SR Unit) ([(⟨[65]⟩ : Str), (⟨[66]⟩ : Str)] : List Str), trow 9 (⟨none, 0, (fun _ => ())⟩ : SR (GoRep.R Str)         ) ([] : List Str), trow 9 (⟨none, 0, (fun _ => ())⟩ : SR (GoRep.R Str)          ) ([] : List Str), trow 57 (⟨none, 0, (fun _ => ())⟩ : SR (GoRep.R Section)           ) ([] : List Section), trow 72 (⟨none, 0, (fun _ => ())⟩ : SR (GoRep.R Link)            ) ([] : List Link), own b1 26 [.slice (⟨none, 0, (fun _ => ())⟩ : SR (GoRep.R Str)         ).a (([] : List Str).length) (⟨none, 0, (fun _ => ())⟩ : SR (GoRep.R Str)         ).cap, .slice (⟨none, 0, (fun _ => ())⟩ : SR (GoRep.R Str)          ).a (([] : List Str).length) (⟨none, 0, (fun _ => ())⟩ : SR (GoRep.R Str)          ).cap, .slice (⟨none, 0, (fun _ => ())⟩ : SR (GoRep.R Section)           ).a (([] : List Section).length) (⟨none, 0, (fun _ => ())⟩ : SR (GoRep.R Section)           ).cap, .slice (⟨none, 0, (fun _ => ())⟩ : SR (GoRep.R Link)            ).a (([] : List Link).length) (⟨none, 0, (fun _ => ())⟩ : SR (GoRep.R Link)            ).cap], trow 9 rl_1_0 ll_1_0, trow 9 rl_1_1 ll_1_1, trow 57 rl_1_2 ll_1_2, trow 72 rl_1_3 ll_1_3, own b10 26 [.slice rl_1_0.a ll_1_0.length rl_1_0.cap, .slice rl_1_1.a ll_1_1.length rl_1_1.cap, .slice rl_1_2.a ll_1_2.length rl_1_2.cap, .slice rl_1_3.a ll_1_3.length rl_1_3.cap], trow 79 r4 y2.1]) (R := fun g => iter (layout_Parse_b1 y2) g.1 g.2.1 = some y) (μ := fun g => g.1) (FUEL, (([] : List Str), ([] : List Str), ([] : List Section), ([] : List Link), 0), ((⟨none, 0, (fun _ => ())⟩ : SR (GoRep.R Str)     ), (⟨none, 0, (fun _ => ())⟩ : SR (GoRep.R Str)      ), (⟨none, 0, (fun _ => ())⟩ : SR (GoRep.R Section)       ), (⟨none, 0, (fun _ => ())⟩ : SR (GoRep.R Link)        ))) hM ⟨rfl, rfl, rfl, rfl, rfl, trivial⟩ (fun w hm => hm.reord) ?_
    clear hM
    intro g hM KL1 hL1
    obtain ⟨nn1, ⟨ll_1_0, ll_1_1, ll_1_2, ll_1_3, t26_1⟩, ⟨rl_1_0, rl_1_1, rl_1_2, rl_1_3⟩⟩ := g
    dsimp only at hM ⊢
    obtain ⟨nn1, cont1, rfl, hcont1, hM⟩ := iter_open' hM
    dsimp only [layout_Parse_b1] at hM
    refine cw_seq fun K9 hK9 => ?_
    refine cw_region ?_
    refine ow_ev ev_lss ?_
    refine ow_nil (hK9 _ _ ?_); clear hK9
    refine cw_seq fun K10 hK10 => ?_
    refine cw_cond rfl (fun hc20 => ?_) (fun hc20 => ?_)
    ·
      replace hM := (ite_t hc20).symm.trans hM
      have hc20d := of_decide_eq_true hc20
      refine cw_skip (hK10 _ _ ?_); clear hK10
      refine cw_seq fun K11 hK11 => ?_
      refine cw_block ?_
      refine cw_seq fun K12 hK12 => ?_
      refine cw_region ?_
      obtain ⟨x21, hx22, hM⟩ := bind_some hM
      refine ow_ev (ev_idx (xs := y2.1) 1 (Kn.trow (e := 79) (r := r4) (by repeat (first | exact Has.head | apply Has.tail))) (fun hg => let h := idx_some hx22; ⟨h.1, h.2.1⟩)) ?_
      refine ow_ev (ev_ld (i := (t26_1 : Int)) (xs := y2.1) (y := x21) 0 (Kn.trow (e := 79) (r := r4) (by repeat (first | exact Has.head | apply Has.tail))) (fun _ => hx22)) ?_
      refine ow_ev ev_assign ?_
      refine ow_nil (hK12 _ _ ?_); clear hK12
      refine cw_seq fun K13 hK13 => ?_
      refine cw_region ?_
      refine ow_ev ev_move ?_
      obtain ⟨y23, hy24, hM⟩ := bind_some hM
      refine ow_cons (st_callF (by repeat (first | exact SelL.nil | (apply SelL.cons; · (repeat (first | exact Sel.head | apply Sel.tail))))) (fun S w hs hP => layout_declare_spec _ w b10 (Layout.mk ll_1_0 ll_1_1 ll_1_2 ll_1_3) (rl_1_0, rl_1_1, rl_1_2, rl_1_3) x21 (r4.es (t26_1 : Int).toNat) y23 hy24 hP (Kn.lend ((Sk.row (e := 79) (r := r4) (by repeat (first | exact Has.head | apply Has.tail)) hx22)).kn hs) (Chunk.mono _ _ _ _ (fun _ h => .inl h) (((by repeat (first | exact Has.head | apply Has.tail)) : Has _ (imm (α := (List Str)) (⟨some ⟨0, 0, none⟩, 2, fun _ => ()⟩ : SR Unit) ([(⟨[65]⟩ : Str), (⟨[66]⟩ : Str)] : List Str))).φ hs))) (by intro r c hc; simp only [List.mem_cons, List.not_mem_nil, or_false] at hc; rcases hc with rfl | rfl | rfl | rfl | rfl <;> first | exact flatC_own | exact flatC_trow (fun _ _ _ _ => trivial)) (fun r25 => ?_))
      dsimp only [List.cons_append, List.nil_append]
      refine ow_ev ev_assign ?_
      refine ow_nil (hK13 _ _ ?_); clear hK13
      refine cw_seq fun K14 hK14 => ?_
      refine cw_region ?_
      refine ow_ev ev_move ?_
      refine ow_ev ev_neq ?_
      refine ow_nil (hK14 _ _ ?_); clear hK14
      refine cw_cond rfl (fun hc26 => ?_) (fun hc26 => ?_)
      ·
        replace hM := (ite_t hc26).symm.trans hM
        refine cw_seq fun K15 hK15 => ?_
        refine cw_region_any [own b10 26 [.slice r25.1.a y23.2.1.length r25.1.cap, .slice r25.2.1.a y23.2.2.1.length r25.2.1.cap, .slice r25.2.2.1.a y23.2.2.2.1.length r25.2.2.1.cap, .slice r25.2.2.2.a y23.2.2.2.2.length r25.2.2.2.cap], trow 9 r25.1 y23.2.1, trow 9 r25.2.1 y23.2.2.1, trow 57 r25.2.2.1 y23.2.2.2.1, trow 72 r25.2.2.2 y23.2.2.2.2, imm (α := (List Str)) (⟨some ⟨0, 0, none⟩, 2, fun _ => ()⟩ : SR Unit) ([(⟨[65]⟩ : Str), (⟨[66]⟩ : Str)] : List Str), trow 9 (⟨none, 0, (fun _ => ())⟩ : SR (GoRep.R Str)         ) ([] : List Str), trow 9 (⟨none, 0, (fun _ => ())⟩ : SR (GoRep.R Str)          ) ([] : List Str), trow 57 (⟨none, 0, (fun _ => ())⟩ : SR (GoRep.R Section)           ) ([] : List Section), trow 72 (⟨none, 0, (fun _ => ())⟩ : SR (GoRep.R Link)            ) ([] : List Link), trow 79 r4 y2.1] (by repeat (first | exact List.Sublist.refl _ | apply List.Sublist.cons_cons | apply List.Sublist.cons)) ?_
        refine aw_ev 0 rfl (ev_build [.slice none 0 0, .slice none 0 0, .slice none 0 0, .slice none 0 0]) ?_
        refine aw_ev 1 rfl ev_move ?_
        obtain ⟨x27, hx28, hM⟩ := bind_some hM
        refine aw_ev 2 rfl (ev_idx (xs := x21) 3 ((Sk.row (e := 79) (r := r4) (by repeat (first | exact Has.head | apply Has.tail)) hx22)).kn (fun hg => let h := idx_some hx28; ⟨h.1, h.2.1⟩)) ?_
        refine aw_ev 3 rfl (ev_field_addr 1) ?_
        refine aw_ev 4 rfl (ev_ld (i := 0) (xs := x21) (y := x27) 1 ((Sk.row (e := 79) (r := r4) (by repeat (first | exact Has.head | apply Has.tail)) hx22)).kn (fun _ => hx28)) ?_
        refine aw_ev 5 rfl ev_move ?_
        refine aw_one 6 rfl (st_store_all (b := b1) (vs := [.slice none 0 0, .slice none 0 0, .slice none 0 0, .slice none 0 0]) (k := ⟨fun w hm => hm.sub (by repeat (first | exact List.Sublist.refl _ | apply List.Sublist.cons_cons | apply List.Sublist.cons)), ?_⟩))
        refine aw_ev 7 rfl ev_assign ?_
        refine aw_ev 8 rfl ev_assign ?_
        refine aw_done (hK15 _ _ ?_); clear hK15
        refine cw_imp (fun w hm => hm.row_nil (α := Str) 9 (fun _ => ())) ?_
        refine cw_imp (fun w hm => hm.row_nil (α := Str) 9 (fun _ => ())) ?_
        refine cw_imp (fun w hm => hm.row_nil (α := Section) 57 (fun _ => ())) ?_
        refine cw_imp (fun w hm => hm.row_nil (α := Link) 72 (fun _ => ())) ?_
        obtain rfl := some_inj hM
        refine cw_ret (kw_retc3 (fun w hm => post_of ((⟨none, 0, (fun _ => ())⟩ : SR (GoRep.R Str)                                             ), (⟨none, 0, (fun _ => ())⟩ : SR (GoRep.R Str)                                              ), (⟨none, 0, (fun _ => ())⟩ : SR (GoRep.R Section)                                               ), (⟨none, 0, (fun _ => ())⟩ : SR (GoRep.R Link)                                                )) hm rfl))
      ·
        replace hM := (ite_f hc26).symm.trans hM
        refine cw_skip (hK11 _ _ ?_); clear hK11
        refine cw_region ?_
        refine ow_ev (ev_add (hr := fun _ => by unfold I64; omega)) ?_
        refine ow_ev ev_move ?_
        refine ow_nil (hL1 (nn1, (y23.2.1, y23.2.2.1, y23.2.2.2.1, y23.2.2.2.2, t26_1 + 1), (r25.1, r25.2.1, r25.2.2.1, r25.2.2.2)) _ _ (eqc hcont1 hM) (Nat.lt_succ_self _) ⟨rfl, rfl, rfl, rfl, rfl, trivial⟩ (fun w hm => hm.reord))
    ·
      replace hM := (ite_f hc20).symm.trans hM
      refine cw_exit (hK7 _ _ ?_); clear hK7
      dsimp only [layout_Parse_k1] at hM
      refine cw_seq fun K16 hK16 => ?_
      refine cw_seq fun K17 hK17 => ?_
      refine cw_region ?_
      refine ow_ev (ev_load_all (b := b10)) ?_
      obtain ⟨y33, hy34, hM⟩ := bind_some hM
      refine ow_cons (st_callv (fun w hm => let ⟨S, hs⟩ := hm; layout_Check_spec _ w (Layout.mk ll_1_0 ll_1_1 ll_1_2 ll_1_3) (rl_1_0, rl_1_1, rl_1_2, rl_1_3) y33 hy34 (lend_lt hs) ⟨(Kn.lend (Kn.trow (e := 9) (r := rl_1_0) (by repeat (first | exact Has.head | apply Has.tail))) hs), (Kn.lend (Kn.trow (e := 9) (r := rl_1_1) (by repeat (first | exact Has.head | apply Has.tail))) hs), (Kn.lend (Kn.trow (e := 57) (r := rl_1_2) (by repeat (first | exact Has.head | apply Has.tail))) hs), (Kn.lend (Kn.trow (e := 72) (r := rl_1_3) (by repeat (first | exact Has.head | apply Has.tail))) hs)⟩) ?_)
      refine ow_ev ev_assign ?_
      refine ow_nil (hK17 _ _ ?_); clear hK17
      refine cw_seq fun K18 hK18 => ?_
      refine cw_region ?_
      refine ow_ev ev_move ?_
      refine ow_ev ev_neq ?_
      refine ow_nil (hK18 _ _ ?_); clear hK18
      refine cw_cond rfl (fun hc35 => ?_) (fun hc35 => ?_)
      ·
        replace hM := (ite_t hc35).symm.trans hM
        refine cw_seq fun K19 hK19 => ?_
        refine cw_region ?_
        refine ow_ev (ev_build [.slice none 0 0, .slice none 0 0, .slice none 0 0, .slice none 0 0]) ?_
        refine ow_ev ev_move ?_
        refine ow_cons (st_store_all (b := b1) (vs := [.slice none 0 0, .slice none 0 0, .slice none 0 0, .slice none 0 0]) (k := ?_))
        refine ow_ev ev_assign ?_
        refine ow_ev ev_assign ?_
        refine ow_nil (hK19 _ _ ?_); clear hK19
        refine cw_imp (fun w hm => hm.row_nil (α := Str) 9 (fun _ => ())) ?_
        refine cw_imp (fun w hm => hm.row_nil (α := Str) 9 (fun _ => ())) ?_
        refine cw_imp (fun w hm => hm.row_nil (α := Section) 57 (fun _ => ())) ?_
        refine cw_imp (fun w hm => hm.row_nil (α := Link) 72 (fun _ => ())) ?_
        obtain rfl := some_inj hM
        refine cw_ret (kw_retc3 (fun w hm => post_of ((⟨none, 0, (fun _ => ())⟩ : SR (GoRep.R Str)                                                 ), (⟨none, 0, (fun _ => ())⟩ : SR (GoRep.R Str)                                                  ), (⟨none, 0, (fun _ => ())⟩ : SR (GoRep.R Section)                                                   ), (⟨none, 0, (fun _ => ())⟩ : SR (GoRep.R Link)                                                    )) hm rfl))
      ·
        replace hM := (ite_f hc35).symm.trans hM
        refine cw_skip (hK16 _ _ ?_); clear hK16
        refine cw_seq fun K20 hK20 => ?_
        refine cw_region ?_
        refine ow_ev (ev_load_all (b := b10)) ?_
        refine ow_cons (st_store_all (b := b1) (vs := [.slice rl_1_0.a ll_1_0.length rl_1_0.cap, .slice rl_1_1.a ll_1_1.length rl_1_1.cap, .slice rl_1_2.a ll_1_2.length rl_1_2.cap, .slice rl_1_3.a ll_1_3.length rl_1_3.cap]) (k := ?_))
        refine ow_ev ev_assign ?_
        refine ow_ev ev_assign ?_
        refine ow_nil (hK20 _ _ ?_); clear hK20
        obtain rfl := some_inj hM
        refine cw_ret (kw_retc3 (fun w hm => post_of (rl_1_0, rl_1_1, rl_1_2, rl_1_3) hm rfl))

end Go.Proofs.YtohhihdjdelckaaDoor
