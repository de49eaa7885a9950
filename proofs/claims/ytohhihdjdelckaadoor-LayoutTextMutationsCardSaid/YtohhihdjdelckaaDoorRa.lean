/- Models of functions, and that the code computes them. -/
import Derived.Test.YtohhihdjdelckaaDoorWe
namespace Go.Proofs.YtohhihdjdelckaaDoor
open Go.Dc Go.RowKit
set_option maxRecDepth 10000
set_option linter.unusedVariables false
def ref1_sectionNames_k1 (lout_1 : List Str) : Unit → Option (List Str) := fun _ =>
  some lout_1
def ref1_sectionNames_b1 (l0 : Layout) (cont1 : ((List Str) × Nat) → Option (List Str)) : ((List Str) × Nat) → Option (List Str) := fun (lout_1, i_1) =>
  if decide ((i_1 : Int) < (l0.Sections.length : Int)) then
    ((idx l0.Sections (i_1 : Int)).bind fun x4 =>
    chk (decide ((lout_1.length + ([x4.Name] : List Str).length) * 16 ≤ 140737488355328)) <|
    chk (i64b ((i_1 : Int) + 1)) <|
    cont1 ((lout_1 ++ ([x4.Name] : List Str)), i_1 + 1))
  else
    (ref1_sectionNames_k1 lout_1 ())
def ref1_sectionNames_m (l0 : Layout) : Option (List Str) :=
  iter (ref1_sectionNames_b1 l0) FUEL (([] : List Str), 0)
theorem ref1_sectionNames_spec (S : Soup) (w : World) (l0 : Layout) (r_l0 : GoRep.R Layout) (y : (List Str)) (hM : ref1_sectionNames_m l0 = some y) (hS : ∀ k, S k → k < w.heap.size) (h_l0 : GoRep.ok S w r_l0 l0) :
    Calls Tryd.prog 50 #[.agg #[.slice r_l0.1.a l0.Stations.length r_l0.1.cap, .slice r_l0.2.1.a l0.Points.length r_l0.2.1.cap, .slice r_l0.2.2.1.a l0.Sections.length r_l0.2.2.1.cap, .slice r_l0.2.2.2.a l0.Links.length r_l0.2.2.2.cap]] w (Post (β := (GoRep.R (List Str))) S [] (fun g => .slice g.a y.length g.cap) (fun g => [trow 9 g y]) w) := by
  refine calls_cw (args := [_]) Tryd.func50 rfl ((pre_nil hS).start |>.immP (α := List Str) (r := r_l0.1) (x := l0.Stations) h_l0.1|>.immP (α := List Str) (r := r_l0.2.1) (x := l0.Points) h_l0.2.1|>.immP (α := List Section) (r := r_l0.2.2.1) (x := l0.Sections) h_l0.2.2.1|>.immP (α := List Link) (r := r_l0.2.2.2) (x := l0.Links) h_l0.2.2.2) rfl ?_
  unfold ref1_sectionNames_m at hM
  refine cw_seq fun K1 hK1 => ?_
  refine cw_region ?_
  refine ow_cons (st_box (l := [.slice r_l0.1.a l0.Stations.length r_l0.1.cap, .slice r_l0.2.1.a l0.Points.length r_l0.2.1.cap, .slice r_l0.2.2.1.a l0.Sections.length r_l0.2.2.1.cap, .slice r_l0.2.2.2.a l0.Links.length r_l0.2.2.2.cap]) (k := fun b1 => ?_))
  refine ow_ev ev_assign ?_
  refine ow_nil (hK1 _ _ ?_); clear hK1
  refine cw_seq fun K2 hK2 => ?_
  refine cw_region ?_
  refine ow_ev ev_assign ?_
  refine ow_nil (hK2 _ _ ?_); clear hK2
  refine cw_seq fun K3 hK3 => ?_
  refine cw_seq fun K4 hK4 => ?_
  refine cw_region ?_
  refine ow_ev ev_assign ?_
  refine ow_nil (hK4 _ _ ?_); clear hK4
  refine cw_block ?_
  refine cw_imp (fun w hm => hm.row_nil (α := Str) 9 (fun _ => ())) ?_
  refine cw_loop (γ := Nat × ((List Str) × Nat) × (SR (GoRep.R Str))) (env := fun (_, (lout_1, i_1), rout_1) => [(1, .v (.pointer (some ⟨b1, 0, none⟩))), (3, .v (.slice rout_1.a lout_1.length rout_1.cap)), (4, .v (.int .i64 (i_1 : Int)))]) (mem := fun (_, (lout_1, i_1), rout_1) => [imm (α := (List Str)) r_l0.1 l0.Stations, imm (α := (List Str)) r_l0.2.1 l0.Points, imm (α := (List Section)) r_l0.2.2.1 l0.Sections, imm (α := (List Link)) r_l0.2.2.2 l0.Links, own b1 26 [.slice r_l0.1.a l0.Stations.length r_l0.1.cap, .slice r_l0.2.1.a l0.Points.length r_l0.2.1.cap, .slice r_l0.2.2.1.a l0.Sections.length r_l0.2.2.1.cap, .slice r_l0.2.2.2.a l0.Links.length r_l0.2.2.2.cap], trow 9 rout_1 lout_1]) (R := fun g => iter (ref1_sectionNames_b1 l0) g.1 g.2.1 = some y) (μ := fun g => g.1) (FUEL, (([] : List Str), 0), (⟨none, 0, (fun _ => ())⟩ : SR (GoRep.R Str) )) hM ⟨rfl, rfl, rfl, trivial⟩ (fun w hm => hm.reord) ?_
  clear hM
  intro g hM KL1 hL1
  obtain ⟨nn1, ⟨lout_1, i_1⟩, rout_1⟩ := g
  dsimp only at hM ⊢
  obtain ⟨nn1, cont1, rfl, hcont1, hM⟩ := iter_open' hM
  dsimp only [ref1_sectionNames_b1] at hM
  refine cw_seq fun K5 hK5 => ?_
  refine cw_seq fun K6 hK6 => ?_
  refine cw_region ?_
  refine ow_ev ev_move ?_
  refine ow_ev (ev_field_addr 2) ?_
  refine ow_ev (ev_load_own (b := b1)) ?_
  refine ow_ev ev_len ?_
  refine ow_ev ev_lss ?_
  refine ow_nil (hK6 _ _ ?_); clear hK6
  refine cw_cond rfl (fun hc3 => ?_) (fun hc3 => ?_)
  ·
    replace hM := (ite_t hc3).symm.trans hM
    refine cw_skip (hK5 _ _ ?_); clear hK5
    refine cw_seq fun K7 hK7 => ?_
    refine cw_block ?_
    refine cw_region ?_
    refine ow_ev ev_move ?_
    refine ow_ev (ev_field_addr 2) ?_
    refine ow_ev (ev_load_own (b := b1)) ?_
    refine ow_ev ev_move ?_
    obtain ⟨x4, hx5, hM⟩ := bind_some hM
    refine ow_ev (ev_idx (xs := l0.Sections) 5 (Kn.imm (α := List Section) (r := r_l0.2.2.1) (x := l0.Sections) (by repeat (first | exact Has.head | apply Has.tail))) (fun hg => let h := idx_some hx5; ⟨h.1, h.2.1⟩)) ?_
    refine ow_ev (ev_field_addr 0) ?_
    refine ow_ev (ev_ld (i := (i_1 : Int)) (xs := l0.Sections) (y := x4) 0 (Kn.imm (α := List Section) (r := r_l0.2.2.1) (x := l0.Sections) (by repeat (first | exact Has.head | apply Has.tail))) (fun _ => hx5)) ?_
    refine ow_cons (st_bslice (α := Str) 9 (fun _ => ()) ([x4.Name] : List Str) (OkL.flat (fun _ _ _ _ => trivial)) (fun r6 => ?_))
    obtain ⟨hb8, hM⟩ := chk_some hM
    refine ow_cons (st_append (r := rout_1) (r2 := r6) (by intro r'; repeat (first | exact Upd.head | apply Upd.tail)) (Kn.trow (e := 9) (r := r6) (by repeat (first | exact Has.head | apply Has.tail))) (OkL.flat (fun _ _ _ _ => trivial)) (of_decide_eq_true hb8) (fun r7 => ?_))
    refine ow_ev ev_assign ?_
    refine ow_nil (hK7 _ _ ?_); clear hK7
    refine cw_region ?_
    refine ow_ev ev_move ?_
    obtain ⟨hI9, hM⟩ := chk_some hM
    refine ow_ev (ev_add (hr := fun hg => i64b_I64 hI9)) ?_
    refine ow_ev ev_assign ?_
    refine ow_nil (hL1 (nn1, ((lout_1 ++ ([x4.Name] : List Str)), i_1 + 1), r7) _ _ (eqc hcont1 hM) (Nat.lt_succ_self _) ⟨rfl, rfl, rfl, trivial⟩ (fun w hm => hm.reord))
  ·
    replace hM := (ite_f hc3).symm.trans hM
    refine cw_exit (hK3 _ _ ?_); clear hK3
    dsimp only [ref1_sectionNames_k1] at hM
    refine cw_seq fun K8 hK8 => ?_
    refine cw_region ?_
    refine ow_ev ev_move ?_
    refine ow_ev ev_assign ?_
    refine ow_nil (hK8 _ _ ?_); clear hK8
    obtain rfl := some_inj hM
    refine cw_ret (kw_retc1 (fun w hm => post_of rout_1 hm rfl))

def ref1_Place_k1 : Unit → Option Int := fun _ =>
  some (-1)
def ref1_Place_b1 (l0 : List Str) (s0 : Str) (cont1 : Nat → Option Int) : Nat → Option Int := fun i_1 =>
  if decide ((i_1 : Int) < (l0.length : Int)) then
    ((idx l0 (i_1 : Int)).bind fun x2 =>
    if decide (x2 = s0) then
      (some (i_1 : Int))
    else
      (chk (i64b ((i_1 : Int) + 1)) <|
      cont1 (i_1 + 1)))
  else
    (ref1_Place_k1 ())
def ref1_Place_m (l0 : List Str) (s0 : Str) : Option Int :=
  iter (ref1_Place_b1 l0 s0) FUEL 0
theorem ref1_Place_spec (S : Soup) (w : World) (l0 : List Str) (r_l0 : GoRep.R (List Str)) (s0 : Str) (y : Int) (hM : ref1_Place_m l0 s0 = some y) (hS : ∀ k, S k → k < w.heap.size) (h_l0 : GoRep.ok S w r_l0 l0) :
    Calls Tryd.prog 100 #[.slice r_l0.a l0.length r_l0.cap, .string s0.ba] w (Ret w (.int .i64 y)) := by
  refine calls_cw (args := [_, _]) Tryd.func100 rfl ((pre_nil hS).start |>.immP (α := List Str) (r := r_l0) (x := l0) h_l0) rfl ?_
  unfold ref1_Place_m at hM
  refine cw_seq fun K1 hK1 => ?_
  refine cw_region ?_
  refine ow_ev ev_assign ?_
  refine ow_nil (hK1 _ _ ?_); clear hK1
  refine cw_seq fun K2 hK2 => ?_
  refine cw_seq fun K3 hK3 => ?_
  refine cw_region ?_
  refine ow_ev ev_assign ?_
  refine ow_nil (hK3 _ _ ?_); clear hK3
  refine cw_block ?_
  refine cw_loop (γ := Nat × Nat × Unit) (env := fun (_, i_1, _) => [(0, .v (.slice r_l0.a l0.length r_l0.cap)), (1, .v (.string s0.ba)), (5, .v (.int .i64 (i_1 : Int)))]) (mem := fun (_, i_1, _) => [imm (α := (List Str)) r_l0 l0]) (R := fun g => iter (ref1_Place_b1 l0 s0) g.1 g.2.1 = some y) (μ := fun g => g.1) (FUEL, 0, ()) hM ⟨rfl, rfl, rfl, trivial⟩ (fun w hm => hm.reord) ?_
  clear hM
  intro g hM KL1 hL1
  obtain ⟨nn1, i_1, ⟨⟩⟩ := g
  dsimp only at hM ⊢
  obtain ⟨nn1, cont1, rfl, hcont1, hM⟩ := iter_open' hM
  dsimp only [ref1_Place_b1] at hM
  refine cw_seq fun K4 hK4 => ?_
  refine cw_seq fun K5 hK5 => ?_
  refine cw_region ?_
  refine ow_ev ev_move ?_
  refine ow_ev ev_move ?_
  refine ow_ev ev_len ?_
  refine ow_ev ev_lss ?_
  refine ow_nil (hK5 _ _ ?_); clear hK5
  refine cw_cond rfl (fun hc1 => ?_) (fun hc1 => ?_)
  ·
    replace hM := (ite_t hc1).symm.trans hM
    refine cw_skip (hK4 _ _ ?_); clear hK4
    refine cw_seq fun K6 hK6 => ?_
    refine cw_block ?_
    refine cw_seq fun K7 hK7 => ?_
    refine cw_region ?_
    refine ow_ev ev_move ?_
    refine ow_ev ev_move ?_
    obtain ⟨x2, hx3, hM⟩ := bind_some hM
    refine ow_ev (ev_idx (xs := l0) 1 (Kn.imm (α := List Str) (r := r_l0) (x := l0) (by repeat (first | exact Has.head | apply Has.tail))) (fun hg => let h := idx_some hx3; ⟨h.1, h.2.1⟩)) ?_
    refine ow_ev (ev_ld (i := (i_1 : Int)) (xs := l0) (y := x2) 0 (Kn.imm (α := List Str) (r := r_l0) (x := l0) (by repeat (first | exact Has.head | apply Has.tail))) (fun _ => hx3)) ?_
    refine ow_ev ev_move ?_
    refine ow_ev ev_str_eql ?_
    refine ow_nil (hK7 _ _ ?_); clear hK7
    refine cw_cond rfl (fun hc4 => ?_) (fun hc4 => ?_)
    ·
      replace hM := (ite_t hc4).symm.trans hM
      refine cw_seq fun K8 hK8 => ?_
      refine cw_region ?_
      refine ow_ev ev_move ?_
      refine ow_ev ev_assign ?_
      refine ow_nil (hK8 _ _ ?_); clear hK8
      obtain rfl := some_inj hM
      refine cw_ret (kw_retc1 (fun w hm => ret_of hm rfl))
    ·
      replace hM := (ite_f hc4).symm.trans hM
      refine cw_skip (hK6 _ _ ?_); clear hK6
      refine cw_region ?_
      refine ow_ev ev_move ?_
      obtain ⟨hI5, hM⟩ := chk_some hM
      refine ow_ev (ev_add (hr := fun hg => i64b_I64 hI5)) ?_
      refine ow_ev ev_assign ?_
      refine ow_nil (hL1 (nn1, (i_1 + 1), ()) _ _ (eqc hcont1 hM) (Nat.lt_succ_self _) ⟨rfl, rfl, rfl, trivial⟩ (fun w hm => hm.reord))
  ·
    replace hM := (ite_f hc1).symm.trans hM
    refine cw_exit (hK2 _ _ ?_); clear hK2
    dsimp only [ref1_Place_k1] at hM
    refine cw_seq fun K9 hK9 => ?_
    refine cw_region ?_
    refine ow_ev ev_assign ?_
    refine ow_nil (hK9 _ _ ?_); clear hK9
    obtain rfl := some_inj hM
    refine cw_ret (kw_retc1 (fun w hm => ret_of hm rfl))

def ref1_declareSection_k1 (l0 : Layout) (x16 : Word) (y3 : Int × Bool) (y7 : Int × Bool) (y11 : Int × Bool) : Int → Option (Int × (List Section)) := fun s_j1_4 =>
  chk (decide ((l0.Sections.length + ([(Section.mk x16.Text y3.1 y7.1 y11.1 s_j1_4)] : List Section).length) * 48 ≤ 140737488355328)) <|
  some (0, (l0.Sections ++ ([(Section.mk x16.Text y3.1 y7.1 y11.1 s_j1_4)] : List Section)))
def ref1_declareSection_m (l0 : Layout) (p1 : List Word) : Option (Int × (List Section)) :=
  (idx p1 2).bind fun x1 =>
  (ref1_Number_m x1.Text).bind fun y3 =>
  (idx p1 3).bind fun x5 =>
  (ref1_Number_m x5.Text).bind fun y7 =>
  (idx p1 4).bind fun x9 =>
  (ref1_Number_m x9.Text).bind fun y11 =>
  (whn ((!(((!y3.2) || (!y7.2)) || (!y11.2))) && decide ((p1.length : Int) = 7)) default (idx p1 5)).bind fun x13 =>
  if ((((!y3.2) || (!y7.2)) || (!y11.2)) || (decide ((p1.length : Int) = 7) && (!decide (x13.Text = (⟨[97, 116]⟩ : Str))))) then
    (some (2, l0.Sections))
  else
    ((idx p1 1).bind fun x16 =>
    if decide ((p1.length : Int) = 7) then
      ((idx p1 6).bind fun x23 =>
      (ref1_Place_m l0.Stations x23.Text).bind fun y25 =>
      if decide (y25 < 0) then
        (some (3, l0.Sections))
      else
        (ref1_declareSection_k1 l0 x16 y3 y7 y11 y25))
    else
      (ref1_declareSection_k1 l0 x16 y3 y7 y11 (-1)))
theorem ref1_declareSection_spec (S : Soup) (w : World) (b_l0 : Nat) (l0 : Layout) (r_l0 : GoRep.R Layout) (p1 : List Word) (r_p1 : GoRep.R (List Word)) (y : Int × (List Section)) (hM : ref1_declareSection_m l0 p1 = some y) (hP : Pre S [own b_l0 26 [.slice r_l0.1.a l0.Stations.length r_l0.1.cap, .slice r_l0.2.1.a l0.Points.length r_l0.2.1.cap, .slice r_l0.2.2.1.a l0.Sections.length r_l0.2.2.1.cap, .slice r_l0.2.2.2.a l0.Links.length r_l0.2.2.2.cap], trow 9 r_l0.1 l0.Stations, trow 9 r_l0.2.1 l0.Points, trow 57 r_l0.2.2.1 l0.Sections, trow 72 r_l0.2.2.2 l0.Links] w) (h_p1 : GoRep.ok S w r_p1 p1) :
    Calls Tryd.prog 84 #[.pointer (some ⟨b_l0, 0, none⟩), .slice r_p1.a p1.length r_p1.cap] w (Post (β := (SR (GoRep.R Section))) S [own b_l0 26 [.slice r_l0.1.a l0.Stations.length r_l0.1.cap, .slice r_l0.2.1.a l0.Points.length r_l0.2.1.cap, .slice r_l0.2.2.1.a l0.Sections.length r_l0.2.2.1.cap, .slice r_l0.2.2.2.a l0.Links.length r_l0.2.2.2.cap], trow 9 r_l0.1 l0.Stations, trow 9 r_l0.2.1 l0.Points, trow 57 r_l0.2.2.1 l0.Sections, trow 72 r_l0.2.2.2 l0.Links] (fun g => .int .i64 y.1) (fun g => [own b_l0 26 [.slice r_l0.1.a l0.Stations.length r_l0.1.cap, .slice r_l0.2.1.a l0.Points.length r_l0.2.1.cap, .slice g.a y.2.length g.cap, .slice r_l0.2.2.2.a l0.Links.length r_l0.2.2.2.cap], trow 9 r_l0.1 l0.Stations, trow 9 r_l0.2.1 l0.Points, trow 57 g y.2, trow 72 r_l0.2.2.2 l0.Links]) w) := by
  refine calls_cw (args := [_, _]) Tryd.func84 rfl (hP.start |>.immP (α := List Word) (r := r_p1) (x := p1) h_p1) rfl ?_
  unfold ref1_declareSection_m at hM
  refine cw_seq fun K1 hK1 => ?_
  refine cw_region ?_
  refine ow_ev ev_assign ?_
  refine ow_nil (hK1 _ _ ?_); clear hK1
  refine cw_seq fun K2 hK2 => ?_
  refine cw_region ?_
  refine ow_ev ev_move ?_
  obtain ⟨x1, hx2, hM⟩ := bind_some hM
  refine ow_ev (ev_idx (xs := p1) 3 (Kn.imm (α := List Word) (r := r_p1) (x := p1) (by repeat (first | exact Has.head | apply Has.tail))) (fun hg => let h := idx_some hx2; ⟨h.1, h.2.1⟩)) ?_
  refine ow_ev (ev_field_addr 0) ?_
  refine ow_ev (ev_ld (i := 2) (xs := p1) (y := x1) 0 (Kn.imm (α := List Word) (r := r_p1) (x := p1) (by repeat (first | exact Has.head | apply Has.tail))) (fun _ => hx2)) ?_
  obtain ⟨y3, hy4, hM⟩ := bind_some hM
  refine ow_cons (st_callv (fun w hm => let ⟨S, hs⟩ := hm; ref1_Number_spec _ w x1.Text y3 hy4 (lend_lt hs) ) ?_)
  refine ow_ev ev_move ?_
  refine ow_ev (ev_extract (vs := [.int .i64 y3.1, .bool y3.2])) ?_
  refine ow_ev (ev_extract (vs := [.int .i64 y3.1, .bool y3.2])) ?_
  refine ow_ev ev_assign ?_
  refine ow_ev ev_assign ?_
  refine ow_nil (hK2 _ _ ?_); clear hK2
  refine cw_seq fun K3 hK3 => ?_
  refine cw_region ?_
  refine ow_ev ev_move ?_
  obtain ⟨x5, hx6, hM⟩ := bind_some hM
  refine ow_ev (ev_idx (xs := p1) 3 (Kn.imm (α := List Word) (r := r_p1) (x := p1) (by repeat (first | exact Has.head | apply Has.tail))) (fun hg => let h := idx_some hx6; ⟨h.1, h.2.1⟩)) ?_
  refine ow_ev (ev_field_addr 0) ?_
  refine ow_ev (ev_ld (i := 3) (xs := p1) (y := x5) 0 (Kn.imm (α := List Word) (r := r_p1) (x := p1) (by repeat (first | exact Has.head | apply Has.tail))) (fun _ => hx6)) ?_
  obtain ⟨y7, hy8, hM⟩ := bind_some hM
  refine ow_cons (st_callv (fun w hm => let ⟨S, hs⟩ := hm; ref1_Number_spec _ w x5.Text y7 hy8 (lend_lt hs) ) ?_)
  refine ow_ev ev_move ?_
  refine ow_ev (ev_extract (vs := [.int .i64 y7.1, .bool y7.2])) ?_
  refine ow_ev (ev_extract (vs := [.int .i64 y7.1, .bool y7.2])) ?_
  refine ow_ev ev_assign ?_
  refine ow_ev ev_assign ?_
  refine ow_nil (hK3 _ _ ?_); clear hK3
  refine cw_seq fun K4 hK4 => ?_
  refine cw_region ?_
  refine ow_ev ev_move ?_
  obtain ⟨x9, hx10, hM⟩ := bind_some hM
  refine ow_ev (ev_idx (xs := p1) 3 (Kn.imm (α := List Word) (r := r_p1) (x := p1) (by repeat (first | exact Has.head | apply Has.tail))) (fun hg => let h := idx_some hx10; ⟨h.1, h.2.1⟩)) ?_
  refine ow_ev (ev_field_addr 0) ?_
  refine ow_ev (ev_ld (i := 4) (xs := p1) (y := x9) 0 (Kn.imm (α := List Word) (r := r_p1) (x := p1) (by repeat (first | exact Has.head | apply Has.tail))) (fun _ => hx10)) ?_
  obtain ⟨y11, hy12, hM⟩ := bind_some hM
  refine ow_cons (st_callv (fun w hm => let ⟨S, hs⟩ := hm; ref1_Number_spec _ w x9.Text y11 hy12 (lend_lt hs) ) ?_)
  refine ow_ev ev_move ?_
  refine ow_ev (ev_extract (vs := [.int .i64 y11.1, .bool y11.2])) ?_
  refine ow_ev (ev_extract (vs := [.int .i64 y11.1, .bool y11.2])) ?_
  refine ow_ev ev_assign ?_
  refine ow_ev ev_assign ?_
  refine ow_nil (hK4 _ _ ?_); clear hK4
  refine cw_seq fun K5 hK5 => ?_
  refine cw_seq fun K6 hK6 => ?_
  refine cw_region ?_
  refine ow_ev ev_move ?_
  refine ow_ev ev_not ?_
  refine ow_ev ev_move ?_
  refine ow_evg rfl ev_move ?_
  refine ow_evg rfl ev_not ?_
  refine ow_ev ev_or ?_
  refine ow_ev ev_move ?_
  refine ow_evg rfl ev_move ?_
  refine ow_evg rfl ev_not ?_
  refine ow_ev ev_or ?_
  refine ow_ev ev_move ?_
  refine ow_evg rfl ev_move ?_
  refine ow_evg rfl ev_len ?_
  refine ow_evg rfl ev_eql ?_
  refine ow_evg rfl ev_move ?_
  refine ow_evg rfl ev_move ?_
  obtain ⟨x13, hx14, hM⟩ := bind_some hM
  refine ow_evg rfl (ev_idx (xs := p1) 3 (Kn.imm (α := List Word) (r := r_p1) (x := p1) (by repeat (first | exact Has.head | apply Has.tail))) (fun hg => let h := idx_some (whn_some hx14 hg); ⟨h.1, h.2.1⟩)) ?_
  refine ow_evg rfl (ev_field_addr 0) ?_
  refine ow_evg rfl (ev_ld (i := 5) (xs := p1) (y := x13) 0 (Kn.imm (α := List Word) (r := r_p1) (x := p1) (by repeat (first | exact Has.head | apply Has.tail))) (fun hg => whn_some hx14 hg)) ?_
  refine ow_evg rfl ev_str_neq ?_
  refine ow_evg rfl ev_and ?_
  refine ow_ev ev_or ?_
  refine ow_nil (hK6 _ _ ?_); clear hK6
  refine cw_cond rfl (fun hc15 => ?_) (fun hc15 => ?_)
  ·
    replace hM := (ite_t hc15).symm.trans hM
    refine cw_seq fun K7 hK7 => ?_
    refine cw_region ?_
    refine ow_ev ev_assign ?_
    refine ow_nil (hK7 _ _ ?_); clear hK7
    obtain rfl := some_inj hM
    refine cw_ret (kw_retc1 (fun w hm => post_of r_l0.2.2.1 hm rfl))
  ·
    replace hM := (ite_f hc15).symm.trans hM
    refine cw_skip (hK5 _ _ ?_); clear hK5
    refine cw_seq fun K8 hK8 => ?_
    refine cw_region ?_
    refine ow_ev ev_move ?_
    obtain ⟨x16, hx17, hM⟩ := bind_some hM
    refine ow_ev (ev_idx (xs := p1) 3 (Kn.imm (α := List Word) (r := r_p1) (x := p1) (by repeat (first | exact Has.head | apply Has.tail))) (fun hg => let h := idx_some hx17; ⟨h.1, h.2.1⟩)) ?_
    refine ow_ev (ev_field_addr 0) ?_
    refine ow_ev (ev_ld (i := 1) (xs := p1) (y := x16) 0 (Kn.imm (α := List Word) (r := r_p1) (x := p1) (by repeat (first | exact Has.head | apply Has.tail))) (fun _ => hx17)) ?_
    refine ow_ev ev_move ?_
    refine ow_ev ev_move ?_
    refine ow_ev ev_move ?_
    refine ow_ev (ev_build [.string x16.Text.ba, .int .i64 y3.1, .int .i64 y7.1, .int .i64 y11.1, .int .i64 (-1)]) ?_
    refine ow_cons (st_alloc rfl (k := fun b18 => ?_))
    refine ow_cons (st_store_all (b := b18) (vs := [.string x16.Text.ba, .int .i64 y3.1, .int .i64 y7.1, .int .i64 y11.1, .int .i64 (-1)]) (k := ?_))
    refine ow_nil (hK8 _ _ ?_); clear hK8
    refine cw_cut (γ := Int × Unit) (env := fun (s_j1_4, _) => [(0, .v (.pointer (some ⟨b_l0, 0, none⟩))), (11, .v (.pointer (some ⟨b18, 0, none⟩)))]) (mem := fun (s_j1_4, _) => [trow 9 r_l0.1 l0.Stations, trow 9 r_l0.2.1 l0.Points, trow 57 r_l0.2.2.1 l0.Sections, trow 72 r_l0.2.2.2 l0.Links, own b_l0 26 [.slice r_l0.1.a l0.Stations.length r_l0.1.cap, .slice r_l0.2.1.a l0.Points.length r_l0.2.1.cap, .slice r_l0.2.2.1.a l0.Sections.length r_l0.2.2.1.cap, .slice r_l0.2.2.2.a l0.Links.length r_l0.2.2.2.cap], own b18 57 [.string x16.Text.ba, .int .i64 y3.1, .int .i64 y7.1, .int .i64 y11.1, .int .i64 s_j1_4]]) (R := fun g => ref1_declareSection_k1 l0 x16 y3 y7 y11 g.1 = some y) ?_ ?_
    · intro KJ1 hJ1
      refine cw_seq fun K11 hK11 => ?_
      refine cw_region ?_
      refine ow_ev ev_move ?_
      refine ow_ev ev_len ?_
      refine ow_ev ev_eql ?_
      refine ow_nil (hK11 _ _ ?_); clear hK11
      refine cw_cond rfl (fun hc22 => ?_) (fun hc22 => ?_)
      ·
        replace hM := (ite_t hc22).symm.trans hM
        refine cw_seq fun K12 hK12 => ?_
        refine cw_region_z [own b18 57 [.string x16.Text.ba, .int .i64 y3.1, .int .i64 y7.1, .int .i64 y11.1, .int .i64 (-1)], imm (α := (List Word)) r_p1 p1, own b_l0 26 [.slice r_l0.1.a l0.Stations.length r_l0.1.cap, .slice r_l0.2.1.a l0.Points.length r_l0.2.1.cap, .slice r_l0.2.2.1.a l0.Sections.length r_l0.2.2.1.cap, .slice r_l0.2.2.2.a l0.Links.length r_l0.2.2.2.cap], trow 9 r_l0.1 l0.Stations, trow 9 r_l0.2.1 l0.Points, trow 57 r_l0.2.2.1 l0.Sections, trow 72 r_l0.2.2.2 l0.Links] 10 ?_
        refine az_ev 0 rfl ev_move ?_
        refine az_ev 1 rfl ev_nilcheck ?_
        refine az_ev 2 rfl (ev_field_addr 0) ?_
        refine az_ev 3 rfl (ev_load_own (b := b_l0)) ?_
        refine az_ev 4 rfl ev_move ?_
        obtain ⟨x23, hx24, hM⟩ := bind_some hM
        refine az_ev 5 rfl (ev_idx (xs := p1) 3 (Kn.imm (α := List Word) (r := r_p1) (x := p1) (by repeat (first | exact Has.head | apply Has.tail))) (fun hg => let h := idx_some hx24; ⟨h.1, h.2.1⟩)) ?_
        refine az_ev 6 rfl (ev_field_addr 0) ?_
        refine az_ev 7 rfl (ev_ld (i := 6) (xs := p1) (y := x23) 0 (Kn.imm (α := List Word) (r := r_p1) (x := p1) (by repeat (first | exact Has.head | apply Has.tail))) (fun _ => hx24)) ?_
        obtain ⟨y25, hy26, hM⟩ := bind_some hM
        refine az_one 8 rfl (st_callv (fun w hm => let ⟨S, hs⟩ := hm; ref1_Place_spec _ w l0.Stations r_l0.1 x23.Text y25 hy26 (lend_lt hs) (Kn.lend (Kn.trow (e := 9) (r := r_l0.1) (by repeat (first | exact Has.head | apply Has.tail))) hs)) ⟨fun w hm => hm.sub (by repeat (first | exact List.Sublist.refl _ | apply List.Sublist.cons_cons | apply List.Sublist.cons)), ?_⟩)
        refine az_ev 9 rfl (ev_field_addr 4) ?_
        refine az_last rfl (st_store_own (b := b18) (l' := [.string x16.Text.ba, .int .i64 y3.1, .int .i64 y7.1, .int .i64 y11.1, .int .i64 y25]) (k := ?_))
        refine az_done (hK12 _ _ ?_); clear hK12
        refine cw_seq fun K13 hK13 => ?_
        refine cw_region ?_
        refine ow_ev (ev_field_addr 4) ?_
        refine ow_ev (ev_load_own (b := b18)) ?_
        refine ow_ev ev_lss ?_
        refine ow_nil (hK13 _ _ ?_); clear hK13
        refine cw_cond rfl (fun hc27 => ?_) (fun hc27 => ?_)
        ·
          replace hM := (ite_t hc27).symm.trans hM
          refine cw_seq fun K14 hK14 => ?_
          refine cw_region ?_
          refine ow_ev ev_assign ?_
          refine ow_nil (hK14 _ _ ?_); clear hK14
          obtain rfl := some_inj hM
          refine cw_ret (kw_retc1 (fun w hm => post_of r_l0.2.2.1 hm rfl))
        ·
          replace hM := (ite_f hc27).symm.trans hM
          refine cw_skip (hJ1 (y25, ()) _ _ hM ⟨rfl, rfl, trivial⟩ (fun w hm => hm.reord))
      ·
        replace hM := (ite_f hc22).symm.trans hM
        refine cw_skip (hJ1 ((-1), ()) _ _ hM ⟨rfl, rfl, trivial⟩ (fun w hm => hm.reord))
    ·
      clear hM
      intro g hM
      obtain ⟨s_j1_4, ⟨⟩⟩ := g
      dsimp only at hM ⊢
      dsimp only [ref1_declareSection_k1] at hM
      refine cw_seq fun K9 hK9 => ?_
      refine cw_region_z [trow 9 r_l0.1 l0.Stations, trow 9 r_l0.2.1 l0.Points, trow 72 r_l0.2.2.2 l0.Links, own b_l0 26 [.slice r_l0.1.a l0.Stations.length r_l0.1.cap, .slice r_l0.2.1.a l0.Points.length r_l0.2.1.cap, .slice r_l0.2.2.1.a l0.Sections.length r_l0.2.2.1.cap, .slice r_l0.2.2.2.a l0.Links.length r_l0.2.2.2.cap], own b18 57 [.string x16.Text.ba, .int .i64 y3.1, .int .i64 y7.1, .int .i64 y11.1, .int .i64 s_j1_4]] 10 ?_
      refine az_ev 0 rfl ev_move ?_
      refine az_ev 1 rfl ev_move ?_
      refine az_ev 2 rfl ev_nilcheck ?_
      refine az_ev 3 rfl (ev_field_addr 2) ?_
      refine az_ev 4 rfl (ev_load_own (b := b_l0)) ?_
      refine az_ev 5 rfl (ev_load_all (b := b18)) ?_
      refine az_one 6 rfl (st_bslice (α := Section) 57 (fun _ => ()) ([(Section.mk x16.Text y3.1 y7.1 y11.1 s_j1_4)] : List Section) (OkL.flat (fun _ _ _ _ => trivial)) (fun r19 => ⟨fun w hm => hm.sub (by repeat (first | exact List.Sublist.refl _ | apply List.Sublist.cons_cons | apply List.Sublist.cons)), ?_⟩))
      obtain ⟨hb21, hM⟩ := chk_some hM
      refine az_one 7 rfl (st_append (r := r_l0.2.2.1) (r2 := r19) (by intro r'; repeat (first | exact Upd.head | apply Upd.tail)) (Kn.trow (e := 57) (r := r19) (by repeat (first | exact Has.head | apply Has.tail))) (OkL.flat (fun _ _ _ _ => trivial)) (of_decide_eq_true hb21) (fun r20 => ⟨fun w hm => hm.sub (by repeat (first | exact List.Sublist.refl _ | apply List.Sublist.cons_cons | apply List.Sublist.cons)), ?_⟩))
      refine az_ev 8 rfl ev_nilcheck ?_
      refine az_ev 9 rfl (ev_field_addr 2) ?_
      refine az_last rfl (st_store_own (b := b_l0) (l' := [.slice r_l0.1.a l0.Stations.length r_l0.1.cap, .slice r_l0.2.1.a l0.Points.length r_l0.2.1.cap, .slice r20.a ((l0.Sections ++ ([(Section.mk x16.Text y3.1 y7.1 y11.1 s_j1_4)] : List Section)).length) r20.cap, .slice r_l0.2.2.2.a l0.Links.length r_l0.2.2.2.cap]) (k := ?_))
      refine az_done (hK9 _ _ ?_); clear hK9
      refine cw_seq fun K10 hK10 => ?_
      refine cw_region ?_
      refine ow_ev ev_assign ?_
      refine ow_nil (hK10 _ _ ?_); clear hK10
      obtain rfl := some_inj hM
      refine cw_ret (kw_retc1 (fun w hm => post_of r20 hm rfl))

def ref1_letterEnd_m (s0 : Str) : Option Int :=
  if decide (s0 = (⟨[65]⟩ : Str)) then
    (some 0)
  else
    (if decide (s0 = (⟨[66]⟩ : Str)) then
      (some 1)
    else
      (some (-1)))
theorem ref1_letterEnd_spec (S : Soup) (w : World) (s0 : Str) (y : Int) (hM : ref1_letterEnd_m s0 = some y) (hS : ∀ k, S k → k < w.heap.size)  :
    Calls Tryd.prog 101 #[.string s0.ba] w (Ret w (.int .i64 y)) := by
  refine calls_cw (args := [_]) Tryd.func101 rfl ((pre_nil hS).start) rfl ?_
  unfold ref1_letterEnd_m at hM
  refine cw_seq fun K1 hK1 => ?_
  refine cw_region ?_
  refine ow_ev ev_assign ?_
  refine ow_nil (hK1 _ _ ?_); clear hK1
  refine cw_seq fun K2 hK2 => ?_
  refine cw_seq fun K3 hK3 => ?_
  refine cw_region ?_
  refine ow_ev ev_move ?_
  refine ow_nil (hK3 _ _ ?_); clear hK3
  refine cw_block ?_
  refine cw_seq fun K4 hK4 => ?_
  refine cw_region ?_
  refine ow_ev ev_str_eql ?_
  refine ow_ev ev_assign ?_
  refine ow_nil (hK4 _ _ ?_); clear hK4
  refine cw_cond rfl (fun hc1 => ?_) (fun hc1 => ?_)
  ·
    replace hM := (ite_t hc1).symm.trans hM
    refine cw_seq fun K5 hK5 => ?_
    refine cw_region ?_
    refine ow_ev ev_assign ?_
    refine ow_nil (hK5 _ _ ?_); clear hK5
    obtain rfl := some_inj hM
    refine cw_ret (kw_retc1 (fun w hm => ret_of hm rfl))
  ·
    replace hM := (ite_f hc1).symm.trans hM
    refine cw_seq fun K6 hK6 => ?_
    refine cw_region ?_
    refine ow_ev ev_str_eql ?_
    refine ow_ev ev_assign ?_
    refine ow_nil (hK6 _ _ ?_); clear hK6
    refine cw_cond rfl (fun hc2 => ?_) (fun hc2 => ?_)
    ·
      replace hM := (ite_t hc2).symm.trans hM
      refine cw_seq fun K7 hK7 => ?_
      refine cw_region ?_
      refine ow_ev ev_assign ?_
      refine ow_nil (hK7 _ _ ?_); clear hK7
      obtain rfl := some_inj hM
      refine cw_ret (kw_retc1 (fun w hm => ret_of hm rfl))
    ·
      replace hM := (ite_f hc2).symm.trans hM
      refine cw_skip (hK2 _ _ ?_); clear hK2
      refine cw_seq fun K8 hK8 => ?_
      refine cw_region ?_
      refine ow_ev ev_assign ?_
      refine ow_nil (hK8 _ _ ?_); clear hK8
      obtain rfl := some_inj hM
      refine cw_ret (kw_retc1 (fun w hm => ret_of hm rfl))

def ref1_declareLink_k2 (l0 : Layout) (y13 : Int) (k_j1_1 : Int) (y15 : Int) (k_j1_3 : Int) : (Int × Int) → Option (Int × (List Link)) := fun (k_j2_4, k_j2_5) =>
  chk (decide ((l0.Links.length + ([(Link.mk y13 k_j1_1 y15 k_j1_3 k_j2_4 k_j2_5)] : List Link).length) * 48 ≤ 140737488355328)) <|
  some (0, (l0.Links ++ ([(Link.mk y13 k_j1_1 y15 k_j1_3 k_j2_4 k_j2_5)] : List Link)))
def ref1_declareLink_k1 (p1 : List Word) (l0 : Layout) : (Int × Int) → Option (Int × (List Link)) := fun (k_j1_1, k_j1_3) =>
  (whn ((!(decide (k_j1_1 < 0) || decide (k_j1_3 < 0))) && decide ((p1.length : Int) = 7)) default (idx p1 6)).bind fun x1 =>
  (whn ((!(decide (k_j1_1 < 0) || decide (k_j1_3 < 0))) && (decide ((p1.length : Int) = 7) && (!decide (x1.Text = (⟨[48]⟩ : Str))))) default (idx p1 6)).bind fun x3 =>
  if ((decide (k_j1_1 < 0) || decide (k_j1_3 < 0)) || ((decide ((p1.length : Int) = 7) && (!decide (x1.Text = (⟨[48]⟩ : Str)))) && (!decide (x3.Text = (⟨[49]⟩ : Str))))) then
    (some (2, l0.Links))
  else
    ((ref1_sectionNames_m l0).bind fun y6 =>
    (idx p1 1).bind fun x9 =>
    (idx p1 3).bind fun x11 =>
    (ref1_Place_m y6 x9.Text).bind fun y13 =>
    (ref1_Place_m y6 x11.Text).bind fun y15 =>
    if (decide (y13 < 0) || decide (y15 < 0)) then
      (some (3, l0.Links))
    else
      (if decide ((p1.length : Int) = 7) then
        ((idx p1 5).bind fun x22 =>
        (ref1_Place_m l0.Points x22.Text).bind fun y24 =>
        if decide (y24 < 0) then
          (some (3, l0.Links))
        else
          ((idx p1 6).bind fun x27 =>
          if decide (x27.Text = (⟨[49]⟩ : Str)) then
            (ref1_declareLink_k2 l0 y13 k_j1_1 y15 k_j1_3 (y24, 1))
          else
            (ref1_declareLink_k2 l0 y13 k_j1_1 y15 k_j1_3 (y24, 0))))
      else
        (ref1_declareLink_k2 l0 y13 k_j1_1 y15 k_j1_3 ((-1), 0))))
def ref1_declareLink_m (l0 : Layout) (p1 : List Word) : Option (Int × (List Link)) :=
  (idx p1 2).bind fun x30 =>
  (idx p1 4).bind fun x32 =>
  (ref1_letterEnd_m x30.Text).bind fun y34 =>
  (ref1_letterEnd_m x32.Text).bind fun y37 =>
  ref1_declareLink_k1 p1 l0 (y34, y37)
theorem ref1_declareLink_spec (S : Soup) (w : World) (b_l0 : Nat) (l0 : Layout) (r_l0 : GoRep.R Layout) (p1 : List Word) (r_p1 : GoRep.R (List Word)) (y : Int × (List Link)) (hM : ref1_declareLink_m l0 p1 = some y) (hP : Pre S [own b_l0 26 [.slice r_l0.1.a l0.Stations.length r_l0.1.cap, .slice r_l0.2.1.a l0.Points.length r_l0.2.1.cap, .slice r_l0.2.2.1.a l0.Sections.length r_l0.2.2.1.cap, .slice r_l0.2.2.2.a l0.Links.length r_l0.2.2.2.cap], trow 9 r_l0.1 l0.Stations, trow 9 r_l0.2.1 l0.Points, trow 57 r_l0.2.2.1 l0.Sections, trow 72 r_l0.2.2.2 l0.Links] w) (h_p1 : GoRep.ok S w r_p1 p1) :
    Calls Tryd.prog 85 #[.pointer (some ⟨b_l0, 0, none⟩), .slice r_p1.a p1.length r_p1.cap] w (Post (β := (SR (GoRep.R Link))) S [own b_l0 26 [.slice r_l0.1.a l0.Stations.length r_l0.1.cap, .slice r_l0.2.1.a l0.Points.length r_l0.2.1.cap, .slice r_l0.2.2.1.a l0.Sections.length r_l0.2.2.1.cap, .slice r_l0.2.2.2.a l0.Links.length r_l0.2.2.2.cap], trow 9 r_l0.1 l0.Stations, trow 9 r_l0.2.1 l0.Points, trow 57 r_l0.2.2.1 l0.Sections, trow 72 r_l0.2.2.2 l0.Links] (fun g => .int .i64 y.1) (fun g => [own b_l0 26 [.slice r_l0.1.a l0.Stations.length r_l0.1.cap, .slice r_l0.2.1.a l0.Points.length r_l0.2.1.cap, .slice r_l0.2.2.1.a l0.Sections.length r_l0.2.2.1.cap, .slice g.a y.2.length g.cap], trow 9 r_l0.1 l0.Stations, trow 9 r_l0.2.1 l0.Points, trow 57 r_l0.2.2.1 l0.Sections, trow 72 g y.2]) w) := by
  refine calls_cw (args := [_, _]) Tryd.func85 rfl (hP.start |>.immP (α := List Word) (r := r_p1) (x := p1) h_p1) rfl ?_
  unfold ref1_declareLink_m at hM
  refine cw_seq fun K1 hK1 => ?_
  refine cw_region ?_
  refine ow_ev ev_assign ?_
  refine ow_nil (hK1 _ _ ?_); clear hK1
  refine cw_cut (γ := (Int × Int) × Nat) (env := fun ((k_j1_1, k_j1_3), bk_j1) => [(0, .v (.pointer (some ⟨b_l0, 0, none⟩))), (1, .v (.slice r_p1.a p1.length r_p1.cap)), (5, .v (.pointer (some ⟨bk_j1, 0, none⟩)))]) (mem := fun ((k_j1_1, k_j1_3), bk_j1) => [trow 9 r_l0.1 l0.Stations, trow 9 r_l0.2.1 l0.Points, trow 57 r_l0.2.2.1 l0.Sections, trow 72 r_l0.2.2.2 l0.Links, own b_l0 26 [.slice r_l0.1.a l0.Stations.length r_l0.1.cap, .slice r_l0.2.1.a l0.Points.length r_l0.2.1.cap, .slice r_l0.2.2.1.a l0.Sections.length r_l0.2.2.1.cap, .slice r_l0.2.2.2.a l0.Links.length r_l0.2.2.2.cap], imm (α := (List Word)) r_p1 p1, own bk_j1 72 [.int .i64 0, .int .i64 k_j1_1, .int .i64 0, .int .i64 k_j1_3, .int .i64 (-1), .int .i64 0]]) (R := fun g => ref1_declareLink_k1 p1 l0 g.1 = some y) ?_ ?_
  · intro KJ1 hJ1
    refine cw_region_any _ (List.Sublist.refl _) ?_
    refine aw_ev 0 rfl ev_move ?_
    obtain ⟨x30, hx31, hM⟩ := bind_some hM
    refine aw_ev 1 rfl (ev_idx (xs := p1) 3 (Kn.imm (α := List Word) (r := r_p1) (x := p1) (by repeat (first | exact Has.head | apply Has.tail))) (fun hg => let h := idx_some hx31; ⟨h.1, h.2.1⟩)) ?_
    refine aw_ev 2 rfl (ev_field_addr 0) ?_
    refine aw_ev 3 rfl (ev_ld (i := 2) (xs := p1) (y := x30) 0 (Kn.imm (α := List Word) (r := r_p1) (x := p1) (by repeat (first | exact Has.head | apply Has.tail))) (fun _ => hx31)) ?_
    refine aw_ev 5 rfl ev_move ?_
    obtain ⟨x32, hx33, hM⟩ := bind_some hM
    refine aw_ev 6 rfl (ev_idx (xs := p1) 3 (Kn.imm (α := List Word) (r := r_p1) (x := p1) (by repeat (first | exact Has.head | apply Has.tail))) (fun hg => let h := idx_some hx33; ⟨h.1, h.2.1⟩)) ?_
    refine aw_ev 7 rfl (ev_field_addr 0) ?_
    refine aw_ev 8 rfl (ev_ld (i := 4) (xs := p1) (y := x32) 0 (Kn.imm (α := List Word) (r := r_p1) (x := p1) (by repeat (first | exact Has.head | apply Has.tail))) (fun _ => hx33)) ?_
    obtain ⟨y34, hy35, hM⟩ := bind_some hM
    refine aw_two 4 11 (⟨_, rfl, rfl, st_callv (fun w hm => let ⟨S, hs⟩ := hm; ref1_letterEnd_spec _ w x30.Text y34 hy35 (lend_lt hs) ) ⟨fun w hm => hm.sub (by repeat (first | exact List.Sublist.refl _ | apply List.Sublist.cons_cons | apply List.Sublist.cons)), ?_⟩⟩) (⟨_, rfl, rfl, st_alloc rfl (k := fun b36 => ⟨fun w hm => hm.sub (by repeat (first | exact List.Sublist.refl _ | apply List.Sublist.cons_cons | apply List.Sublist.cons)), ?_⟩)⟩)
    ·
      obtain ⟨y37, hy38, hM⟩ := bind_some hM
      refine aw_two 9 11 (⟨_, rfl, rfl, st_callv (fun w hm => let ⟨S, hs⟩ := hm; ref1_letterEnd_spec _ w x32.Text y37 hy38 (lend_lt hs) ) ⟨fun w hm => hm.sub (by repeat (first | exact List.Sublist.refl _ | apply List.Sublist.cons_cons | apply List.Sublist.cons)), ?_⟩⟩) (⟨_, rfl, rfl, st_alloc rfl (k := fun b39 => ⟨fun w hm => hm.sub (by repeat (first | exact List.Sublist.refl _ | apply List.Sublist.cons_cons | apply List.Sublist.cons)), ?_⟩)⟩)
      ·
        refine aw_ev 10 rfl (ev_build [.int .i64 0, .int .i64 y34, .int .i64 0, .int .i64 y37, .int .i64 (-1), .int .i64 0]) ?_
        refine aw_one 11 rfl (st_alloc rfl (k := fun b40 => ⟨fun w hm => hm.sub (by repeat (first | exact List.Sublist.refl _ | apply List.Sublist.cons_cons | apply List.Sublist.cons)), ?_⟩))
        refine aw_one 12 rfl (st_store_all (b := b40) (vs := [.int .i64 0, .int .i64 y34, .int .i64 0, .int .i64 y37, .int .i64 (-1), .int .i64 0]) (k := ⟨fun w hm => hm.sub (by repeat (first | exact List.Sublist.refl _ | apply List.Sublist.cons_cons | apply List.Sublist.cons)), ?_⟩))
        refine aw_done (hJ1 ((y34, y37), b40) _ _ hM ⟨rfl, rfl, rfl, trivial⟩ (fun w hm => hm.reord))
      ·
        refine aw_one 9 rfl (st_callv (fun w hm => let ⟨S, hs⟩ := hm; ref1_letterEnd_spec _ w x32.Text y37 hy38 (lend_lt hs) ) ⟨fun w hm => hm.sub (by repeat (first | exact List.Sublist.refl _ | apply List.Sublist.cons_cons | apply List.Sublist.cons)), ?_⟩)
        refine aw_ev 10 rfl (ev_build [.int .i64 0, .int .i64 y34, .int .i64 0, .int .i64 y37, .int .i64 (-1), .int .i64 0]) ?_
        refine aw_one 12 rfl (st_store_all (b := b39) (vs := [.int .i64 0, .int .i64 y34, .int .i64 0, .int .i64 y37, .int .i64 (-1), .int .i64 0]) (k := ⟨fun w hm => hm.sub (by repeat (first | exact List.Sublist.refl _ | apply List.Sublist.cons_cons | apply List.Sublist.cons)), ?_⟩))
        refine aw_done (hJ1 ((y34, y37), b39) _ _ hM ⟨rfl, rfl, rfl, trivial⟩ (fun w hm => hm.reord))
    ·
      refine aw_one 4 rfl (st_callv (fun w hm => let ⟨S, hs⟩ := hm; ref1_letterEnd_spec _ w x30.Text y34 hy35 (lend_lt hs) ) ⟨fun w hm => hm.sub (by repeat (first | exact List.Sublist.refl _ | apply List.Sublist.cons_cons | apply List.Sublist.cons)), ?_⟩)
      obtain ⟨y41, hy42, hM⟩ := bind_some hM
      refine aw_one 9 rfl (st_callv (fun w hm => let ⟨S, hs⟩ := hm; ref1_letterEnd_spec _ w x32.Text y41 hy42 (lend_lt hs) ) ⟨fun w hm => hm.sub (by repeat (first | exact List.Sublist.refl _ | apply List.Sublist.cons_cons | apply List.Sublist.cons)), ?_⟩)
      refine aw_ev 10 rfl (ev_build [.int .i64 0, .int .i64 y34, .int .i64 0, .int .i64 y41, .int .i64 (-1), .int .i64 0]) ?_
      refine aw_one 12 rfl (st_store_all (b := b36) (vs := [.int .i64 0, .int .i64 y34, .int .i64 0, .int .i64 y41, .int .i64 (-1), .int .i64 0]) (k := ⟨fun w hm => hm.sub (by repeat (first | exact List.Sublist.refl _ | apply List.Sublist.cons_cons | apply List.Sublist.cons)), ?_⟩))
      refine aw_done (hJ1 ((y34, y41), b36) _ _ hM ⟨rfl, rfl, rfl, trivial⟩ (fun w hm => hm.reord))
  ·
    clear hM
    intro g hM
    obtain ⟨⟨k_j1_1, k_j1_3⟩, bk_j1⟩ := g
    dsimp only at hM ⊢
    dsimp only [ref1_declareLink_k1] at hM
    refine cw_seq fun K2 hK2 => ?_
    refine cw_seq fun K3 hK3 => ?_
    refine cw_region ?_
    refine ow_ev (ev_field_addr 1) ?_
    refine ow_ev (ev_load_own (b := bk_j1)) ?_
    refine ow_ev ev_lss ?_
    refine ow_ev ev_move ?_
    refine ow_evg rfl (ev_field_addr 3) ?_
    refine ow_evg rfl (ev_load_own (b := bk_j1)) ?_
    refine ow_evg rfl ev_lss ?_
    refine ow_ev ev_or ?_
    refine ow_ev ev_move ?_
    refine ow_evg rfl ev_move ?_
    refine ow_evg rfl ev_len ?_
    refine ow_evg rfl ev_eql ?_
    refine ow_evg rfl ev_move ?_
    refine ow_evg rfl ev_move ?_
    obtain ⟨x1, hx2, hM⟩ := bind_some hM
    refine ow_evg rfl (ev_idx (xs := p1) 3 (Kn.imm (α := List Word) (r := r_p1) (x := p1) (by repeat (first | exact Has.head | apply Has.tail))) (fun hg => let h := idx_some (whn_some hx2 hg); ⟨h.1, h.2.1⟩)) ?_
    refine ow_evg rfl (ev_field_addr 0) ?_
    refine ow_evg rfl (ev_ld (i := 6) (xs := p1) (y := x1) 0 (Kn.imm (α := List Word) (r := r_p1) (x := p1) (by repeat (first | exact Has.head | apply Has.tail))) (fun hg => whn_some hx2 hg)) ?_
    refine ow_evg rfl ev_str_neq ?_
    refine ow_evg rfl ev_and ?_
    refine ow_evg rfl ev_move ?_
    refine ow_evg rfl ev_move ?_
    obtain ⟨x3, hx4, hM⟩ := bind_some hM
    refine ow_evg rfl (ev_idx (xs := p1) 3 (Kn.imm (α := List Word) (r := r_p1) (x := p1) (by repeat (first | exact Has.head | apply Has.tail))) (fun hg => let h := idx_some (whn_some hx4 hg); ⟨h.1, h.2.1⟩)) ?_
    refine ow_evg rfl (ev_field_addr 0) ?_
    refine ow_evg rfl (ev_ld (i := 6) (xs := p1) (y := x3) 0 (Kn.imm (α := List Word) (r := r_p1) (x := p1) (by repeat (first | exact Has.head | apply Has.tail))) (fun hg => whn_some hx4 hg)) ?_
    refine ow_evg rfl ev_str_neq ?_
    refine ow_evg rfl ev_and ?_
    refine ow_ev ev_or ?_
    refine ow_nil (hK3 _ _ ?_); clear hK3
    refine cw_cond rfl (fun hc5 => ?_) (fun hc5 => ?_)
    ·
      replace hM := (ite_t hc5).symm.trans hM
      refine cw_seq fun K4 hK4 => ?_
      refine cw_region ?_
      refine ow_ev ev_assign ?_
      refine ow_nil (hK4 _ _ ?_); clear hK4
      obtain rfl := some_inj hM
      refine cw_ret (kw_retc1 (fun w hm => post_of r_l0.2.2.2 hm rfl))
    ·
      replace hM := (ite_f hc5).symm.trans hM
      refine cw_skip (hK2 _ _ ?_); clear hK2
      refine cw_seq fun K5 hK5 => ?_
      refine cw_region ?_
      refine ow_ev ev_move ?_
      refine ow_ev ev_nilcheck ?_
      refine ow_ev (ev_load_all (b := b_l0)) ?_
      obtain ⟨y6, hy7, hM⟩ := bind_some hM
      refine ow_cons (st_callF SelL.nil (fun S w hs hP => ref1_sectionNames_spec _ w l0 r_l0 y6 hy7 (lend_lt hs) ⟨(Kn.lend (Kn.trow (e := 9) (r := r_l0.1) (by repeat (first | exact Has.head | apply Has.tail))) hs), (Kn.lend (Kn.trow (e := 9) (r := r_l0.2.1) (by repeat (first | exact Has.head | apply Has.tail))) hs), (Kn.lend (Kn.trow (e := 57) (r := r_l0.2.2.1) (by repeat (first | exact Has.head | apply Has.tail))) hs), (Kn.lend (Kn.trow (e := 72) (r := r_l0.2.2.2) (by repeat (first | exact Has.head | apply Has.tail))) hs)⟩) (by intro r c hc; simp only [List.mem_cons, List.not_mem_nil, or_false] at hc; rcases hc with rfl <;> first | exact flatC_own | exact flatC_trow (fun _ _ _ _ => trivial)) (fun r8 => ?_))
      dsimp only [List.cons_append, List.nil_append]
      refine ow_ev ev_assign ?_
      refine ow_nil (hK5 _ _ ?_); clear hK5
      refine cw_seq fun K6 hK6 => ?_
      refine cw_region_any [trow 9 r8 y6, trow 9 r_l0.1 l0.Stations, trow 9 r_l0.2.1 l0.Points, trow 57 r_l0.2.2.1 l0.Sections, trow 72 r_l0.2.2.2 l0.Links, own b_l0 26 [.slice r_l0.1.a l0.Stations.length r_l0.1.cap, .slice r_l0.2.1.a l0.Points.length r_l0.2.1.cap, .slice r_l0.2.2.1.a l0.Sections.length r_l0.2.2.1.cap, .slice r_l0.2.2.2.a l0.Links.length r_l0.2.2.2.cap], imm (α := (List Word)) r_p1 p1] (by repeat (first | exact List.Sublist.refl _ | apply List.Sublist.cons_cons | apply List.Sublist.cons)) ?_
      refine aw_ev 0 rfl ev_move ?_
      refine aw_ev 1 rfl ev_move ?_
      obtain ⟨x9, hx10, hM⟩ := bind_some hM
      refine aw_ev 2 rfl (ev_idx (xs := p1) 3 (Kn.imm (α := List Word) (r := r_p1) (x := p1) (by repeat (first | exact Has.head | apply Has.tail))) (fun hg => let h := idx_some hx10; ⟨h.1, h.2.1⟩)) ?_
      refine aw_ev 3 rfl (ev_field_addr 0) ?_
      refine aw_ev 4 rfl (ev_ld (i := 1) (xs := p1) (y := x9) 0 (Kn.imm (α := List Word) (r := r_p1) (x := p1) (by repeat (first | exact Has.head | apply Has.tail))) (fun _ => hx10)) ?_
      refine aw_ev 6 rfl ev_move ?_
      refine aw_ev 7 rfl ev_move ?_
      obtain ⟨x11, hx12, hM⟩ := bind_some hM
      refine aw_ev 8 rfl (ev_idx (xs := p1) 3 (Kn.imm (α := List Word) (r := r_p1) (x := p1) (by repeat (first | exact Has.head | apply Has.tail))) (fun hg => let h := idx_some hx12; ⟨h.1, h.2.1⟩)) ?_
      refine aw_ev 9 rfl (ev_field_addr 0) ?_
      refine aw_ev 10 rfl (ev_ld (i := 3) (xs := p1) (y := x11) 0 (Kn.imm (α := List Word) (r := r_p1) (x := p1) (by repeat (first | exact Has.head | apply Has.tail))) (fun _ => hx12)) ?_
      obtain ⟨y13, hy14, hM⟩ := bind_some hM
      refine aw_one 5 rfl (st_callv (fun w hm => let ⟨S, hs⟩ := hm; ref1_Place_spec _ w y6 r8 x9.Text y13 hy14 (lend_lt hs) (Kn.lend (Kn.trow (e := 9) (r := r8) (by repeat (first | exact Has.head | apply Has.tail))) hs)) ⟨fun w hm => hm.sub (by repeat (first | exact List.Sublist.refl _ | apply List.Sublist.cons_cons | apply List.Sublist.cons)), ?_⟩)
      refine aw_ev 12 rfl (ev_field_addr 0) ?_
      obtain ⟨y15, hy16, hM⟩ := bind_some hM
      refine aw_one 11 rfl (st_callv (fun w hm => let ⟨S, hs⟩ := hm; ref1_Place_spec _ w y6 r8 x11.Text y15 hy16 (lend_lt hs) (Kn.lend (Kn.trow (e := 9) (r := r8) (by repeat (first | exact Has.head | apply Has.tail))) hs)) ⟨fun w hm => hm.sub (by repeat (first | exact List.Sublist.refl _ | apply List.Sublist.cons_cons | apply List.Sublist.cons)), ?_⟩)
      refine aw_one 13 rfl (st_store_own (b := bk_j1) (l' := [.int .i64 y13, .int .i64 k_j1_1, .int .i64 0, .int .i64 k_j1_3, .int .i64 (-1), .int .i64 0]) (k := ⟨fun w hm => hm.sub (by repeat (first | exact List.Sublist.refl _ | apply List.Sublist.cons_cons | apply List.Sublist.cons)), ?_⟩))
      refine aw_ev 14 rfl (ev_field_addr 2) ?_
      refine aw_one 15 rfl (st_store_own (b := bk_j1) (l' := [.int .i64 y13, .int .i64 k_j1_1, .int .i64 y15, .int .i64 k_j1_3, .int .i64 (-1), .int .i64 0]) (k := ⟨fun w hm => hm.sub (by repeat (first | exact List.Sublist.refl _ | apply List.Sublist.cons_cons | apply List.Sublist.cons)), ?_⟩))
      refine aw_done (hK6 _ _ ?_); clear hK6
      refine cw_seq fun K7 hK7 => ?_
      refine cw_seq fun K8 hK8 => ?_
      refine cw_region ?_
      refine ow_ev (ev_field_addr 0) ?_
      refine ow_ev (ev_load_own (b := bk_j1)) ?_
      refine ow_ev ev_lss ?_
      refine ow_ev ev_move ?_
      refine ow_evg rfl (ev_field_addr 2) ?_
      refine ow_evg rfl (ev_load_own (b := bk_j1)) ?_
      refine ow_evg rfl ev_lss ?_
      refine ow_ev ev_or ?_
      refine ow_nil (hK8 _ _ ?_); clear hK8
      refine cw_cond rfl (fun hc17 => ?_) (fun hc17 => ?_)
      ·
        replace hM := (ite_t hc17).symm.trans hM
        refine cw_seq fun K9 hK9 => ?_
        refine cw_region ?_
        refine ow_ev ev_assign ?_
        refine ow_nil (hK9 _ _ ?_); clear hK9
        obtain rfl := some_inj hM
        refine cw_ret (kw_retc1 (fun w hm => post_of r_l0.2.2.2 hm rfl))
      ·
        replace hM := (ite_f hc17).symm.trans hM
        refine cw_skip (hK7 _ _ ?_); clear hK7
        refine cw_cut (γ := (Int × Int) × Unit) (env := fun ((k_j2_4, k_j2_5), _) => [(0, .v (.pointer (some ⟨b_l0, 0, none⟩))), (5, .v (.pointer (some ⟨bk_j1, 0, none⟩)))]) (mem := fun ((k_j2_4, k_j2_5), _) => [trow 9 r_l0.1 l0.Stations, trow 9 r_l0.2.1 l0.Points, trow 57 r_l0.2.2.1 l0.Sections, trow 72 r_l0.2.2.2 l0.Links, own b_l0 26 [.slice r_l0.1.a l0.Stations.length r_l0.1.cap, .slice r_l0.2.1.a l0.Points.length r_l0.2.1.cap, .slice r_l0.2.2.1.a l0.Sections.length r_l0.2.2.1.cap, .slice r_l0.2.2.2.a l0.Links.length r_l0.2.2.2.cap], own bk_j1 72 [.int .i64 y13, .int .i64 k_j1_1, .int .i64 y15, .int .i64 k_j1_3, .int .i64 k_j2_4, .int .i64 k_j2_5]]) (R := fun g => ref1_declareLink_k2 l0 y13 k_j1_1 y15 k_j1_3 g.1 = some y) ?_ ?_
        · intro KJ2 hJ2
          refine cw_seq fun K12 hK12 => ?_
          refine cw_region ?_
          refine ow_ev ev_move ?_
          refine ow_ev ev_len ?_
          refine ow_ev ev_eql ?_
          refine ow_nil (hK12 _ _ ?_); clear hK12
          refine cw_cond rfl (fun hc21 => ?_) (fun hc21 => ?_)
          ·
            replace hM := (ite_t hc21).symm.trans hM
            refine cw_seq fun K13 hK13 => ?_
            refine cw_region_z [trow 9 r8 y6, trow 9 r_l0.1 l0.Stations, trow 9 r_l0.2.1 l0.Points, trow 57 r_l0.2.2.1 l0.Sections, trow 72 r_l0.2.2.2 l0.Links, own b_l0 26 [.slice r_l0.1.a l0.Stations.length r_l0.1.cap, .slice r_l0.2.1.a l0.Points.length r_l0.2.1.cap, .slice r_l0.2.2.1.a l0.Sections.length r_l0.2.2.1.cap, .slice r_l0.2.2.2.a l0.Links.length r_l0.2.2.2.cap], imm (α := (List Word)) r_p1 p1, own bk_j1 72 [.int .i64 y13, .int .i64 k_j1_1, .int .i64 y15, .int .i64 k_j1_3, .int .i64 (-1), .int .i64 0]] 10 ?_
            refine az_ev 0 rfl ev_move ?_
            refine az_ev 1 rfl ev_nilcheck ?_
            refine az_ev 2 rfl (ev_field_addr 1) ?_
            refine az_ev 3 rfl (ev_load_own (b := b_l0)) ?_
            refine az_ev 4 rfl ev_move ?_
            obtain ⟨x22, hx23, hM⟩ := bind_some hM
            refine az_ev 5 rfl (ev_idx (xs := p1) 3 (Kn.imm (α := List Word) (r := r_p1) (x := p1) (by repeat (first | exact Has.head | apply Has.tail))) (fun hg => let h := idx_some hx23; ⟨h.1, h.2.1⟩)) ?_
            refine az_ev 6 rfl (ev_field_addr 0) ?_
            refine az_ev 7 rfl (ev_ld (i := 5) (xs := p1) (y := x22) 0 (Kn.imm (α := List Word) (r := r_p1) (x := p1) (by repeat (first | exact Has.head | apply Has.tail))) (fun _ => hx23)) ?_
            obtain ⟨y24, hy25, hM⟩ := bind_some hM
            refine az_one 8 rfl (st_callv (fun w hm => let ⟨S, hs⟩ := hm; ref1_Place_spec _ w l0.Points r_l0.2.1 x22.Text y24 hy25 (lend_lt hs) (Kn.lend (Kn.trow (e := 9) (r := r_l0.2.1) (by repeat (first | exact Has.head | apply Has.tail))) hs)) ⟨fun w hm => hm.sub (by repeat (first | exact List.Sublist.refl _ | apply List.Sublist.cons_cons | apply List.Sublist.cons)), ?_⟩)
            refine az_ev 9 rfl (ev_field_addr 4) ?_
            refine az_last rfl (st_store_own (b := bk_j1) (l' := [.int .i64 y13, .int .i64 k_j1_1, .int .i64 y15, .int .i64 k_j1_3, .int .i64 y24, .int .i64 0]) (k := ?_))
            refine az_done (hK13 _ _ ?_); clear hK13
            refine cw_seq fun K14 hK14 => ?_
            refine cw_seq fun K15 hK15 => ?_
            refine cw_region ?_
            refine ow_ev (ev_field_addr 4) ?_
            refine ow_ev (ev_load_own (b := bk_j1)) ?_
            refine ow_ev ev_lss ?_
            refine ow_nil (hK15 _ _ ?_); clear hK15
            refine cw_cond rfl (fun hc26 => ?_) (fun hc26 => ?_)
            ·
              replace hM := (ite_t hc26).symm.trans hM
              refine cw_seq fun K16 hK16 => ?_
              refine cw_region ?_
              refine ow_ev ev_assign ?_
              refine ow_nil (hK16 _ _ ?_); clear hK16
              obtain rfl := some_inj hM
              refine cw_ret (kw_retc1 (fun w hm => post_of r_l0.2.2.2 hm rfl))
            ·
              replace hM := (ite_f hc26).symm.trans hM
              refine cw_skip (hK14 _ _ ?_); clear hK14
              refine cw_seq fun K17 hK17 => ?_
              refine cw_region ?_
              refine ow_ev ev_move ?_
              obtain ⟨x27, hx28, hM⟩ := bind_some hM
              refine ow_ev (ev_idx (xs := p1) 3 (Kn.imm (α := List Word) (r := r_p1) (x := p1) (by repeat (first | exact Has.head | apply Has.tail))) (fun hg => let h := idx_some hx28; ⟨h.1, h.2.1⟩)) ?_
              refine ow_ev (ev_field_addr 0) ?_
              refine ow_ev (ev_ld (i := 6) (xs := p1) (y := x27) 0 (Kn.imm (α := List Word) (r := r_p1) (x := p1) (by repeat (first | exact Has.head | apply Has.tail))) (fun _ => hx28)) ?_
              refine ow_ev ev_str_eql ?_
              refine ow_nil (hK17 _ _ ?_); clear hK17
              refine cw_cond rfl (fun hc29 => ?_) (fun hc29 => ?_)
              ·
                replace hM := (ite_t hc29).symm.trans hM
                refine cw_region ?_
                refine ow_ev (ev_field_addr 5) ?_
                refine ow_cons (st_store_own (b := bk_j1) (l' := [.int .i64 y13, .int .i64 k_j1_1, .int .i64 y15, .int .i64 k_j1_3, .int .i64 y24, .int .i64 1]) (k := ?_))
                refine ow_nil (hJ2 ((y24, 1), ()) _ _ hM ⟨rfl, rfl, trivial⟩ (fun w hm => hm.reord))
              ·
                replace hM := (ite_f hc29).symm.trans hM
                refine cw_skip (hJ2 ((y24, 0), ()) _ _ hM ⟨rfl, rfl, trivial⟩ (fun w hm => hm.reord))
          ·
            replace hM := (ite_f hc21).symm.trans hM
            refine cw_skip (hJ2 (((-1), 0), ()) _ _ hM ⟨rfl, rfl, trivial⟩ (fun w hm => hm.reord))
        ·
          clear hM
          intro g hM
          obtain ⟨⟨k_j2_4, k_j2_5⟩, ⟨⟩⟩ := g
          dsimp only at hM ⊢
          dsimp only [ref1_declareLink_k2] at hM
          refine cw_seq fun K10 hK10 => ?_
          refine cw_region_z [trow 9 r_l0.1 l0.Stations, trow 9 r_l0.2.1 l0.Points, trow 57 r_l0.2.2.1 l0.Sections, own b_l0 26 [.slice r_l0.1.a l0.Stations.length r_l0.1.cap, .slice r_l0.2.1.a l0.Points.length r_l0.2.1.cap, .slice r_l0.2.2.1.a l0.Sections.length r_l0.2.2.1.cap, .slice r_l0.2.2.2.a l0.Links.length r_l0.2.2.2.cap], own bk_j1 72 [.int .i64 y13, .int .i64 k_j1_1, .int .i64 y15, .int .i64 k_j1_3, .int .i64 k_j2_4, .int .i64 k_j2_5]] 10 ?_
          refine az_ev 0 rfl ev_move ?_
          refine az_ev 1 rfl ev_move ?_
          refine az_ev 2 rfl ev_nilcheck ?_
          refine az_ev 3 rfl (ev_field_addr 3) ?_
          refine az_ev 4 rfl (ev_load_own (b := b_l0)) ?_
          refine az_ev 5 rfl (ev_load_all (b := bk_j1)) ?_
          refine az_one 6 rfl (st_bslice (α := Link) 72 (fun _ => ()) ([(Link.mk y13 k_j1_1 y15 k_j1_3 k_j2_4 k_j2_5)] : List Link) (OkL.flat (fun _ _ _ _ => trivial)) (fun r18 => ⟨fun w hm => hm.sub (by repeat (first | exact List.Sublist.refl _ | apply List.Sublist.cons_cons | apply List.Sublist.cons)), ?_⟩))
          obtain ⟨hb20, hM⟩ := chk_some hM
          refine az_one 7 rfl (st_append (r := r_l0.2.2.2) (r2 := r18) (by intro r'; repeat (first | exact Upd.head | apply Upd.tail)) (Kn.trow (e := 72) (r := r18) (by repeat (first | exact Has.head | apply Has.tail))) (OkL.flat (fun _ _ _ _ => trivial)) (of_decide_eq_true hb20) (fun r19 => ⟨fun w hm => hm.sub (by repeat (first | exact List.Sublist.refl _ | apply List.Sublist.cons_cons | apply List.Sublist.cons)), ?_⟩))
          refine az_ev 8 rfl ev_nilcheck ?_
          refine az_ev 9 rfl (ev_field_addr 3) ?_
          refine az_last rfl (st_store_own (b := b_l0) (l' := [.slice r_l0.1.a l0.Stations.length r_l0.1.cap, .slice r_l0.2.1.a l0.Points.length r_l0.2.1.cap, .slice r_l0.2.2.1.a l0.Sections.length r_l0.2.2.1.cap, .slice r19.a ((l0.Links ++ ([(Link.mk y13 k_j1_1 y15 k_j1_3 k_j2_4 k_j2_5)] : List Link)).length) r19.cap]) (k := ?_))
          refine az_done (hK10 _ _ ?_); clear hK10
          refine cw_seq fun K11 hK11 => ?_
          refine cw_region ?_
          refine ow_ev ev_assign ?_
          refine ow_nil (hK11 _ _ ?_); clear hK11
          obtain rfl := some_inj hM
          refine cw_ret (kw_retc1 (fun w hm => post_of r19 hm rfl))

def ref1_declare_m (l0 : Layout) (p1 : List Word) : Option (Int × (List Str) × (List Str) × (List Section) × (List Link)) :=
  (whn (decide ((p1.length : Int) = 2)) default (idx p1 0)).bind fun x1 =>
  if (decide ((p1.length : Int) = 2) && decide (x1.Text = (⟨[115, 116, 97, 116, 105, 111, 110]⟩ : Str))) then
    ((idx p1 1).bind fun x4 =>
    chk (decide ((l0.Stations.length + ([x4.Text] : List Str).length) * 16 ≤ 140737488355328)) <|
    some (0, (l0.Stations ++ ([x4.Text] : List Str)), l0.Points, l0.Sections, l0.Links))
  else
    ((whn (decide ((p1.length : Int) = 2)) default (idx p1 0)).bind fun x9 =>
    if (decide ((p1.length : Int) = 2) && decide (x9.Text = (⟨[112, 111, 105, 110, 116]⟩ : Str))) then
      ((idx p1 1).bind fun x12 =>
      chk (decide ((l0.Points.length + ([x12.Text] : List Str).length) * 16 ≤ 140737488355328)) <|
      some (0, l0.Stations, (l0.Points ++ ([x12.Text] : List Str)), l0.Sections, l0.Links))
    else
      ((whn (decide ((p1.length : Int) = 5) || decide ((p1.length : Int) = 7)) default (idx p1 0)).bind fun x17 =>
      if ((decide ((p1.length : Int) = 5) || decide ((p1.length : Int) = 7)) && decide (x17.Text = (⟨[115, 101, 99, 116, 105, 111, 110]⟩ : Str))) then
        ((ref1_declareSection_m l0 p1).bind fun y20 =>
        some (y20.1, l0.Stations, l0.Points, y20.2, l0.Links))
      else
        ((whn (decide ((p1.length : Int) = 5) || decide ((p1.length : Int) = 7)) default (idx p1 0)).bind fun x23 =>
        if ((decide ((p1.length : Int) = 5) || decide ((p1.length : Int) = 7)) && decide (x23.Text = (⟨[108, 105, 110, 107]⟩ : Str))) then
          ((ref1_declareLink_m l0 p1).bind fun y26 =>
          some (y26.1, l0.Stations, l0.Points, l0.Sections, y26.2))
        else
          (some (2, l0.Stations, l0.Points, l0.Sections, l0.Links)))))
theorem ref1_declare_spec (S : Soup) (w : World) (b_l0 : Nat) (l0 : Layout) (r_l0 : GoRep.R Layout) (p1 : List Word) (r_p1 : GoRep.R (List Word)) (y : Int × (List Str) × (List Str) × (List Section) × (List Link)) (hM : ref1_declare_m l0 p1 = some y) (hP : Pre S [own b_l0 26 [.slice r_l0.1.a l0.Stations.length r_l0.1.cap, .slice r_l0.2.1.a l0.Points.length r_l0.2.1.cap, .slice r_l0.2.2.1.a l0.Sections.length r_l0.2.2.1.cap, .slice r_l0.2.2.2.a l0.Links.length r_l0.2.2.2.cap], trow 9 r_l0.1 l0.Stations, trow 9 r_l0.2.1 l0.Points, trow 57 r_l0.2.2.1 l0.Sections, trow 72 r_l0.2.2.2 l0.Links] w) (h_p1 : GoRep.ok S w r_p1 p1) :
    Calls Tryd.prog 67 #[.pointer (some ⟨b_l0, 0, none⟩), .slice r_p1.a p1.length r_p1.cap] w (Post (β := (SR (GoRep.R Str)) × (SR (GoRep.R Str)) × (SR (GoRep.R Section)) × (SR (GoRep.R Link))) S [own b_l0 26 [.slice r_l0.1.a l0.Stations.length r_l0.1.cap, .slice r_l0.2.1.a l0.Points.length r_l0.2.1.cap, .slice r_l0.2.2.1.a l0.Sections.length r_l0.2.2.1.cap, .slice r_l0.2.2.2.a l0.Links.length r_l0.2.2.2.cap], trow 9 r_l0.1 l0.Stations, trow 9 r_l0.2.1 l0.Points, trow 57 r_l0.2.2.1 l0.Sections, trow 72 r_l0.2.2.2 l0.Links] (fun g => .int .i64 y.1) (fun g => [own b_l0 26 [.slice g.1.a y.2.1.length g.1.cap, .slice g.2.1.a y.2.2.1.length g.2.1.cap, .slice g.2.2.1.a y.2.2.2.1.length g.2.2.1.cap, .slice g.2.2.2.a y.2.2.2.2.length g.2.2.2.cap], trow 9 g.1 y.2.1, trow 9 g.2.1 y.2.2.1, trow 57 g.2.2.1 y.2.2.2.1, trow 72 g.2.2.2 y.2.2.2.2]) w) := by
  refine calls_cw (args := [_, _]) Tryd.func67 rfl (hP.start |>.immP (α := List Word) (r := r_p1) (x := p1) h_p1) rfl ?_
  unfold ref1_declare_m at hM
  refine cw_seq fun K1 hK1 => ?_
  refine cw_region ?_
  refine ow_ev ev_assign ?_
  refine ow_nil (hK1 _ _ ?_); clear hK1
  refine cw_seq fun K2 hK2 => ?_
  refine cw_block ?_
  refine cw_seq fun K3 hK3 => ?_
  refine cw_region ?_
  refine ow_ev ev_move ?_
  refine ow_ev ev_len ?_
  refine ow_ev ev_eql ?_
  refine ow_ev ev_move ?_
  refine ow_evg rfl ev_move ?_
  obtain ⟨x1, hx2, hM⟩ := bind_some hM
  refine ow_evg rfl (ev_idx (xs := p1) 3 (Kn.imm (α := List Word) (r := r_p1) (x := p1) (by repeat (first | exact Has.head | apply Has.tail))) (fun hg => let h := idx_some (whn_some hx2 hg); ⟨h.1, h.2.1⟩)) ?_
  refine ow_evg rfl (ev_field_addr 0) ?_
  refine ow_evg rfl (ev_ld (i := 0) (xs := p1) (y := x1) 0 (Kn.imm (α := List Word) (r := r_p1) (x := p1) (by repeat (first | exact Has.head | apply Has.tail))) (fun hg => whn_some hx2 hg)) ?_
  refine ow_evg rfl ev_str_eql ?_
  refine ow_ev ev_and ?_
  refine ow_ev ev_assign ?_
  refine ow_nil (hK3 _ _ ?_); clear hK3
  refine cw_cond rfl (fun hc3 => ?_) (fun hc3 => ?_)
  ·
    replace hM := (ite_t hc3).symm.trans hM
    refine cw_seq fun K4 hK4 => ?_
    refine cw_region_z [imm (α := (List Word)) r_p1 p1, own b_l0 26 [.slice r_l0.1.a l0.Stations.length r_l0.1.cap, .slice r_l0.2.1.a l0.Points.length r_l0.2.1.cap, .slice r_l0.2.2.1.a l0.Sections.length r_l0.2.2.1.cap, .slice r_l0.2.2.2.a l0.Links.length r_l0.2.2.2.cap], trow 9 r_l0.2.1 l0.Points, trow 57 r_l0.2.2.1 l0.Sections, trow 72 r_l0.2.2.2 l0.Links] 13 ?_
    refine az_ev 0 rfl ev_move ?_
    refine az_ev 1 rfl ev_move ?_
    refine az_ev 2 rfl ev_nilcheck ?_
    refine az_ev 3 rfl (ev_field_addr 0) ?_
    refine az_ev 4 rfl (ev_load_own (b := b_l0)) ?_
    refine az_ev 5 rfl ev_move ?_
    obtain ⟨x4, hx5, hM⟩ := bind_some hM
    refine az_ev 6 rfl (ev_idx (xs := p1) 3 (Kn.imm (α := List Word) (r := r_p1) (x := p1) (by repeat (first | exact Has.head | apply Has.tail))) (fun hg => let h := idx_some hx5; ⟨h.1, h.2.1⟩)) ?_
    refine az_ev 7 rfl (ev_field_addr 0) ?_
    refine az_ev 8 rfl (ev_ld (i := 1) (xs := p1) (y := x4) 0 (Kn.imm (α := List Word) (r := r_p1) (x := p1) (by repeat (first | exact Has.head | apply Has.tail))) (fun _ => hx5)) ?_
    refine az_one 9 rfl (st_bslice (α := Str) 9 (fun _ => ()) ([x4.Text] : List Str) (OkL.flat (fun _ _ _ _ => trivial)) (fun r6 => ⟨fun w hm => hm.sub (by repeat (first | exact List.Sublist.refl _ | apply List.Sublist.cons_cons | apply List.Sublist.cons)), ?_⟩))
    obtain ⟨hb8, hM⟩ := chk_some hM
    refine az_one 10 rfl (st_append (r := r_l0.1) (r2 := r6) (by intro r'; repeat (first | exact Upd.head | apply Upd.tail)) (Kn.trow (e := 9) (r := r6) (by repeat (first | exact Has.head | apply Has.tail))) (OkL.flat (fun _ _ _ _ => trivial)) (of_decide_eq_true hb8) (fun r7 => ⟨fun w hm => hm.sub (by repeat (first | exact List.Sublist.refl _ | apply List.Sublist.cons_cons | apply List.Sublist.cons)), ?_⟩))
    refine az_ev 11 rfl ev_nilcheck ?_
    refine az_ev 12 rfl (ev_field_addr 0) ?_
    refine az_last rfl (st_store_own (b := b_l0) (l' := [.slice r7.a ((l0.Stations ++ ([x4.Text] : List Str)).length) r7.cap, .slice r_l0.2.1.a l0.Points.length r_l0.2.1.cap, .slice r_l0.2.2.1.a l0.Sections.length r_l0.2.2.1.cap, .slice r_l0.2.2.2.a l0.Links.length r_l0.2.2.2.cap]) (k := ?_))
    refine az_done (hK4 _ _ ?_); clear hK4
    refine cw_seq fun K5 hK5 => ?_
    refine cw_region ?_
    refine ow_ev ev_assign ?_
    refine ow_nil (hK5 _ _ ?_); clear hK5
    obtain rfl := some_inj hM
    refine cw_ret (kw_retc1 (fun w hm => post_of (r7, r_l0.2.1, r_l0.2.2.1, r_l0.2.2.2) hm rfl))
  ·
    replace hM := (ite_f hc3).symm.trans hM
    refine cw_seq fun K6 hK6 => ?_
    refine cw_region ?_
    refine ow_ev ev_move ?_
    refine ow_ev ev_len ?_
    refine ow_ev ev_eql ?_
    refine ow_ev ev_move ?_
    refine ow_evg rfl ev_move ?_
    obtain ⟨x9, hx10, hM⟩ := bind_some hM
    refine ow_evg rfl (ev_idx (xs := p1) 3 (Kn.imm (α := List Word) (r := r_p1) (x := p1) (by repeat (first | exact Has.head | apply Has.tail))) (fun hg => let h := idx_some (whn_some hx10 hg); ⟨h.1, h.2.1⟩)) ?_
    refine ow_evg rfl (ev_field_addr 0) ?_
    refine ow_evg rfl (ev_ld (i := 0) (xs := p1) (y := x9) 0 (Kn.imm (α := List Word) (r := r_p1) (x := p1) (by repeat (first | exact Has.head | apply Has.tail))) (fun hg => whn_some hx10 hg)) ?_
    refine ow_evg rfl ev_str_eql ?_
    refine ow_ev ev_and ?_
    refine ow_ev ev_assign ?_
    refine ow_nil (hK6 _ _ ?_); clear hK6
    refine cw_cond rfl (fun hc11 => ?_) (fun hc11 => ?_)
    ·
      replace hM := (ite_t hc11).symm.trans hM
      refine cw_seq fun K7 hK7 => ?_
      refine cw_region_z [imm (α := (List Word)) r_p1 p1, own b_l0 26 [.slice r_l0.1.a l0.Stations.length r_l0.1.cap, .slice r_l0.2.1.a l0.Points.length r_l0.2.1.cap, .slice r_l0.2.2.1.a l0.Sections.length r_l0.2.2.1.cap, .slice r_l0.2.2.2.a l0.Links.length r_l0.2.2.2.cap], trow 9 r_l0.1 l0.Stations, trow 57 r_l0.2.2.1 l0.Sections, trow 72 r_l0.2.2.2 l0.Links] 13 ?_
      refine az_ev 0 rfl ev_move ?_
      refine az_ev 1 rfl ev_move ?_
      refine az_ev 2 rfl ev_nilcheck ?_
      refine az_ev 3 rfl (ev_field_addr 1) ?_
      refine az_ev 4 rfl (ev_load_own (b := b_l0)) ?_
      refine az_ev 5 rfl ev_move ?_
      obtain ⟨x12, hx13, hM⟩ := bind_some hM
      refine az_ev 6 rfl (ev_idx (xs := p1) 3 (Kn.imm (α := List Word) (r := r_p1) (x := p1) (by repeat (first | exact Has.head | apply Has.tail))) (fun hg => let h := idx_some hx13; ⟨h.1, h.2.1⟩)) ?_
      refine az_ev 7 rfl (ev_field_addr 0) ?_
      refine az_ev 8 rfl (ev_ld (i := 1) (xs := p1) (y := x12) 0 (Kn.imm (α := List Word) (r := r_p1) (x := p1) (by repeat (first | exact Has.head | apply Has.tail))) (fun _ => hx13)) ?_
      refine az_one 9 rfl (st_bslice (α := Str) 9 (fun _ => ()) ([x12.Text] : List Str) (OkL.flat (fun _ _ _ _ => trivial)) (fun r14 => ⟨fun w hm => hm.sub (by repeat (first | exact List.Sublist.refl _ | apply List.Sublist.cons_cons | apply List.Sublist.cons)), ?_⟩))
      obtain ⟨hb16, hM⟩ := chk_some hM
      refine az_one 10 rfl (st_append (r := r_l0.2.1) (r2 := r14) (by intro r'; repeat (first | exact Upd.head | apply Upd.tail)) (Kn.trow (e := 9) (r := r14) (by repeat (first | exact Has.head | apply Has.tail))) (OkL.flat (fun _ _ _ _ => trivial)) (of_decide_eq_true hb16) (fun r15 => ⟨fun w hm => hm.sub (by repeat (first | exact List.Sublist.refl _ | apply List.Sublist.cons_cons | apply List.Sublist.cons)), ?_⟩))
      refine az_ev 11 rfl ev_nilcheck ?_
      refine az_ev 12 rfl (ev_field_addr 1) ?_
      refine az_last rfl (st_store_own (b := b_l0) (l' := [.slice r_l0.1.a l0.Stations.length r_l0.1.cap, .slice r15.a ((l0.Points ++ ([x12.Text] : List Str)).length) r15.cap, .slice r_l0.2.2.1.a l0.Sections.length r_l0.2.2.1.cap, .slice r_l0.2.2.2.a l0.Links.length r_l0.2.2.2.cap]) (k := ?_))
      refine az_done (hK7 _ _ ?_); clear hK7
      refine cw_seq fun K8 hK8 => ?_
      refine cw_region ?_
      refine ow_ev ev_assign ?_
      refine ow_nil (hK8 _ _ ?_); clear hK8
      obtain rfl := some_inj hM
      refine cw_ret (kw_retc1 (fun w hm => post_of (r_l0.1, r15, r_l0.2.2.1, r_l0.2.2.2) hm rfl))
    ·
      replace hM := (ite_f hc11).symm.trans hM
      refine cw_seq fun K9 hK9 => ?_
      refine cw_region ?_
      refine ow_ev ev_move ?_
      refine ow_ev ev_len ?_
      refine ow_ev ev_eql ?_
      refine ow_ev ev_move ?_
      refine ow_evg rfl ev_move ?_
      refine ow_evg rfl ev_len ?_
      refine ow_evg rfl ev_eql ?_
      refine ow_ev ev_or ?_
      refine ow_ev ev_move ?_
      refine ow_evg rfl ev_move ?_
      obtain ⟨x17, hx18, hM⟩ := bind_some hM
      refine ow_evg rfl (ev_idx (xs := p1) 3 (Kn.imm (α := List Word) (r := r_p1) (x := p1) (by repeat (first | exact Has.head | apply Has.tail))) (fun hg => let h := idx_some (whn_some hx18 hg); ⟨h.1, h.2.1⟩)) ?_
      refine ow_evg rfl (ev_field_addr 0) ?_
      refine ow_evg rfl (ev_ld (i := 0) (xs := p1) (y := x17) 0 (Kn.imm (α := List Word) (r := r_p1) (x := p1) (by repeat (first | exact Has.head | apply Has.tail))) (fun hg => whn_some hx18 hg)) ?_
      refine ow_evg rfl ev_str_eql ?_
      refine ow_ev ev_and ?_
      refine ow_ev ev_assign ?_
      refine ow_nil (hK9 _ _ ?_); clear hK9
      refine cw_cond rfl (fun hc19 => ?_) (fun hc19 => ?_)
      ·
        replace hM := (ite_t hc19).symm.trans hM
        refine cw_seq fun K10 hK10 => ?_
        refine cw_region ?_
        refine ow_ev ev_move ?_
        refine ow_ev ev_move ?_
        obtain ⟨y20, hy21, hM⟩ := bind_some hM
        refine ow_cons (st_callF (by repeat (first | exact SelL.nil | (apply SelL.cons; · (repeat (first | exact Sel.head | apply Sel.tail))))) (fun S w hs hP => ref1_declareSection_spec _ w b_l0 l0 r_l0 p1 r_p1 y20 hy21 hP (Kn.lend (Kn.imm (α := List Word) (r := r_p1) (x := p1) (by repeat (first | exact Has.head | apply Has.tail))) hs)) (by intro r c hc; simp only [List.mem_cons, List.not_mem_nil, or_false] at hc; rcases hc with rfl | rfl | rfl | rfl | rfl <;> first | exact flatC_own | exact flatC_trow (fun _ _ _ _ => trivial)) (fun r22 => ?_))
        dsimp only [List.cons_append, List.nil_append]
        refine ow_ev ev_assign ?_
        refine ow_nil (hK10 _ _ ?_); clear hK10
        obtain rfl := some_inj hM
        refine cw_ret (kw_retc1 (fun w hm => post_of (r_l0.1, r_l0.2.1, r22, r_l0.2.2.2) hm rfl))
      ·
        replace hM := (ite_f hc19).symm.trans hM
        refine cw_seq fun K11 hK11 => ?_
        refine cw_region ?_
        refine ow_ev ev_move ?_
        refine ow_ev ev_len ?_
        refine ow_ev ev_eql ?_
        refine ow_ev ev_move ?_
        refine ow_evg rfl ev_move ?_
        refine ow_evg rfl ev_len ?_
        refine ow_evg rfl ev_eql ?_
        refine ow_ev ev_or ?_
        refine ow_ev ev_move ?_
        refine ow_evg rfl ev_move ?_
        obtain ⟨x23, hx24, hM⟩ := bind_some hM
        refine ow_evg rfl (ev_idx (xs := p1) 3 (Kn.imm (α := List Word) (r := r_p1) (x := p1) (by repeat (first | exact Has.head | apply Has.tail))) (fun hg => let h := idx_some (whn_some hx24 hg); ⟨h.1, h.2.1⟩)) ?_
        refine ow_evg rfl (ev_field_addr 0) ?_
        refine ow_evg rfl (ev_ld (i := 0) (xs := p1) (y := x23) 0 (Kn.imm (α := List Word) (r := r_p1) (x := p1) (by repeat (first | exact Has.head | apply Has.tail))) (fun hg => whn_some hx24 hg)) ?_
        refine ow_evg rfl ev_str_eql ?_
        refine ow_ev ev_and ?_
        refine ow_ev ev_assign ?_
        refine ow_nil (hK11 _ _ ?_); clear hK11
        refine cw_cond rfl (fun hc25 => ?_) (fun hc25 => ?_)
        ·
          replace hM := (ite_t hc25).symm.trans hM
          refine cw_seq fun K12 hK12 => ?_
          refine cw_region ?_
          refine ow_ev ev_move ?_
          refine ow_ev ev_move ?_
          obtain ⟨y26, hy27, hM⟩ := bind_some hM
          refine ow_cons (st_callF (by repeat (first | exact SelL.nil | (apply SelL.cons; · (repeat (first | exact Sel.head | apply Sel.tail))))) (fun S w hs hP => ref1_declareLink_spec _ w b_l0 l0 r_l0 p1 r_p1 y26 hy27 hP (Kn.lend (Kn.imm (α := List Word) (r := r_p1) (x := p1) (by repeat (first | exact Has.head | apply Has.tail))) hs)) (by intro r c hc; simp only [List.mem_cons, List.not_mem_nil, or_false] at hc; rcases hc with rfl | rfl | rfl | rfl | rfl <;> first | exact flatC_own | exact flatC_trow (fun _ _ _ _ => trivial)) (fun r28 => ?_))
          dsimp only [List.cons_append, List.nil_append]
          refine ow_ev ev_assign ?_
          refine ow_nil (hK12 _ _ ?_); clear hK12
          obtain rfl := some_inj hM
          refine cw_ret (kw_retc1 (fun w hm => post_of (r_l0.1, r_l0.2.1, r_l0.2.2.1, r28) hm rfl))
        ·
          replace hM := (ite_f hc25).symm.trans hM
          refine cw_skip (hK2 _ _ ?_); clear hK2
          refine cw_seq fun K13 hK13 => ?_
          refine cw_region ?_
          refine ow_ev ev_assign ?_
          refine ow_nil (hK13 _ _ ?_); clear hK13
          obtain rfl := some_inj hM
          refine cw_ret (kw_retc1 (fun w hm => post_of (r_l0.1, r_l0.2.1, r_l0.2.2.1, r_l0.2.2.2) hm rfl))

end Go.Proofs.YtohhihdjdelckaaDoor
