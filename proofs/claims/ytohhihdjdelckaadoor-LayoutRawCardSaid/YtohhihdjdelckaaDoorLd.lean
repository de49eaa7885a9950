/- Models of functions, and that the code computes them. -/
import Derived.Test.YtohhihdjdelckaaDoorLayB
import Derived.Test.YtohhihdjdelckaaDoorWk
import Derived.Test.YtohhihdjdelckaaDoorIto
set_option linter.all false
namespace Go.Proofs.YtohhihdjdelckaaDoor
open Go.Dc Go.RowKit
set_option maxRecDepth 10000
def layout_Format_k4 (llines_3 : List (List Str)) (cont3 : ((List (List Str)) × Nat) → Option Str) (t46_3 : Nat) : (List Str) → Option Str := fun lline_j4 =>
  chk (decide ((llines_3.length + ([lline_j4] : List (List Str)).length) * 24 ≤ 140737488355328)) <|
  cont3 ((llines_3 ++ ([lline_j4] : List (List Str))), t46_3 + 1)
def layout_Format_k6 (llines_4 : List (List Str)) (cont4 : ((List (List Str)) × Nat) → Option Str) (t82_4 : Nat) : (List Str) → Option Str := fun lline_j6 =>
  chk (decide ((llines_4.length + ([lline_j6] : List (List Str)).length) * 24 ≤ 140737488355328)) <|
  cont4 ((llines_4 ++ ([lline_j6] : List (List Str))), t82_4 + 1)
def layout_Format_k5 (llines_4 : List (List Str)) : Unit → Option Str := fun _ =>
  (words_Join_m llines_4).bind fun y68 =>
  some y68
def layout_Format_b4 (l0 : Layout) (cont4 : ((List (List Str)) × Nat) → Option Str) : ((List (List Str)) × Nat) → Option Str := fun (llines_4, t82_4) =>
  if decide ((t82_4 : Int) < (l0.Links.length : Int)) then
    ((idx l0.Links (t82_4 : Int)).bind fun x45 =>
    (idx l0.Sections x45.A).bind fun x48 =>
    (idx ([(⟨[65]⟩ : Str), (⟨[66]⟩ : Str)] : List Str) x45.AEnd).bind fun x50 =>
    (idx l0.Sections x45.B).bind fun x52 =>
    (idx ([(⟨[65]⟩ : Str), (⟨[66]⟩ : Str)] : List Str) x45.BEnd).bind fun x54 =>
    if decide (x45.Point ≠ (-1)) then
      ((idx l0.Points x45.Point).bind fun x61 =>
      (strconv_Itoa_m x45.Pos).bind fun y63 =>
      chk (decide ((([(⟨[108, 105, 110, 107]⟩ : Str), x48.Name, x50, x52.Name, x54] : List Str).length + ([x61, y63] : List Str).length) * 16 ≤ 140737488355328)) <|
      layout_Format_k6 llines_4 cont4 t82_4 (([(⟨[108, 105, 110, 107]⟩ : Str), x48.Name, x50, x52.Name, x54] : List Str) ++ ([x61, y63] : List Str)))
    else
      (layout_Format_k6 llines_4 cont4 t82_4 ([(⟨[108, 105, 110, 107]⟩ : Str), x48.Name, x50, x52.Name, x54] : List Str)))
  else
    (layout_Format_k5 llines_4 ())
def layout_Format_k3 (l0 : Layout) (llines_3 : List (List Str)) : Unit → Option Str := fun _ =>
  iter (layout_Format_b4 l0) FUEL (llines_3, 0)
def layout_Format_b3 (l0 : Layout) (cont3 : ((List (List Str)) × Nat) → Option Str) : ((List (List Str)) × Nat) → Option Str := fun (llines_3, t46_3) =>
  if decide ((t46_3 : Int) < (l0.Sections.length : Int)) then
    ((idx l0.Sections (t46_3 : Int)).bind fun x24 =>
    (strconv_Itoa_m x24.Length).bind fun y27 =>
    (strconv_Itoa_m x24.Limit).bind fun y29 =>
    (strconv_Itoa_m x24.Grade).bind fun y31 =>
    if decide (x24.Station ≠ (-1)) then
      ((idx l0.Stations x24.Station).bind fun x38 =>
      chk (decide ((([(⟨[115, 101, 99, 116, 105, 111, 110]⟩ : Str), x24.Name, y27, y29, y31] : List Str).length + ([(⟨[97, 116]⟩ : Str), x38] : List Str).length) * 16 ≤ 140737488355328)) <|
      layout_Format_k4 llines_3 cont3 t46_3 (([(⟨[115, 101, 99, 116, 105, 111, 110]⟩ : Str), x24.Name, y27, y29, y31] : List Str) ++ ([(⟨[97, 116]⟩ : Str), x38] : List Str)))
    else
      (layout_Format_k4 llines_3 cont3 t46_3 ([(⟨[115, 101, 99, 116, 105, 111, 110]⟩ : Str), x24.Name, y27, y29, y31] : List Str)))
  else
    (layout_Format_k3 l0 llines_3 ())
def layout_Format_k2 (l0 : Layout) (llines_2 : List (List Str)) : Unit → Option Str := fun _ =>
  iter (layout_Format_b3 l0) FUEL (llines_2, 0)
def layout_Format_b2 (l0 : Layout) (cont2 : ((List (List Str)) × Nat) → Option Str) : ((List (List Str)) × Nat) → Option Str := fun (llines_2, t33_2) =>
  if decide ((t33_2 : Int) < (l0.Points.length : Int)) then
    ((idx l0.Points (t33_2 : Int)).bind fun x16 =>
    chk (decide ((llines_2.length + ([([(⟨[112, 111, 105, 110, 116]⟩ : Str), x16] : List Str)] : List (List Str)).length) * 24 ≤ 140737488355328)) <|
    cont2 ((llines_2 ++ ([([(⟨[112, 111, 105, 110, 116]⟩ : Str), x16] : List Str)] : List (List Str))), t33_2 + 1))
  else
    (layout_Format_k2 l0 llines_2 ())
def layout_Format_k1 (l0 : Layout) (llines_1 : List (List Str)) : Unit → Option Str := fun _ =>
  iter (layout_Format_b2 l0) FUEL (llines_1, 0)
def layout_Format_b1 (l0 : Layout) (cont1 : ((List (List Str)) × Nat) → Option Str) : ((List (List Str)) × Nat) → Option Str := fun (llines_1, t20_1) =>
  if decide ((t20_1 : Int) < (l0.Stations.length : Int)) then
    ((idx l0.Stations (t20_1 : Int)).bind fun x8 =>
    chk (decide ((llines_1.length + ([([(⟨[115, 116, 97, 116, 105, 111, 110]⟩ : Str), x8] : List Str)] : List (List Str)).length) * 24 ≤ 140737488355328)) <|
    cont1 ((llines_1 ++ ([([(⟨[115, 116, 97, 116, 105, 111, 110]⟩ : Str), x8] : List Str)] : List (List Str))), t20_1 + 1))
  else
    (layout_Format_k1 l0 llines_1 ())
def layout_Format_m (l0 : Layout) : Option Str :=
  (layout_Check_m l0).bind fun y2 =>
  if decide (y2 ≠ 0) then
    (some (⟨[]⟩ : Str))
  else
    (iter (layout_Format_b1 l0) FUEL (([] : List (List Str)), 0))
theorem layout_Format_spec (S : Soup) (w : World) (l0 : Layout) (r_l0 : GoRep.R Layout) (y : Str) (hM : layout_Format_m l0 = some y) (hS : ∀ k, S k → k < w.heap.size) (h_l0 : GoRep.ok S w r_l0 l0) (hg_0 : (imm (α := (List Str)) (⟨some ⟨0, 0, none⟩, 2, fun _ => ()⟩ : SR Unit) ([(⟨[65]⟩ : Str), (⟨[66]⟩ : Str)] : List Str)).φ S w) (hg_1 : (gtab 1 pow10).φ S w) :
    Calls Tryd.prog 24 #[.agg #[.slice r_l0.1.a l0.Stations.length r_l0.1.cap, .slice r_l0.2.1.a l0.Points.length r_l0.2.1.cap, .slice r_l0.2.2.1.a l0.Sections.length r_l0.2.2.1.cap, .slice r_l0.2.2.2.a l0.Links.length r_l0.2.2.2.cap]] w (Ret w (.string y.ba)) := by
  refine calls_cw (args := [_]) Tryd.func24 rfl ((pre_nil hS).start |>.immP (α := List Str) (r := r_l0.1) (x := l0.Stations) h_l0.1|>.immP (α := List Str) (r := r_l0.2.1) (x := l0.Points) h_l0.2.1|>.immP (α := List Section) (r := r_l0.2.2.1) (x := l0.Sections) h_l0.2.2.1|>.immP (α := List Link) (r := r_l0.2.2.2) (x := l0.Links) h_l0.2.2.2|>.factP (c := imm (α := (List Str)) (⟨some ⟨0, 0, none⟩, 2, fun _ => ()⟩ : SR Unit) ([(⟨[65]⟩ : Str), (⟨[66]⟩ : Str)] : List Str)) (fun _ h => False.elim h) hg_0|>.factP (c := gtab 1 pow10) (fun _ h => False.elim h) hg_1) rfl ?_
  unfold layout_Format_m at hM
  refine cw_seq fun K1 hK1 => ?_
  refine cw_region ?_
  refine ow_cons (st_box (l := [.slice r_l0.1.a l0.Stations.length r_l0.1.cap, .slice r_l0.2.1.a l0.Points.length r_l0.2.1.cap, .slice r_l0.2.2.1.a l0.Sections.length r_l0.2.2.1.cap, .slice r_l0.2.2.2.a l0.Links.length r_l0.2.2.2.cap]) (k := fun b1 => ?_))
  refine ow_ev ev_assign ?_
  refine ow_nil (hK1 _ _ ?_); clear hK1
  refine cw_seq fun K2 hK2 => ?_
  refine cw_seq fun K3 hK3 => ?_
  refine cw_region ?_
  refine ow_ev (ev_load_all (b := b1)) ?_
  obtain ⟨y2, hy3, hM⟩ := bind_some hM
  refine ow_cons (st_callv (fun w hm => let ⟨S, hs⟩ := hm; layout_Check_spec _ w l0 r_l0 y2 hy3 (lend_lt hs) ⟨(Kn.lend (Kn.imm (α := List Str) (r := r_l0.1) (x := l0.Stations) (by repeat (first | exact Has.head | apply Has.tail))) hs), (Kn.lend (Kn.imm (α := List Str) (r := r_l0.2.1) (x := l0.Points) (by repeat (first | exact Has.head | apply Has.tail))) hs), (Kn.lend (Kn.imm (α := List Section) (r := r_l0.2.2.1) (x := l0.Sections) (by repeat (first | exact Has.head | apply Has.tail))) hs), (Kn.lend (Kn.imm (α := List Link) (r := r_l0.2.2.2) (x := l0.Links) (by repeat (first | exact Has.head | apply Has.tail))) hs)⟩) ?_)
  refine ow_ev ev_neq ?_
  refine ow_nil (hK3 _ _ ?_); clear hK3
  refine cw_cond rfl (fun hc4 => ?_) (fun hc4 => ?_)
  ·
    replace hM := (ite_t hc4).symm.trans hM
    refine cw_seq fun K4 hK4 => ?_
    refine cw_region ?_
    refine ow_ev ev_assign ?_
    refine ow_nil (hK4 _ _ ?_); clear hK4
    obtain rfl := some_inj hM
    refine cw_ret (kw_retc1 (fun w hm => ret_of hm rfl))
  ·
    replace hM := (ite_f hc4).symm.trans hM
    refine cw_skip (hK2 _ _ ?_); clear hK2
    refine cw_seq fun K5 hK5 => ?_
    refine cw_region ?_
    refine ow_ev ev_assign ?_
    refine ow_nil (hK5 _ _ ?_); clear hK5
    refine cw_seq fun K6 hK6 => ?_
    refine cw_seq fun K7 hK7 => ?_
    refine cw_region ?_
    refine ow_ev (ev_field_addr 0) ?_
    refine ow_ev (ev_load_own (b := b1)) ?_
    refine ow_have (fun w hm => Kn.len (Kn.imm (α := List Str) (r := r_l0.1) (x := l0.Stations) (by repeat (first | exact Has.head | apply Has.tail))) hm) fun hl5 => ?_
    refine ow_ev ev_len ?_
    refine ow_ev ev_move ?_
    refine ow_nil (hK7 _ _ ?_); clear hK7
    refine cw_block ?_
    refine cw_imp (fun w hm => hm.row_nil (α := List Str) 22 (fun _ => (⟨none, 0, (fun _ => ())⟩ : SR (GoRep.R Str)))) ?_
    refine cw_loop (γ := Nat × ((List (List Str)) × Nat) × (SR (GoRep.R (List Str)))) (env := fun (_, (llines_1, t20_1), rlines_1) => [(1, .v (.pointer (some ⟨b1, 0, none⟩))), (3, .v (.slice rlines_1.a llines_1.length rlines_1.cap)), (18, .v (.slice r_l0.1.a l0.Stations.length r_l0.1.cap)), (19, .v (.int .i64 (l0.Stations.length : Int))), (20, .v (.int .i64 (t20_1 : Int)))]) (mem := fun (_, (llines_1, t20_1), rlines_1) => [imm (α := (List Str)) (⟨some ⟨0, 0, none⟩, 2, fun _ => ()⟩ : SR Unit) ([(⟨[65]⟩ : Str), (⟨[66]⟩ : Str)] : List Str), imm (α := (List Str)) r_l0.1 l0.Stations, imm (α := (List Str)) r_l0.2.1 l0.Points, imm (α := (List Section)) r_l0.2.2.1 l0.Sections, imm (α := (List Link)) r_l0.2.2.2 l0.Links, own b1 26 [.slice r_l0.1.a l0.Stations.length r_l0.1.cap, .slice r_l0.2.1.a l0.Points.length r_l0.2.1.cap, .slice r_l0.2.2.1.a l0.Sections.length r_l0.2.2.1.cap, .slice r_l0.2.2.2.a l0.Links.length r_l0.2.2.2.cap], trow 22 rlines_1 llines_1, gtab 1 pow10]) (R := fun g => iter (layout_Format_b1 l0) g.1 g.2.1 = some y) (μ := fun g => g.1) (FUEL, (([] : List (List Str)), 0), (⟨none, 0, (fun _ => (⟨none, 0, (fun _ => ())⟩ : SR (GoRep.R Str)))⟩ : SR (GoRep.R (List Str)) )) hM ⟨rfl, rfl, rfl, rfl, rfl, trivial⟩ (fun w hm => hm.reord) ?_
    clear hM
    intro g hM KL1 hL1
    obtain ⟨nn1, ⟨llines_1, t20_1⟩, rlines_1⟩ := g
    dsimp only at hM ⊢
    obtain ⟨nn1, cont1, rfl, hcont1, hM⟩ := iter_open' hM
    dsimp only [layout_Format_b1] at hM
    refine cw_seq fun K8 hK8 => ?_
    refine cw_region ?_
    refine ow_ev ev_lss ?_
    refine ow_nil (hK8 _ _ ?_); clear hK8
    refine cw_seq fun K9 hK9 => ?_
    refine cw_cond rfl (fun hc7 => ?_) (fun hc7 => ?_)
    ·
      replace hM := (ite_t hc7).symm.trans hM
      have hc7d := of_decide_eq_true hc7
      refine cw_skip (hK9 _ _ ?_); clear hK9
      refine cw_seq fun K10 hK10 => ?_
      refine cw_block ?_
      refine cw_seq fun K11 hK11 => ?_
      refine cw_region ?_
      obtain ⟨x8, hx9, hM⟩ := bind_some hM
      refine ow_ev (ev_idx (xs := l0.Stations) 1 (Kn.imm (α := List Str) (r := r_l0.1) (x := l0.Stations) (by repeat (first | exact Has.head | apply Has.tail))) (fun hg => let h := idx_some hx9; ⟨h.1, h.2.1⟩)) ?_
      refine ow_ev (ev_ld (i := (t20_1 : Int)) (xs := l0.Stations) (y := x8) 0 (Kn.imm (α := List Str) (r := r_l0.1) (x := l0.Stations) (by repeat (first | exact Has.head | apply Has.tail))) (fun _ => hx9)) ?_
      refine ow_ev ev_assign ?_
      refine ow_nil (hK11 _ _ ?_); clear hK11
      refine cw_region ?_
      refine ow_ev ev_move ?_
      refine ow_ev ev_move ?_
      refine ow_cons (st_bslice (α := Str) 9 (fun _ => ()) ([(⟨[115, 116, 97, 116, 105, 111, 110]⟩ : Str), x8] : List Str) (OkL.flat (fun _ _ _ _ => trivial)) (fun r10 => ?_))
      refine ow_imp (fun w hm => hm.freeze (r := r10) (by repeat (first | exact Upd.head | apply Upd.tail))) ?_
      refine ow_cons (st_bslice (α := List Str) 22 (fun _ => r10) ([([(⟨[115, 116, 97, 116, 105, 111, 110]⟩ : Str), x8] : List Str)] : List (List Str)) (OkL.cons (fun S w hs => ((Sk.imm (α := List Str) (r := r10) (x := ([(⟨[115, 116, 97, 116, 105, 111, 110]⟩ : Str), x8] : List Str)) (by repeat (first | exact Has.head | apply Has.tail))) S w hs)) OkL.nil) (fun r11 => ?_))
      obtain ⟨hb13, hM⟩ := chk_some hM
      refine ow_cons (st_append (r := rlines_1) (r2 := r11) (by intro r'; repeat (first | exact Upd.head | apply Upd.tail)) (Kn.trow (e := 22) (r := r11) (by repeat (first | exact Has.head | apply Has.tail))) (OkL.row (e := 22) (r := r11) (by repeat (first | exact Has.head | apply Has.tail))) (of_decide_eq_true hb13) (fun r12 => ?_))
      refine ow_ev ev_assign ?_
      refine ow_nil (hK10 _ _ ?_); clear hK10
      refine cw_region ?_
      refine ow_ev (ev_add (hr := fun _ => by unfold I64; omega)) ?_
      refine ow_ev ev_move ?_
      refine ow_nil (hL1 (nn1, ((llines_1 ++ ([([(⟨[115, 116, 97, 116, 105, 111, 110]⟩ : Str), x8] : List Str)] : List (List Str))), t20_1 + 1), r12) _ _ (eqc hcont1 hM) (Nat.lt_succ_self _) ⟨rfl, rfl, rfl, rfl, rfl, trivial⟩ (fun w hm => hm.reord))
    ·
      replace hM := (ite_f hc7).symm.trans hM
      refine cw_exit (hK6 _ _ ?_); clear hK6
      dsimp only [layout_Format_k1] at hM
      refine cw_seq fun K12 hK12 => ?_
      refine cw_seq fun K13 hK13 => ?_
      refine cw_region ?_
      refine ow_ev (ev_field_addr 1) ?_
      refine ow_ev (ev_load_own (b := b1)) ?_
      refine ow_have (fun w hm => Kn.len (Kn.imm (α := List Str) (r := r_l0.2.1) (x := l0.Points) (by repeat (first | exact Has.head | apply Has.tail))) hm) fun hl14 => ?_
      refine ow_ev ev_len ?_
      refine ow_ev ev_move ?_
      refine ow_nil (hK13 _ _ ?_); clear hK13
      refine cw_block ?_
      refine cw_loop (γ := Nat × ((List (List Str)) × Nat) × (SR (GoRep.R (List Str)))) (env := fun (_, (llines_2, t33_2), rlines_2) => [(1, .v (.pointer (some ⟨b1, 0, none⟩))), (3, .v (.slice rlines_2.a llines_2.length rlines_2.cap)), (31, .v (.slice r_l0.2.1.a l0.Points.length r_l0.2.1.cap)), (32, .v (.int .i64 (l0.Points.length : Int))), (33, .v (.int .i64 (t33_2 : Int)))]) (mem := fun (_, (llines_2, t33_2), rlines_2) => [imm (α := (List Str)) (⟨some ⟨0, 0, none⟩, 2, fun _ => ()⟩ : SR Unit) ([(⟨[65]⟩ : Str), (⟨[66]⟩ : Str)] : List Str), imm (α := (List Str)) r_l0.1 l0.Stations, imm (α := (List Str)) r_l0.2.1 l0.Points, imm (α := (List Section)) r_l0.2.2.1 l0.Sections, imm (α := (List Link)) r_l0.2.2.2 l0.Links, own b1 26 [.slice r_l0.1.a l0.Stations.length r_l0.1.cap, .slice r_l0.2.1.a l0.Points.length r_l0.2.1.cap, .slice r_l0.2.2.1.a l0.Sections.length r_l0.2.2.1.cap, .slice r_l0.2.2.2.a l0.Links.length r_l0.2.2.2.cap], trow 22 rlines_2 llines_2, gtab 1 pow10]) (R := fun g => iter (layout_Format_b2 l0) g.1 g.2.1 = some y) (μ := fun g => g.1) (FUEL, (llines_1, 0), rlines_1) hM ⟨rfl, rfl, rfl, rfl, rfl, trivial⟩ (fun w hm => hm.reord) ?_
      clear hM
      intro g hM KL2 hL2
      obtain ⟨nn2, ⟨llines_2, t33_2⟩, rlines_2⟩ := g
      dsimp only at hM ⊢
      obtain ⟨nn2, cont2, rfl, hcont2, hM⟩ := iter_open' hM
      dsimp only [layout_Format_b2] at hM
      refine cw_seq fun K14 hK14 => ?_
      refine cw_region ?_
      refine ow_ev ev_lss ?_
      refine ow_nil (hK14 _ _ ?_); clear hK14
      refine cw_seq fun K15 hK15 => ?_
      refine cw_cond rfl (fun hc15 => ?_) (fun hc15 => ?_)
      ·
        replace hM := (ite_t hc15).symm.trans hM
        have hc15d := of_decide_eq_true hc15
        refine cw_skip (hK15 _ _ ?_); clear hK15
        refine cw_seq fun K16 hK16 => ?_
        refine cw_block ?_
        refine cw_seq fun K17 hK17 => ?_
        refine cw_region ?_
        obtain ⟨x16, hx17, hM⟩ := bind_some hM
        refine ow_ev (ev_idx (xs := l0.Points) 1 (Kn.imm (α := List Str) (r := r_l0.2.1) (x := l0.Points) (by repeat (first | exact Has.head | apply Has.tail))) (fun hg => let h := idx_some hx17; ⟨h.1, h.2.1⟩)) ?_
        refine ow_ev (ev_ld (i := (t33_2 : Int)) (xs := l0.Points) (y := x16) 0 (Kn.imm (α := List Str) (r := r_l0.2.1) (x := l0.Points) (by repeat (first | exact Has.head | apply Has.tail))) (fun _ => hx17)) ?_
        refine ow_ev ev_assign ?_
        refine ow_nil (hK17 _ _ ?_); clear hK17
        refine cw_region ?_
        refine ow_ev ev_move ?_
        refine ow_ev ev_move ?_
        refine ow_cons (st_bslice (α := Str) 9 (fun _ => ()) ([(⟨[112, 111, 105, 110, 116]⟩ : Str), x16] : List Str) (OkL.flat (fun _ _ _ _ => trivial)) (fun r18 => ?_))
        refine ow_imp (fun w hm => hm.freeze (r := r18) (by repeat (first | exact Upd.head | apply Upd.tail))) ?_
        refine ow_cons (st_bslice (α := List Str) 22 (fun _ => r18) ([([(⟨[112, 111, 105, 110, 116]⟩ : Str), x16] : List Str)] : List (List Str)) (OkL.cons (fun S w hs => ((Sk.imm (α := List Str) (r := r18) (x := ([(⟨[112, 111, 105, 110, 116]⟩ : Str), x16] : List Str)) (by repeat (first | exact Has.head | apply Has.tail))) S w hs)) OkL.nil) (fun r19 => ?_))
        obtain ⟨hb21, hM⟩ := chk_some hM
        refine ow_cons (st_append (r := rlines_2) (r2 := r19) (by intro r'; repeat (first | exact Upd.head | apply Upd.tail)) (Kn.trow (e := 22) (r := r19) (by repeat (first | exact Has.head | apply Has.tail))) (OkL.row (e := 22) (r := r19) (by repeat (first | exact Has.head | apply Has.tail))) (of_decide_eq_true hb21) (fun r20 => ?_))
        refine ow_ev ev_assign ?_
        refine ow_nil (hK16 _ _ ?_); clear hK16
        refine cw_region ?_
        refine ow_ev (ev_add (hr := fun _ => by unfold I64; omega)) ?_
        refine ow_ev ev_move ?_
        refine ow_nil (hL2 (nn2, ((llines_2 ++ ([([(⟨[112, 111, 105, 110, 116]⟩ : Str), x16] : List Str)] : List (List Str))), t33_2 + 1), r20) _ _ (eqc hcont2 hM) (Nat.lt_succ_self _) ⟨rfl, rfl, rfl, rfl, rfl, trivial⟩ (fun w hm => hm.reord))
      ·
        replace hM := (ite_f hc15).symm.trans hM
        refine cw_exit (hK12 _ _ ?_); clear hK12
        dsimp only [layout_Format_k2] at hM
        refine cw_seq fun K18 hK18 => ?_
        refine cw_seq fun K19 hK19 => ?_
        refine cw_region ?_
        refine ow_ev (ev_field_addr 2) ?_
        refine ow_ev (ev_load_own (b := b1)) ?_
        refine ow_have (fun w hm => Kn.len (Kn.imm (α := List Section) (r := r_l0.2.2.1) (x := l0.Sections) (by repeat (first | exact Has.head | apply Has.tail))) hm) fun hl22 => ?_
        refine ow_ev ev_len ?_
        refine ow_ev ev_move ?_
        refine ow_nil (hK19 _ _ ?_); clear hK19
        refine cw_block ?_
        refine cw_loop (γ := Nat × ((List (List Str)) × Nat) × (SR (GoRep.R (List Str)))) (env := fun (_, (llines_3, t46_3), rlines_3) => [(1, .v (.pointer (some ⟨b1, 0, none⟩))), (3, .v (.slice rlines_3.a llines_3.length rlines_3.cap)), (44, .v (.slice r_l0.2.2.1.a l0.Sections.length r_l0.2.2.1.cap)), (45, .v (.int .i64 (l0.Sections.length : Int))), (46, .v (.int .i64 (t46_3 : Int)))]) (mem := fun (_, (llines_3, t46_3), rlines_3) => [imm (α := (List Str)) (⟨some ⟨0, 0, none⟩, 2, fun _ => ()⟩ : SR Unit) ([(⟨[65]⟩ : Str), (⟨[66]⟩ : Str)] : List Str), imm (α := (List Str)) r_l0.1 l0.Stations, imm (α := (List Str)) r_l0.2.1 l0.Points, imm (α := (List Section)) r_l0.2.2.1 l0.Sections, imm (α := (List Link)) r_l0.2.2.2 l0.Links, own b1 26 [.slice r_l0.1.a l0.Stations.length r_l0.1.cap, .slice r_l0.2.1.a l0.Points.length r_l0.2.1.cap, .slice r_l0.2.2.1.a l0.Sections.length r_l0.2.2.1.cap, .slice r_l0.2.2.2.a l0.Links.length r_l0.2.2.2.cap], trow 22 rlines_3 llines_3, gtab 1 pow10]) (R := fun g => iter (layout_Format_b3 l0) g.1 g.2.1 = some y) (μ := fun g => g.1) (FUEL, (llines_2, 0), rlines_2) hM ⟨rfl, rfl, rfl, rfl, rfl, trivial⟩ (fun w hm => hm.reord) ?_
        clear hM
        intro g hM KL3 hL3
        obtain ⟨nn3, ⟨llines_3, t46_3⟩, rlines_3⟩ := g
        dsimp only at hM ⊢
        obtain ⟨nn3, cont3, rfl, hcont3, hM⟩ := iter_open' hM
        dsimp only [layout_Format_b3] at hM
        refine cw_seq fun K20 hK20 => ?_
        refine cw_region ?_
        refine ow_ev ev_lss ?_
        refine ow_nil (hK20 _ _ ?_); clear hK20
        refine cw_seq fun K21 hK21 => ?_
        refine cw_cond rfl (fun hc23 => ?_) (fun hc23 => ?_)
        ·
          replace hM := (ite_t hc23).symm.trans hM
          have hc23d := of_decide_eq_true hc23
          refine cw_skip (hK21 _ _ ?_); clear hK21
          refine cw_seq fun K22 hK22 => ?_
          refine cw_block ?_
          refine cw_seq fun K23 hK23 => ?_
          refine cw_region ?_
          obtain ⟨x24, hx25, hM⟩ := bind_some hM
          refine ow_ev (ev_idx (xs := l0.Sections) 5 (Kn.imm (α := List Section) (r := r_l0.2.2.1) (x := l0.Sections) (by repeat (first | exact Has.head | apply Has.tail))) (fun hg => let h := idx_some hx25; ⟨h.1, h.2.1⟩)) ?_
          refine ow_ev (ev_lds (m := 5) (i := (t46_3 : Int)) (xs := l0.Sections) (y := x24) (l := [.string x24.Name.ba, .int .i64 x24.Length, .int .i64 x24.Limit, .int .i64 x24.Grade, .int .i64 x24.Station]) 0 (Kn.imm (α := List Section) (r := r_l0.2.2.1) (x := l0.Sections) (by repeat (first | exact Has.head | apply Has.tail))) (fun _ => hx25)) ?_
          refine ow_cons (st_alloc rfl (k := fun b26 => ?_))
          refine ow_cons (st_store_all (b := b26) (vs := [.string x24.Name.ba, .int .i64 x24.Length, .int .i64 x24.Limit, .int .i64 x24.Grade, .int .i64 x24.Station]) (k := ?_))
          refine ow_nil (hK23 _ _ ?_); clear hK23
          refine cw_seq fun K24 hK24 => ?_
          refine cw_region_any _ (List.Sublist.refl _) ?_
          refine aw_ev 0 rfl (ev_field_addr 0) ?_
          refine aw_ev 1 rfl (ev_load_own (b := b26)) ?_
          refine aw_ev 2 rfl (ev_field_addr 1) ?_
          refine aw_ev 3 rfl (ev_load_own (b := b26)) ?_
          refine aw_ev 5 rfl (ev_field_addr 2) ?_
          refine aw_ev 6 rfl (ev_load_own (b := b26)) ?_
          refine aw_ev 8 rfl (ev_field_addr 3) ?_
          refine aw_ev 9 rfl (ev_load_own (b := b26)) ?_
          obtain ⟨y27, hy28, hM⟩ := bind_some hM
          refine aw_one 4 rfl (st_callv (fun w hm => let ⟨S, hs⟩ := hm; strconv_Itoa_spec _ w x24.Length y27 hy28 (lend_lt hs) (Chunk.mono _ _ _ _ (fun _ h => .inl h) (((by repeat (first | exact Has.head | apply Has.tail)) : Has _ (gtab 1 pow10)).φ hs))) ⟨fun w hm => hm.sub (by repeat (first | exact List.Sublist.refl _ | apply List.Sublist.cons_cons | apply List.Sublist.cons)), ?_⟩)
          obtain ⟨y29, hy30, hM⟩ := bind_some hM
          refine aw_one 7 rfl (st_callv (fun w hm => let ⟨S, hs⟩ := hm; strconv_Itoa_spec _ w x24.Limit y29 hy30 (lend_lt hs) (Chunk.mono _ _ _ _ (fun _ h => .inl h) (((by repeat (first | exact Has.head | apply Has.tail)) : Has _ (gtab 1 pow10)).φ hs))) ⟨fun w hm => hm.sub (by repeat (first | exact List.Sublist.refl _ | apply List.Sublist.cons_cons | apply List.Sublist.cons)), ?_⟩)
          obtain ⟨y31, hy32, hM⟩ := bind_some hM
          refine aw_one 10 rfl (st_callv (fun w hm => let ⟨S, hs⟩ := hm; strconv_Itoa_spec _ w x24.Grade y31 hy32 (lend_lt hs) (Chunk.mono _ _ _ _ (fun _ h => .inl h) (((by repeat (first | exact Has.head | apply Has.tail)) : Has _ (gtab 1 pow10)).φ hs))) ⟨fun w hm => hm.sub (by repeat (first | exact List.Sublist.refl _ | apply List.Sublist.cons_cons | apply List.Sublist.cons)), ?_⟩)
          refine aw_one 11 rfl (st_bslice (α := Str) 9 (fun _ => ()) ([(⟨[115, 101, 99, 116, 105, 111, 110]⟩ : Str), x24.Name, y27, y29, y31] : List Str) (OkL.flat (fun _ _ _ _ => trivial)) (fun r33 => ⟨fun w hm => hm.sub (by repeat (first | exact List.Sublist.refl _ | apply List.Sublist.cons_cons | apply List.Sublist.cons)), ?_⟩))
          refine aw_ev 12 rfl ev_assign ?_
          refine aw_done (hK24 _ _ ?_); clear hK24
          refine cw_cut (γ := (List Str) × (SR (GoRep.R Str))) (env := fun (lline_j4, rline_j4) => [(1, .v (.pointer (some ⟨b1, 0, none⟩))), (3, .v (.slice rlines_3.a llines_3.length rlines_3.cap)), (10, .v (.slice rline_j4.a lline_j4.length rline_j4.cap)), (44, .v (.slice r_l0.2.2.1.a l0.Sections.length r_l0.2.2.1.cap)), (45, .v (.int .i64 (l0.Sections.length : Int))), (46, .v (.int .i64 (t46_3 : Int)))]) (mem := fun (lline_j4, rline_j4) => [imm (α := (List Str)) (⟨some ⟨0, 0, none⟩, 2, fun _ => ()⟩ : SR Unit) ([(⟨[65]⟩ : Str), (⟨[66]⟩ : Str)] : List Str), imm (α := (List Str)) r_l0.1 l0.Stations, imm (α := (List Str)) r_l0.2.1 l0.Points, imm (α := (List Section)) r_l0.2.2.1 l0.Sections, imm (α := (List Link)) r_l0.2.2.2 l0.Links, own b1 26 [.slice r_l0.1.a l0.Stations.length r_l0.1.cap, .slice r_l0.2.1.a l0.Points.length r_l0.2.1.cap, .slice r_l0.2.2.1.a l0.Sections.length r_l0.2.2.1.cap, .slice r_l0.2.2.2.a l0.Links.length r_l0.2.2.2.cap], trow 22 rlines_3 llines_3, trow 9 rline_j4 lline_j4, gtab 1 pow10]) (R := fun g => layout_Format_k4 llines_3 cont3 t46_3 g.1 = some y) ?_ ?_
          · intro KJ4 hJ4
            refine cw_seq fun K25 hK25 => ?_
            refine cw_region ?_
            refine ow_ev (ev_field_addr 4) ?_
            refine ow_ev (ev_load_own (b := b26)) ?_
            refine ow_ev ev_neq ?_
            refine ow_nil (hK25 _ _ ?_); clear hK25
            refine cw_cond rfl (fun hc37 => ?_) (fun hc37 => ?_)
            ·
              replace hM := (ite_t hc37).symm.trans hM
              refine cw_region ?_
              refine ow_ev ev_move ?_
              refine ow_ev (ev_field_addr 0) ?_
              refine ow_ev (ev_load_own (b := b1)) ?_
              refine ow_ev (ev_field_addr 4) ?_
              refine ow_ev (ev_load_own (b := b26)) ?_
              obtain ⟨x38, hx39, hM⟩ := bind_some hM
              refine ow_ev (ev_idx (xs := l0.Stations) 1 (Kn.imm (α := List Str) (r := r_l0.1) (x := l0.Stations) (by repeat (first | exact Has.head | apply Has.tail))) (fun hg => let h := idx_some hx39; ⟨h.1, h.2.1⟩)) ?_
              refine ow_ev (ev_ld (i := x24.Station) (xs := l0.Stations) (y := x38) 0 (Kn.imm (α := List Str) (r := r_l0.1) (x := l0.Stations) (by repeat (first | exact Has.head | apply Has.tail))) (fun _ => hx39)) ?_
              refine ow_cons (st_bslice (α := Str) 9 (fun _ => ()) ([(⟨[97, 116]⟩ : Str), x38] : List Str) (OkL.flat (fun _ _ _ _ => trivial)) (fun r40 => ?_))
              obtain ⟨hb42, hM⟩ := chk_some hM
              refine ow_cons (st_append (r := r33) (r2 := r40) (by intro r'; repeat (first | exact Upd.head | apply Upd.tail)) (Kn.trow (e := 9) (r := r40) (by repeat (first | exact Has.head | apply Has.tail))) (OkL.flat (fun _ _ _ _ => trivial)) (of_decide_eq_true hb42) (fun r41 => ?_))
              refine ow_ev ev_assign ?_
              refine ow_nil (hJ4 ((([(⟨[115, 101, 99, 116, 105, 111, 110]⟩ : Str), x24.Name, y27, y29, y31] : List Str) ++ ([(⟨[97, 116]⟩ : Str), x38] : List Str)), r41) _ _ hM ⟨rfl, rfl, rfl, rfl, rfl, rfl, trivial⟩ (fun w hm => hm.reord))
            ·
              replace hM := (ite_f hc37).symm.trans hM
              refine cw_skip (hJ4 (([(⟨[115, 101, 99, 116, 105, 111, 110]⟩ : Str), x24.Name, y27, y29, y31] : List Str), r33) _ _ hM ⟨rfl, rfl, rfl, rfl, rfl, rfl, trivial⟩ (fun w hm => hm.reord))
          ·
            clear hM
            intro g hM
            obtain ⟨lline_j4, rline_j4⟩ := g
            dsimp only at hM ⊢
            dsimp only [layout_Format_k4] at hM
            refine cw_region ?_
            refine ow_ev ev_move ?_
            refine ow_ev ev_move ?_
            refine ow_imp (fun w hm => hm.freeze (r := rline_j4) (by repeat (first | exact Upd.head | apply Upd.tail))) ?_
            refine ow_cons (st_bslice (α := List Str) 22 (fun _ => rline_j4) ([lline_j4] : List (List Str)) (OkL.cons (fun S w hs => ((Sk.imm (α := List Str) (r := rline_j4) (x := lline_j4) (by repeat (first | exact Has.head | apply Has.tail))) S w hs)) OkL.nil) (fun r34 => ?_))
            obtain ⟨hb36, hM⟩ := chk_some hM
            refine ow_cons (st_append (r := rlines_3) (r2 := r34) (by intro r'; repeat (first | exact Upd.head | apply Upd.tail)) (Kn.trow (e := 22) (r := r34) (by repeat (first | exact Has.head | apply Has.tail))) (OkL.row (e := 22) (r := r34) (by repeat (first | exact Has.head | apply Has.tail))) (of_decide_eq_true hb36) (fun r35 => ?_))
            refine ow_ev ev_assign ?_
            refine ow_nil (hK22 _ _ ?_); clear hK22
            refine cw_region ?_
            refine ow_ev (ev_add (hr := fun _ => by unfold I64; omega)) ?_
            refine ow_ev ev_move ?_
            refine ow_nil (hL3 (nn3, ((llines_3 ++ ([lline_j4] : List (List Str))), t46_3 + 1), r35) _ _ (eqc hcont3 hM) (Nat.lt_succ_self _) ⟨rfl, rfl, rfl, rfl, rfl, trivial⟩ (fun w hm => hm.reord))
        ·
          replace hM := (ite_f hc23).symm.trans hM
          refine cw_exit (hK18 _ _ ?_); clear hK18
          dsimp only [layout_Format_k3] at hM
          refine cw_seq fun K26 hK26 => ?_
          refine cw_seq fun K27 hK27 => ?_
          refine cw_region ?_
          refine ow_ev (ev_field_addr 3) ?_
          refine ow_ev (ev_load_own (b := b1)) ?_
          refine ow_have (fun w hm => Kn.len (Kn.imm (α := List Link) (r := r_l0.2.2.2) (x := l0.Links) (by repeat (first | exact Has.head | apply Has.tail))) hm) fun hl43 => ?_
          refine ow_ev ev_len ?_
          refine ow_ev ev_move ?_
          refine ow_nil (hK27 _ _ ?_); clear hK27
          refine cw_block ?_
          refine cw_loop (γ := Nat × ((List (List Str)) × Nat) × (SR (GoRep.R (List Str)))) (env := fun (_, (llines_4, t82_4), rlines_4) => [(1, .v (.pointer (some ⟨b1, 0, none⟩))), (3, .v (.slice rlines_4.a llines_4.length rlines_4.cap)), (80, .v (.slice r_l0.2.2.2.a l0.Links.length r_l0.2.2.2.cap)), (81, .v (.int .i64 (l0.Links.length : Int))), (82, .v (.int .i64 (t82_4 : Int)))]) (mem := fun (_, (llines_4, t82_4), rlines_4) => [imm (α := (List Str)) (⟨some ⟨0, 0, none⟩, 2, fun _ => ()⟩ : SR Unit) ([(⟨[65]⟩ : Str), (⟨[66]⟩ : Str)] : List Str), imm (α := (List Str)) r_l0.1 l0.Stations, imm (α := (List Str)) r_l0.2.1 l0.Points, imm (α := (List Section)) r_l0.2.2.1 l0.Sections, imm (α := (List Link)) r_l0.2.2.2 l0.Links, own b1 26 [.slice r_l0.1.a l0.Stations.length r_l0.1.cap, .slice r_l0.2.1.a l0.Points.length r_l0.2.1.cap, .slice r_l0.2.2.1.a l0.Sections.length r_l0.2.2.1.cap, .slice r_l0.2.2.2.a l0.Links.length r_l0.2.2.2.cap], trow 22 rlines_4 llines_4, gtab 1 pow10]) (R := fun g => iter (layout_Format_b4 l0) g.1 g.2.1 = some y) (μ := fun g => g.1) (FUEL, (llines_3, 0), rlines_3) hM ⟨rfl, rfl, rfl, rfl, rfl, trivial⟩ (fun w hm => hm.reord) ?_
          clear hM
          intro g hM KL4 hL4
          obtain ⟨nn4, ⟨llines_4, t82_4⟩, rlines_4⟩ := g
          dsimp only at hM ⊢
          obtain ⟨nn4, cont4, rfl, hcont4, hM⟩ := iter_open' hM
          dsimp only [layout_Format_b4] at hM
          refine cw_seq fun K28 hK28 => ?_
          refine cw_region ?_
          refine ow_ev ev_lss ?_
          refine ow_nil (hK28 _ _ ?_); clear hK28
          refine cw_seq fun K29 hK29 => ?_
          refine cw_cond rfl (fun hc44 => ?_) (fun hc44 => ?_)
          ·
            replace hM := (ite_t hc44).symm.trans hM
            have hc44d := of_decide_eq_true hc44
            refine cw_skip (hK29 _ _ ?_); clear hK29
            refine cw_seq fun K30 hK30 => ?_
            refine cw_block ?_
            refine cw_seq fun K31 hK31 => ?_
            refine cw_region ?_
            obtain ⟨x45, hx46, hM⟩ := bind_some hM
            refine ow_ev (ev_idx (xs := l0.Links) 6 (Kn.imm (α := List Link) (r := r_l0.2.2.2) (x := l0.Links) (by repeat (first | exact Has.head | apply Has.tail))) (fun hg => let h := idx_some hx46; ⟨h.1, h.2.1⟩)) ?_
            refine ow_ev (ev_lds (m := 6) (i := (t82_4 : Int)) (xs := l0.Links) (y := x45) (l := [.int .i64 x45.A, .int .i64 x45.AEnd, .int .i64 x45.B, .int .i64 x45.BEnd, .int .i64 x45.Point, .int .i64 x45.Pos]) 0 (Kn.imm (α := List Link) (r := r_l0.2.2.2) (x := l0.Links) (by repeat (first | exact Has.head | apply Has.tail))) (fun _ => hx46)) ?_
            refine ow_cons (st_alloc rfl (k := fun b47 => ?_))
            refine ow_cons (st_store_all (b := b47) (vs := [.int .i64 x45.A, .int .i64 x45.AEnd, .int .i64 x45.B, .int .i64 x45.BEnd, .int .i64 x45.Point, .int .i64 x45.Pos]) (k := ?_))
            refine ow_nil (hK31 _ _ ?_); clear hK31
            refine cw_seq fun K32 hK32 => ?_
            refine cw_region_any _ (List.Sublist.refl _) ?_
            refine aw_ev 0 rfl (ev_field_addr 2) ?_
            refine aw_ev 1 rfl (ev_load_own (b := b1)) ?_
            refine aw_ev 2 rfl (ev_field_addr 0) ?_
            refine aw_ev 3 rfl (ev_load_own (b := b47)) ?_
            obtain ⟨x48, hx49, hM⟩ := bind_some hM
            refine aw_ev 4 rfl (ev_idx (xs := l0.Sections) 5 (Kn.imm (α := List Section) (r := r_l0.2.2.1) (x := l0.Sections) (by repeat (first | exact Has.head | apply Has.tail))) (fun hg => let h := idx_some hx49; ⟨h.1, h.2.1⟩)) ?_
            refine aw_ev 5 rfl (ev_field_addr 0) ?_
            refine aw_ev 6 rfl (ev_ld (i := x45.A) (xs := l0.Sections) (y := x48) 0 (Kn.imm (α := List Section) (r := r_l0.2.2.1) (x := l0.Sections) (by repeat (first | exact Has.head | apply Has.tail))) (fun _ => hx49)) ?_
            refine aw_ev 7 rfl (ev_field_addr 1) ?_
            refine aw_ev 8 rfl (ev_load_own (b := b47)) ?_
            obtain ⟨x50, hx51, hM⟩ := bind_some hM
            refine aw_ev 9 rfl (ev_aidx (r := (⟨some ⟨0, 0, none⟩, 2, fun _ => ()⟩ : SR Unit)) (xs := ([(⟨[65]⟩ : Str), (⟨[66]⟩ : Str)] : List Str)) 1 (Kn.imm (α := List Str) (r := (⟨some ⟨0, 0, none⟩, 2, fun _ => ()⟩ : SR Unit)) (x := ([(⟨[65]⟩ : Str), (⟨[66]⟩ : Str)] : List Str)) (by repeat (first | exact Has.head | apply Has.tail))) (fun hg => let h := idx_some hx51; ⟨h.1, h.2.1⟩)) ?_
            refine aw_ev 10 rfl (ev_ld (i := x45.AEnd) (xs := ([(⟨[65]⟩ : Str), (⟨[66]⟩ : Str)] : List Str)) (y := x50) 0 (Kn.imm (α := List Str) (r := (⟨some ⟨0, 0, none⟩, 2, fun _ => ()⟩ : SR Unit)) (x := ([(⟨[65]⟩ : Str), (⟨[66]⟩ : Str)] : List Str)) (by repeat (first | exact Has.head | apply Has.tail))) (fun _ => hx51)) ?_
            refine aw_ev 11 rfl (ev_field_addr 2) ?_
            refine aw_ev 12 rfl (ev_load_own (b := b1)) ?_
            refine aw_ev 13 rfl (ev_field_addr 2) ?_
            refine aw_ev 14 rfl (ev_load_own (b := b47)) ?_
            obtain ⟨x52, hx53, hM⟩ := bind_some hM
            refine aw_ev 15 rfl (ev_idx (xs := l0.Sections) 5 (Kn.imm (α := List Section) (r := r_l0.2.2.1) (x := l0.Sections) (by repeat (first | exact Has.head | apply Has.tail))) (fun hg => let h := idx_some hx53; ⟨h.1, h.2.1⟩)) ?_
            refine aw_ev 16 rfl (ev_field_addr 0) ?_
            refine aw_ev 17 rfl (ev_ld (i := x45.B) (xs := l0.Sections) (y := x52) 0 (Kn.imm (α := List Section) (r := r_l0.2.2.1) (x := l0.Sections) (by repeat (first | exact Has.head | apply Has.tail))) (fun _ => hx53)) ?_
            refine aw_ev 18 rfl (ev_field_addr 3) ?_
            refine aw_ev 19 rfl (ev_load_own (b := b47)) ?_
            obtain ⟨x54, hx55, hM⟩ := bind_some hM
            refine aw_ev 20 rfl (ev_aidx (r := (⟨some ⟨0, 0, none⟩, 2, fun _ => ()⟩ : SR Unit)) (xs := ([(⟨[65]⟩ : Str), (⟨[66]⟩ : Str)] : List Str)) 1 (Kn.imm (α := List Str) (r := (⟨some ⟨0, 0, none⟩, 2, fun _ => ()⟩ : SR Unit)) (x := ([(⟨[65]⟩ : Str), (⟨[66]⟩ : Str)] : List Str)) (by repeat (first | exact Has.head | apply Has.tail))) (fun hg => let h := idx_some hx55; ⟨h.1, h.2.1⟩)) ?_
            refine aw_ev 21 rfl (ev_ld (i := x45.BEnd) (xs := ([(⟨[65]⟩ : Str), (⟨[66]⟩ : Str)] : List Str)) (y := x54) 0 (Kn.imm (α := List Str) (r := (⟨some ⟨0, 0, none⟩, 2, fun _ => ()⟩ : SR Unit)) (x := ([(⟨[65]⟩ : Str), (⟨[66]⟩ : Str)] : List Str)) (by repeat (first | exact Has.head | apply Has.tail))) (fun _ => hx55)) ?_
            refine aw_one 22 rfl (st_bslice (α := Str) 9 (fun _ => ()) ([(⟨[108, 105, 110, 107]⟩ : Str), x48.Name, x50, x52.Name, x54] : List Str) (OkL.flat (fun _ _ _ _ => trivial)) (fun r56 => ⟨fun w hm => hm.sub (by repeat (first | exact List.Sublist.refl _ | apply List.Sublist.cons_cons | apply List.Sublist.cons)), ?_⟩))
            refine aw_ev 23 rfl ev_assign ?_
            refine aw_done (hK32 _ _ ?_); clear hK32
            refine cw_cut (γ := (List Str) × (SR (GoRep.R Str))) (env := fun (lline_j6, rline_j6) => [(1, .v (.pointer (some ⟨b1, 0, none⟩))), (3, .v (.slice rlines_4.a llines_4.length rlines_4.cap)), (13, .v (.slice rline_j6.a lline_j6.length rline_j6.cap)), (80, .v (.slice r_l0.2.2.2.a l0.Links.length r_l0.2.2.2.cap)), (81, .v (.int .i64 (l0.Links.length : Int))), (82, .v (.int .i64 (t82_4 : Int)))]) (mem := fun (lline_j6, rline_j6) => [imm (α := (List Str)) (⟨some ⟨0, 0, none⟩, 2, fun _ => ()⟩ : SR Unit) ([(⟨[65]⟩ : Str), (⟨[66]⟩ : Str)] : List Str), imm (α := (List Str)) r_l0.1 l0.Stations, imm (α := (List Str)) r_l0.2.1 l0.Points, imm (α := (List Section)) r_l0.2.2.1 l0.Sections, imm (α := (List Link)) r_l0.2.2.2 l0.Links, own b1 26 [.slice r_l0.1.a l0.Stations.length r_l0.1.cap, .slice r_l0.2.1.a l0.Points.length r_l0.2.1.cap, .slice r_l0.2.2.1.a l0.Sections.length r_l0.2.2.1.cap, .slice r_l0.2.2.2.a l0.Links.length r_l0.2.2.2.cap], trow 22 rlines_4 llines_4, trow 9 rline_j6 lline_j6, gtab 1 pow10]) (R := fun g => layout_Format_k6 llines_4 cont4 t82_4 g.1 = some y) ?_ ?_
            · intro KJ6 hJ6
              refine cw_seq fun K33 hK33 => ?_
              refine cw_region ?_
              refine ow_ev (ev_field_addr 4) ?_
              refine ow_ev (ev_load_own (b := b47)) ?_
              refine ow_ev ev_neq ?_
              refine ow_nil (hK33 _ _ ?_); clear hK33
              refine cw_cond rfl (fun hc60 => ?_) (fun hc60 => ?_)
              ·
                replace hM := (ite_t hc60).symm.trans hM
                refine cw_region_any [own b47 72 [.int .i64 x45.A, .int .i64 x45.AEnd, .int .i64 x45.B, .int .i64 x45.BEnd, .int .i64 x45.Point, .int .i64 x45.Pos], imm (α := (List Str)) (⟨some ⟨0, 0, none⟩, 2, fun _ => ()⟩ : SR Unit) ([(⟨[65]⟩ : Str), (⟨[66]⟩ : Str)] : List Str), imm (α := (List Str)) r_l0.1 l0.Stations, imm (α := (List Str)) r_l0.2.1 l0.Points, imm (α := (List Section)) r_l0.2.2.1 l0.Sections, imm (α := (List Link)) r_l0.2.2.2 l0.Links, own b1 26 [.slice r_l0.1.a l0.Stations.length r_l0.1.cap, .slice r_l0.2.1.a l0.Points.length r_l0.2.1.cap, .slice r_l0.2.2.1.a l0.Sections.length r_l0.2.2.1.cap, .slice r_l0.2.2.2.a l0.Links.length r_l0.2.2.2.cap], trow 22 rlines_4 llines_4, gtab 1 pow10] (by repeat (first | exact List.Sublist.refl _ | apply List.Sublist.cons_cons | apply List.Sublist.cons)) ?_
                refine aw_ev 0 rfl ev_move ?_
                refine aw_ev 1 rfl (ev_field_addr 1) ?_
                refine aw_ev 2 rfl (ev_load_own (b := b1)) ?_
                refine aw_ev 3 rfl (ev_field_addr 4) ?_
                refine aw_ev 4 rfl (ev_load_own (b := b47)) ?_
                obtain ⟨x61, hx62, hM⟩ := bind_some hM
                refine aw_ev 5 rfl (ev_idx (xs := l0.Points) 1 (Kn.imm (α := List Str) (r := r_l0.2.1) (x := l0.Points) (by repeat (first | exact Has.head | apply Has.tail))) (fun hg => let h := idx_some hx62; ⟨h.1, h.2.1⟩)) ?_
                refine aw_ev 6 rfl (ev_ld (i := x45.Point) (xs := l0.Points) (y := x61) 0 (Kn.imm (α := List Str) (r := r_l0.2.1) (x := l0.Points) (by repeat (first | exact Has.head | apply Has.tail))) (fun _ => hx62)) ?_
                refine aw_ev 7 rfl (ev_field_addr 5) ?_
                refine aw_ev 8 rfl (ev_load_own (b := b47)) ?_
                obtain ⟨y63, hy64, hM⟩ := bind_some hM
                refine aw_one 9 rfl (st_callv (fun w hm => let ⟨S, hs⟩ := hm; strconv_Itoa_spec _ w x45.Pos y63 hy64 (lend_lt hs) (Chunk.mono _ _ _ _ (fun _ h => .inl h) (((by repeat (first | exact Has.head | apply Has.tail)) : Has _ (gtab 1 pow10)).φ hs))) ⟨fun w hm => hm.sub (by repeat (first | exact List.Sublist.refl _ | apply List.Sublist.cons_cons | apply List.Sublist.cons)), ?_⟩)
                refine aw_one 10 rfl (st_bslice (α := Str) 9 (fun _ => ()) ([x61, y63] : List Str) (OkL.flat (fun _ _ _ _ => trivial)) (fun r65 => ⟨fun w hm => hm.sub (by repeat (first | exact List.Sublist.refl _ | apply List.Sublist.cons_cons | apply List.Sublist.cons)), ?_⟩))
                obtain ⟨hb67, hM⟩ := chk_some hM
                refine aw_one 11 rfl (st_append (r := r56) (r2 := r65) (by intro r'; repeat (first | exact Upd.head | apply Upd.tail)) (Kn.trow (e := 9) (r := r65) (by repeat (first | exact Has.head | apply Has.tail))) (OkL.flat (fun _ _ _ _ => trivial)) (of_decide_eq_true hb67) (fun r66 => ⟨fun w hm => hm.sub (by repeat (first | exact List.Sublist.refl _ | apply List.Sublist.cons_cons | apply List.Sublist.cons)), ?_⟩))
                refine aw_ev 12 rfl ev_assign ?_
                refine aw_done (hJ6 ((([(⟨[108, 105, 110, 107]⟩ : Str), x48.Name, x50, x52.Name, x54] : List Str) ++ ([x61, y63] : List Str)), r66) _ _ hM ⟨rfl, rfl, rfl, rfl, rfl, rfl, trivial⟩ (fun w hm => hm.reord))
              ·
                replace hM := (ite_f hc60).symm.trans hM
                refine cw_skip (hJ6 (([(⟨[108, 105, 110, 107]⟩ : Str), x48.Name, x50, x52.Name, x54] : List Str), r56) _ _ hM ⟨rfl, rfl, rfl, rfl, rfl, rfl, trivial⟩ (fun w hm => hm.reord))
            ·
              clear hM
              intro g hM
              obtain ⟨lline_j6, rline_j6⟩ := g
              dsimp only at hM ⊢
              dsimp only [layout_Format_k6] at hM
              refine cw_region ?_
              refine ow_ev ev_move ?_
              refine ow_ev ev_move ?_
              refine ow_imp (fun w hm => hm.freeze (r := rline_j6) (by repeat (first | exact Upd.head | apply Upd.tail))) ?_
              refine ow_cons (st_bslice (α := List Str) 22 (fun _ => rline_j6) ([lline_j6] : List (List Str)) (OkL.cons (fun S w hs => ((Sk.imm (α := List Str) (r := rline_j6) (x := lline_j6) (by repeat (first | exact Has.head | apply Has.tail))) S w hs)) OkL.nil) (fun r57 => ?_))
              obtain ⟨hb59, hM⟩ := chk_some hM
              refine ow_cons (st_append (r := rlines_4) (r2 := r57) (by intro r'; repeat (first | exact Upd.head | apply Upd.tail)) (Kn.trow (e := 22) (r := r57) (by repeat (first | exact Has.head | apply Has.tail))) (OkL.row (e := 22) (r := r57) (by repeat (first | exact Has.head | apply Has.tail))) (of_decide_eq_true hb59) (fun r58 => ?_))
              refine ow_ev ev_assign ?_
              refine ow_nil (hK30 _ _ ?_); clear hK30
              refine cw_region ?_
              refine ow_ev (ev_add (hr := fun _ => by unfold I64; omega)) ?_
              refine ow_ev ev_move ?_
              refine ow_nil (hL4 (nn4, ((llines_4 ++ ([lline_j6] : List (List Str))), t82_4 + 1), r58) _ _ (eqc hcont4 hM) (Nat.lt_succ_self _) ⟨rfl, rfl, rfl, rfl, rfl, trivial⟩ (fun w hm => hm.reord))
          ·
            replace hM := (ite_f hc44).symm.trans hM
            refine cw_exit (hK26 _ _ ?_); clear hK26
            dsimp only [layout_Format_k5] at hM
            refine cw_seq fun K34 hK34 => ?_
            refine cw_region ?_
            refine ow_ev ev_move ?_
            obtain ⟨y68, hy69, hM⟩ := bind_some hM
            refine ow_cons (st_callv (fun w hm => let ⟨S, hs⟩ := hm; words_Join_spec _ w llines_4 rlines_4 y68 hy69 (lend_lt hs) (Kn.lend (Kn.trow (e := 22) (r := rlines_4) (by repeat (first | exact Has.head | apply Has.tail))) hs)) ?_)
            refine ow_ev ev_assign ?_
            refine ow_nil (hK34 _ _ ?_); clear hK34
            obtain rfl := some_inj hM
            refine cw_ret (kw_retc1 (fun w hm => ret_of hm rfl))

end Go.Proofs.YtohhihdjdelckaaDoor
