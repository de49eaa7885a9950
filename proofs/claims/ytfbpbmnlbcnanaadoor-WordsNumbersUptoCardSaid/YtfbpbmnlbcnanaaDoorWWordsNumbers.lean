/- Models of functions, and that the code computes them. -/
import Derived.Test.YtfbpbmnlbcnanaaDoorWg
import Derived.Test.YtfbpbmnlbcnanaaDoorWi
import Derived.Test.YtfbpbmnlbcnanaaDoorWj
import Derived.Test.YtfbpbmnlbcnanaaDoorWf
namespace Go.Proofs.YtfbpbmnlbcnanaaDoor
open Go.Dc Go.RowKit
set_option maxRecDepth 10000
set_option linter.unusedVariables false
def law3_WordsNumbers_k1 : Unit → Option Bool := fun _ =>
  (law3_awake_m).bind fun y27 =>
  some y27
def law3_WordsNumbers_b1 (s0 : Str) (q3 : Str) (q5 : Str) (cont1 : Nat → Option Bool) : Nat → Option Bool := fun t34_1 =>
  if decide ((t34_1 : Int) < (([s0, q3, q5] : List Str).length : Int)) then
    ((idx ([s0, q3, q5] : List Str) (t34_1 : Int)).bind fun x10 =>
    (words_Number_m x10).bind fun y12 =>
    (idx ([s0, q3, q5] : List Str) (t34_1 : Int)).bind fun x14 =>
    (ref1_Number_m x14).bind fun y16 =>
    (idx ([s0, q3, q5] : List Str) (t34_1 : Int)).bind fun x18 =>
    (words_Range_m x18).bind fun y20 =>
    (idx ([s0, q3, q5] : List Str) (t34_1 : Int)).bind fun x22 =>
    (ref1_Range_m x22).bind fun y24 =>
    if ((((decide (y12.1 ≠ y16.1) || (!(y12.2 == y16.2))) || decide (y20.1 ≠ y24.1)) || decide (y20.2.1 ≠ y24.2.1)) || (!(y20.2.2 == y24.2.2))) then
      (some false)
    else
      (cont1 (t34_1 + 1)))
  else
    (law3_WordsNumbers_k1 ())
def law3_WordsNumbers_m (s0 : Str) (l0 : List UInt8) : Option Bool :=
  (law3_pieces_m l0).bind fun y1 =>
  (strSub y1 0 (if 12 < (y1.l.length : Int) then 12 else (y1.l.length : Int))).bind fun q3 =>
  (strSub y1 0 (if 3 < (y1.l.length : Int) then 3 else (y1.l.length : Int))).bind fun q5 =>
  iter (law3_WordsNumbers_b1 s0 q3 q5) FUEL 0
theorem law3_WordsNumbers_spec (S : Soup) (w : World) (s0 : Str) (l0 : List UInt8) (r_l0 : GoRep.R (List UInt8)) (y : Bool) (hM : law3_WordsNumbers_m s0 l0 = some y) (hS : ∀ k, S k → k < w.heap.size) (h_l0 : GoRep.ok S w r_l0 l0) (hg_0 : (gint 0).φ S w) :
    Calls Tryd.prog 9 #[.string s0.ba, .slice r_l0.a l0.length r_l0.cap] w (Ret w (.bool y)) := by
  refine calls_cw (args := [_, _]) Tryd.func9 rfl ((pre_nil hS).start |>.immP (α := List UInt8) (r := r_l0) (x := l0) h_l0|>.factP (c := gint 0) (fun _ h => False.elim h) hg_0) rfl ?_
  unfold law3_WordsNumbers_m at hM
  refine cw_seq fun K1 hK1 => ?_
  refine cw_region ?_
  refine ow_ev ev_assign ?_
  refine ow_nil (hK1 _ _ ?_); clear hK1
  refine cw_seq fun K2 hK2 => ?_
  refine cw_region ?_
  refine ow_ev ev_move ?_
  obtain ⟨y1, hy2, hM⟩ := bind_some hM
  refine ow_cons (st_callv (fun w hm => let ⟨S, hs⟩ := hm; law3_pieces_spec _ w l0 r_l0 y1 hy2 (lend_lt hs) (Kn.lend (Kn.imm (α := List UInt8) (r := r_l0) (x := l0) (by repeat (first | exact Has.head | apply Has.tail))) hs)) ?_)
  refine ow_ev ev_assign ?_
  refine ow_nil (hK2 _ _ ?_); clear hK2
  refine cw_seq fun K3 hK3 => ?_
  refine cw_region_any _ (List.Sublist.refl _) ?_
  refine aw_ev 0 rfl ev_move ?_
  refine aw_ev 1 rfl ev_move ?_
  refine aw_ev 2 rfl ev_move ?_
  refine aw_ev 3 rfl ev_slen ?_
  refine aw_ev 4 rfl ev_min2 ?_
  obtain ⟨q3, hq4, hM⟩ := bind_some hM
  refine aw_ev 5 rfl (ev_ssub (ol := none) (oh := some (.i64, (if 12 < (y1.l.length : Int) then 12 else (y1.l.length : Int)))) (fun _ => hq4)) ?_
  refine aw_ev 6 rfl ev_move ?_
  refine aw_ev 7 rfl ev_move ?_
  refine aw_ev 8 rfl ev_slen ?_
  refine aw_ev 9 rfl ev_min2 ?_
  obtain ⟨q5, hq6, hM⟩ := bind_some hM
  refine aw_ev 10 rfl (ev_ssub (ol := none) (oh := some (.i64, (if 3 < (y1.l.length : Int) then 3 else (y1.l.length : Int)))) (fun _ => hq6)) ?_
  refine aw_one 11 rfl (st_bslice (α := Str) 9 (fun _ => ()) ([s0, q3, q5] : List Str) (OkL.flat (fun _ _ _ _ => trivial)) (fun r7 => ⟨fun w hm => hm.sub (by repeat (first | exact List.Sublist.refl _ | apply List.Sublist.cons_cons | apply List.Sublist.cons)), ?_⟩))
  refine aw_ev 12 rfl ev_assign ?_
  refine aw_done (hK3 _ _ ?_); clear hK3
  refine cw_seq fun K4 hK4 => ?_
  refine cw_seq fun K5 hK5 => ?_
  refine cw_region ?_
  refine ow_ev ev_move ?_
  refine ow_have (fun w hm => Kn.len (Kn.trow (e := 9) (r := r7) (by repeat (first | exact Has.head | apply Has.tail))) hm) fun hl8 => ?_
  refine ow_ev ev_len ?_
  refine ow_ev ev_move ?_
  refine ow_nil (hK5 _ _ ?_); clear hK5
  refine cw_block ?_
  refine cw_loop (γ := Nat × Nat × Unit) (env := fun (_, t34_1, _) => [(6, .v (.slice r7.a (([s0, q3, q5] : List Str).length) r7.cap)), (33, .v (.int .i64 (([s0, q3, q5] : List Str).length : Int))), (34, .v (.int .i64 (t34_1 : Int)))]) (mem := fun (_, t34_1, _) => [trow 9 r7 ([s0, q3, q5] : List Str), gint 0]) (R := fun g => iter (law3_WordsNumbers_b1 s0 q3 q5) g.1 g.2.1 = some y) (μ := fun g => g.1) (FUEL, 0, ()) hM ⟨rfl, rfl, rfl, trivial⟩ (fun w hm => hm.reord) ?_
  clear hM
  intro g hM KL1 hL1
  obtain ⟨nn1, t34_1, ⟨⟩⟩ := g
  dsimp only at hM ⊢
  obtain ⟨nn1, cont1, rfl, hcont1, hM⟩ := iter_open' hM
  dsimp only [law3_WordsNumbers_b1] at hM
  refine cw_seq fun K6 hK6 => ?_
  refine cw_region ?_
  refine ow_ev ev_lss ?_
  refine ow_nil (hK6 _ _ ?_); clear hK6
  refine cw_seq fun K7 hK7 => ?_
  refine cw_cond rfl (fun hc9 => ?_) (fun hc9 => ?_)
  ·
    replace hM := (ite_t hc9).symm.trans hM
    have hc9d := of_decide_eq_true hc9
    refine cw_skip (hK7 _ _ ?_); clear hK7
    refine cw_seq fun K8 hK8 => ?_
    refine cw_block ?_
    refine cw_seq fun K9 hK9 => ?_
    refine cw_region ?_
    refine ow_ev ev_move ?_
    refine ow_ev ev_assign ?_
    refine ow_nil (hK9 _ _ ?_); clear hK9
    refine cw_seq fun K10 hK10 => ?_
    refine cw_region ?_
    refine ow_ev ev_move ?_
    refine ow_ev ev_move ?_
    obtain ⟨x10, hx11, hM⟩ := bind_some hM
    refine ow_ev (ev_idx (xs := ([s0, q3, q5] : List Str)) 1 (Kn.trow (e := 9) (r := r7) (by repeat (first | exact Has.head | apply Has.tail))) (fun hg => let h := idx_some hx11; ⟨h.1, h.2.1⟩)) ?_
    refine ow_ev (ev_ld (i := (t34_1 : Int)) (xs := ([s0, q3, q5] : List Str)) (y := x10) 0 (Kn.trow (e := 9) (r := r7) (by repeat (first | exact Has.head | apply Has.tail))) (fun _ => hx11)) ?_
    obtain ⟨y12, hy13, hM⟩ := bind_some hM
    refine ow_cons (st_callv (fun w hm => let ⟨S, hs⟩ := hm; words_Number_spec _ w x10 y12 hy13 (lend_lt hs) ) ?_)
    refine ow_ev ev_move ?_
    refine ow_ev (ev_extract (vs := [.int .i64 y12.1, .bool y12.2])) ?_
    refine ow_ev (ev_extract (vs := [.int .i64 y12.1, .bool y12.2])) ?_
    refine ow_ev ev_assign ?_
    refine ow_ev ev_assign ?_
    refine ow_nil (hK10 _ _ ?_); clear hK10
    refine cw_seq fun K11 hK11 => ?_
    refine cw_region ?_
    refine ow_ev ev_move ?_
    refine ow_ev ev_move ?_
    obtain ⟨x14, hx15, hM⟩ := bind_some hM
    refine ow_ev (ev_idx (xs := ([s0, q3, q5] : List Str)) 1 (Kn.trow (e := 9) (r := r7) (by repeat (first | exact Has.head | apply Has.tail))) (fun hg => let h := idx_some hx15; ⟨h.1, h.2.1⟩)) ?_
    refine ow_ev (ev_ld (i := (t34_1 : Int)) (xs := ([s0, q3, q5] : List Str)) (y := x14) 0 (Kn.trow (e := 9) (r := r7) (by repeat (first | exact Has.head | apply Has.tail))) (fun _ => hx15)) ?_
    obtain ⟨y16, hy17, hM⟩ := bind_some hM
    refine ow_cons (st_callv (fun w hm => let ⟨S, hs⟩ := hm; ref1_Number_spec _ w x14 y16 hy17 (lend_lt hs) ) ?_)
    refine ow_ev ev_move ?_
    refine ow_ev (ev_extract (vs := [.int .i64 y16.1, .bool y16.2])) ?_
    refine ow_ev (ev_extract (vs := [.int .i64 y16.1, .bool y16.2])) ?_
    refine ow_ev ev_assign ?_
    refine ow_ev ev_assign ?_
    refine ow_nil (hK11 _ _ ?_); clear hK11
    refine cw_seq fun K12 hK12 => ?_
    refine cw_region ?_
    refine ow_ev ev_move ?_
    refine ow_ev ev_move ?_
    obtain ⟨x18, hx19, hM⟩ := bind_some hM
    refine ow_ev (ev_idx (xs := ([s0, q3, q5] : List Str)) 1 (Kn.trow (e := 9) (r := r7) (by repeat (first | exact Has.head | apply Has.tail))) (fun hg => let h := idx_some hx19; ⟨h.1, h.2.1⟩)) ?_
    refine ow_ev (ev_ld (i := (t34_1 : Int)) (xs := ([s0, q3, q5] : List Str)) (y := x18) 0 (Kn.trow (e := 9) (r := r7) (by repeat (first | exact Has.head | apply Has.tail))) (fun _ => hx19)) ?_
    obtain ⟨y20, hy21, hM⟩ := bind_some hM
    refine ow_cons (st_callv (fun w hm => let ⟨S, hs⟩ := hm; words_Range_spec _ w x18 y20 hy21 (lend_lt hs) (Chunk.mono _ _ _ _ (fun _ h => .inl h) (((by repeat (first | exact Has.head | apply Has.tail)) : Has _ (gint 0)).φ hs))) ?_)
    refine ow_ev ev_move ?_
    refine ow_ev (ev_extract (vs := [.int .i64 y20.1, .int .i64 y20.2.1, .bool y20.2.2])) ?_
    refine ow_ev (ev_extract (vs := [.int .i64 y20.1, .int .i64 y20.2.1, .bool y20.2.2])) ?_
    refine ow_ev (ev_extract (vs := [.int .i64 y20.1, .int .i64 y20.2.1, .bool y20.2.2])) ?_
    refine ow_ev ev_assign ?_
    refine ow_ev ev_assign ?_
    refine ow_ev ev_assign ?_
    refine ow_nil (hK12 _ _ ?_); clear hK12
    refine cw_seq fun K13 hK13 => ?_
    refine cw_region ?_
    refine ow_ev ev_move ?_
    refine ow_ev ev_move ?_
    obtain ⟨x22, hx23, hM⟩ := bind_some hM
    refine ow_ev (ev_idx (xs := ([s0, q3, q5] : List Str)) 1 (Kn.trow (e := 9) (r := r7) (by repeat (first | exact Has.head | apply Has.tail))) (fun hg => let h := idx_some hx23; ⟨h.1, h.2.1⟩)) ?_
    refine ow_ev (ev_ld (i := (t34_1 : Int)) (xs := ([s0, q3, q5] : List Str)) (y := x22) 0 (Kn.trow (e := 9) (r := r7) (by repeat (first | exact Has.head | apply Has.tail))) (fun _ => hx23)) ?_
    obtain ⟨y24, hy25, hM⟩ := bind_some hM
    refine ow_cons (st_callv (fun w hm => let ⟨S, hs⟩ := hm; ref1_Range_spec _ w x22 y24 hy25 (lend_lt hs) ) ?_)
    refine ow_ev ev_move ?_
    refine ow_ev (ev_extract (vs := [.int .i64 y24.1, .int .i64 y24.2.1, .bool y24.2.2])) ?_
    refine ow_ev (ev_extract (vs := [.int .i64 y24.1, .int .i64 y24.2.1, .bool y24.2.2])) ?_
    refine ow_ev (ev_extract (vs := [.int .i64 y24.1, .int .i64 y24.2.1, .bool y24.2.2])) ?_
    refine ow_ev ev_assign ?_
    refine ow_ev ev_assign ?_
    refine ow_ev ev_assign ?_
    refine ow_nil (hK13 _ _ ?_); clear hK13
    refine cw_seq fun K14 hK14 => ?_
    refine cw_region ?_
    refine ow_ev ev_move ?_
    refine ow_ev ev_move ?_
    refine ow_ev ev_neq ?_
    refine ow_ev ev_move ?_
    refine ow_evg rfl ev_move ?_
    refine ow_evg rfl ev_move ?_
    refine ow_evg rfl ev_bool_neq ?_
    refine ow_ev ev_or ?_
    refine ow_ev ev_move ?_
    refine ow_evg rfl ev_move ?_
    refine ow_evg rfl ev_move ?_
    refine ow_evg rfl ev_neq ?_
    refine ow_ev ev_or ?_
    refine ow_ev ev_move ?_
    refine ow_evg rfl ev_move ?_
    refine ow_evg rfl ev_move ?_
    refine ow_evg rfl ev_neq ?_
    refine ow_ev ev_or ?_
    refine ow_ev ev_move ?_
    refine ow_evg rfl ev_move ?_
    refine ow_evg rfl ev_move ?_
    refine ow_evg rfl ev_bool_neq ?_
    refine ow_ev ev_or ?_
    refine ow_nil (hK14 _ _ ?_); clear hK14
    refine cw_cond rfl (fun hc26 => ?_) (fun hc26 => ?_)
    ·
      replace hM := (ite_t hc26).symm.trans hM
      refine cw_seq fun K15 hK15 => ?_
      refine cw_region ?_
      refine ow_ev ev_assign ?_
      refine ow_nil (hK15 _ _ ?_); clear hK15
      obtain rfl := some_inj hM
      refine cw_ret (kw_retc1 (fun w hm => ret_of hm rfl))
    ·
      replace hM := (ite_f hc26).symm.trans hM
      refine cw_skip (hK8 _ _ ?_); clear hK8
      refine cw_region ?_
      refine ow_ev (ev_add (hr := fun _ => by unfold I64; omega)) ?_
      refine ow_ev ev_move ?_
      refine ow_nil (hL1 (nn1, (t34_1 + 1), ()) _ _ (eqc hcont1 hM) (Nat.lt_succ_self _) ⟨rfl, rfl, rfl, trivial⟩ (fun w hm => hm.reord))
  ·
    replace hM := (ite_f hc9).symm.trans hM
    refine cw_exit (hK4 _ _ ?_); clear hK4
    dsimp only [law3_WordsNumbers_k1] at hM
    refine cw_seq fun K16 hK16 => ?_
    refine cw_region ?_
    obtain ⟨y27, hy28, hM⟩ := bind_some hM
    refine ow_cons (st_callv (fun w hm => let ⟨S, hs⟩ := hm; law3_awake_spec _ w  y27 hy28 (lend_lt hs) ) ?_)
    refine ow_ev ev_assign ?_
    refine ow_nil (hK16 _ _ ?_); clear hK16
    obtain rfl := some_inj hM
    refine cw_ret (kw_retc1 (fun w hm => ret_of hm rfl))

end Go.Proofs.YtfbpbmnlbcnanaaDoor
