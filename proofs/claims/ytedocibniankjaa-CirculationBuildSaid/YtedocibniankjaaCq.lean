/- Models of functions, and that the code computes them. -/
import Derived.Test.YtedocibniankjaaCw
import Derived.Test.YtedocibniankjaaD13
namespace Go.Proofs.Ytedocibniankjaa
open Go.Dc Go.RowKit
set_option maxRecDepth 10000
set_option linter.unusedVariables false
def ref24_best_k2 (n_1 : Int) (cont1 : ((List Int) × Int × Int × Int) → Option (Int × Int × (List Int))) : ((List Int) × Int × Int) → Option (Int × Int × (List Int)) := fun (lr_next0_j2, joined_j2, empty_j2) =>
  chk (i64b (n_1 + 1)) <|
  cont1 (lr_next0_j2, joined_j2, empty_j2, (n_1 + 1))
def ref24_best_k4 (y17 : Int × Int × (List Int)) (i0 : Int) (n_1 : Int) (cont1 : ((List Int) × Int × Int × Int) → Option (Int × Int × (List Int))) : (Int × Int) → Option (Int × Int × (List Int)) := fun (joined_j4, empty_j4) =>
  (idx y17.2.2 i0).bind fun x21 =>
  ref24_best_k2 n_1 cont1 ((y17.2.2.set i0.toNat (-1)), joined_j4, empty_j4)
def ref24_best_k3 (lr_next0_1 : List Int) (i0 : Int) (recf : (List Task) → Rules → (List Int) → Int → Option (Int × Int × (List Int))) (tasks0 : List Task) (r0 : Rules) (n_1 : Int) (joined_1 : Int) (empty_1 : Int) (cont1 : ((List Int) × Int × Int × Int) → Option (Int × Int × (List Int))) : Unit → Option (Int × Int × (List Int)) := fun _ =>
  (idx lr_next0_1 i0).bind fun x14 =>
  chk (i64b (i0 + 1)) <|
  (recf tasks0 r0 (lr_next0_1.set i0.toNat n_1) (i0 + 1)).bind fun y17 =>
  chk (decide (y17.2.2.length = (lr_next0_1.set i0.toNat n_1).length)) <|
  if (decide (joined_1 < y17.1) || (decide (y17.1 = joined_1) && decide (y17.2.1 < empty_1))) then
    (ref24_best_k4 y17 i0 n_1 cont1 (y17.1, y17.2.1))
  else
    (ref24_best_k4 y17 i0 n_1 cont1 (joined_1, empty_1))
def ref24_best_k1 (joined_1 : Int) (empty_1 : Int) (lr_next0_1 : List Int) : Unit → Option (Int × Int × (List Int)) := fun _ =>
  some (joined_1, empty_1, lr_next0_1)
def ref24_best_b1 (tasks0 : List Task) (i0 : Int) (r0 : Rules) (recf : (List Task) → Rules → (List Int) → Int → Option (Int × Int × (List Int))) (cont1 : ((List Int) × Int × Int × Int) → Option (Int × Int × (List Int))) : ((List Int) × Int × Int × Int) → Option (Int × Int × (List Int)) := fun (lr_next0_1, joined_1, empty_1, n_1) =>
  if decide (n_1 < (tasks0.length : Int)) then
    ((whn (decide (0 ≤ n_1)) default (sub lr_next0_1 0 i0)).bind fun l9 =>
    (whn (decide (0 ≤ n_1)) default (ref24_member_m l9 n_1)).bind fun y11 =>
    if (decide (0 ≤ n_1) && y11) then
      (ref24_best_k2 n_1 cont1 (lr_next0_1, joined_1, empty_1))
    else
      (if decide (0 ≤ n_1) then
        ((idx tasks0 i0).bind fun x25 =>
        (idx tasks0 n_1).bind fun x27 =>
        (ref24_Follows_m r0 x25 x27).bind fun y29 =>
        if (!y29.2) then
          (ref24_best_k2 n_1 cont1 (lr_next0_1, joined_1, empty_1))
        else
          (ref24_best_k3 lr_next0_1 i0 recf tasks0 r0 n_1 joined_1 empty_1 cont1 ()))
      else
        (ref24_best_k3 lr_next0_1 i0 recf tasks0 r0 n_1 joined_1 empty_1 cont1 ())))
  else
    (ref24_best_k1 joined_1 empty_1 lr_next0_1 ())
def ref24_best_F (recf : (List Task) → Rules → (List Int) → Int → Option (Int × Int × (List Int))) (tasks0 : List Task) (r0 : Rules) (next0 : List Int) (i0 : Int) : Option (Int × Int × (List Int)) :=
  if decide (i0 = (tasks0.length : Int)) then
    ((ref24_EmptySeconds_m tasks0 r0 next0).bind fun y3 =>
    (ref24_Joined_m next0).bind fun y5 =>
    some (y5, y3.1, next0))
  else
    (iter (ref24_best_b1 tasks0 i0 r0 recf) FUEL (next0, (-1), 0, (-1)))
def ref24_best_f : Nat → (List Task) → Rules → (List Int) → Int → Option (Int × Int × (List Int))
  | 0 => fun _ _ _ _ => none
  | n + 1 => ref24_best_F (ref24_best_f n)
def ref24_best_m (tasks0 : List Task) (r0 : Rules) (next0 : List Int) (i0 : Int) : Option (Int × Int × (List Int)) := ref24_best_f FUEL tasks0 r0 next0 i0
theorem ref24_best_step (recf : (List Task) → Rules → (List Int) → Int → Option (Int × Int × (List Int))) (hrec : ∀ (S : Soup) (w : World) (tasks0 : List Task) (r_tasks0 : GoRep.R (List Task)) (r0 : Rules) (r_r0 : GoRep.R Rules) (next0 : List Int) (r_next0 : GoRep.R (List Int)) (i0 : Int) (y : Int × Int × (List Int)) (hM : recf tasks0 r0 next0 i0 = some y) (hP : Pre S [trow 3 r_next0 next0] w) (h_tasks0 : GoRep.ok S w r_tasks0 tasks0) (h_r0 : GoRep.ok S w r_r0 r0), Calls Try.prog 70 #[.slice r_tasks0.a tasks0.length r_tasks0.cap, .agg #[.int .i64 r0.Turn, .slice r_r0.1.a r0.Empties.length r_r0.1.cap, .slice r_r0.2.a r0.Shops.length r_r0.2.cap, .int .i64 r0.Service, .int .i64 r0.Limit], .slice r_next0.a next0.length r_next0.cap, .int .i64 i0] w (Post (β := Unit) S [trow 3 r_next0 next0] (fun g => .tuple #[.int .i64 y.1, .int .i64 y.2.1]) (fun g => [trow 3 r_next0 y.2.2]) w)) (S : Soup) (w : World) (tasks0 : List Task) (r_tasks0 : GoRep.R (List Task)) (r0 : Rules) (r_r0 : GoRep.R Rules) (next0 : List Int) (r_next0 : GoRep.R (List Int)) (i0 : Int) (y : Int × Int × (List Int)) (hM : ref24_best_F recf tasks0 r0 next0 i0 = some y) (hP : Pre S [trow 3 r_next0 next0] w) (h_tasks0 : GoRep.ok S w r_tasks0 tasks0) (h_r0 : GoRep.ok S w r_r0 r0) :
    Calls Try.prog 70 #[.slice r_tasks0.a tasks0.length r_tasks0.cap, .agg #[.int .i64 r0.Turn, .slice r_r0.1.a r0.Empties.length r_r0.1.cap, .slice r_r0.2.a r0.Shops.length r_r0.2.cap, .int .i64 r0.Service, .int .i64 r0.Limit], .slice r_next0.a next0.length r_next0.cap, .int .i64 i0] w (Post (β := Unit) S [trow 3 r_next0 next0] (fun g => .tuple #[.int .i64 y.1, .int .i64 y.2.1]) (fun g => [trow 3 r_next0 y.2.2]) w) := by
  refine calls_cw (args := [_, _, _, _]) Try.func70 rfl (hP.start |>.immP (α := List Task) (r := r_tasks0) (x := tasks0) h_tasks0|>.immP (α := List EmptyT) (r := r_r0.1) (x := r0.Empties) h_r0.1|>.immP (α := List Int) (r := r_r0.2) (x := r0.Shops) h_r0.2) rfl ?_
  unfold ref24_best_F at hM
  refine cw_seq fun K1 hK1 => ?_
  refine cw_region ?_
  refine ow_cons (st_box (l := [.int .i64 r0.Turn, .slice r_r0.1.a r0.Empties.length r_r0.1.cap, .slice r_r0.2.a r0.Shops.length r_r0.2.cap, .int .i64 r0.Service, .int .i64 r0.Limit]) (k := fun b1 => ?_))
  refine ow_ev ev_assign ?_
  refine ow_ev ev_assign ?_
  refine ow_nil (hK1 _ _ ?_); clear hK1
  refine cw_seq fun K2 hK2 => ?_
  refine cw_seq fun K3 hK3 => ?_
  refine cw_region ?_
  refine ow_ev ev_move ?_
  refine ow_ev ev_move ?_
  refine ow_ev ev_len ?_
  refine ow_ev ev_eql ?_
  refine ow_nil (hK3 _ _ ?_); clear hK3
  refine cw_cond rfl (fun hc2 => ?_) (fun hc2 => ?_)
  ·
    replace hM := (ite_t hc2).symm.trans hM
    refine cw_seq fun K4 hK4 => ?_
    refine cw_region ?_
    refine ow_ev ev_move ?_
    refine ow_ev (ev_load_all (b := b1)) ?_
    refine ow_ev ev_move ?_
    obtain ⟨y3, hy4, hM⟩ := bind_some hM
    refine ow_cons (st_callv (fun w hm => let ⟨S, hs⟩ := hm; ref24_EmptySeconds_spec _ w tasks0 r_tasks0 r0 r_r0 next0 r_next0 y3 hy4 (lend_lt hs) (Kn.lend (Kn.imm (α := List Task) (r := r_tasks0) (x := tasks0) (by repeat (first | exact Has.head | apply Has.tail))) hs) ⟨(Kn.lend (Kn.imm (α := List EmptyT) (r := r_r0.1) (x := r0.Empties) (by repeat (first | exact Has.head | apply Has.tail))) hs), (Kn.lend (Kn.imm (α := List Int) (r := r_r0.2) (x := r0.Shops) (by repeat (first | exact Has.head | apply Has.tail))) hs)⟩ (Kn.lend (Kn.trow (e := 3) (r := r_next0) (by repeat (first | exact Has.head | apply Has.tail))) hs)) ?_)
    refine ow_ev ev_move ?_
    refine ow_ev (ev_extract (vs := [.int .i64 y3.1, .int .i64 y3.2])) ?_
    refine ow_ev (ev_extract (vs := [.int .i64 y3.1, .int .i64 y3.2])) ?_
    refine ow_ev ev_assign ?_
    refine ow_ev ev_assign ?_
    refine ow_nil (hK4 _ _ ?_); clear hK4
    refine cw_seq fun K5 hK5 => ?_
    refine cw_region ?_
    refine ow_ev ev_move ?_
    obtain ⟨y5, hy6, hM⟩ := bind_some hM
    refine ow_cons (st_callv (fun w hm => let ⟨S, hs⟩ := hm; ref24_Joined_spec _ w next0 r_next0 y5 hy6 (lend_lt hs) (Kn.lend (Kn.trow (e := 3) (r := r_next0) (by repeat (first | exact Has.head | apply Has.tail))) hs)) ?_)
    refine ow_ev ev_move ?_
    refine ow_ev ev_assign ?_
    refine ow_ev ev_assign ?_
    refine ow_nil (hK5 _ _ ?_); clear hK5
    obtain rfl := some_inj hM
    refine cw_ret (kw_retc2 (fun w hm => post_of () hm rfl))
  ·
    replace hM := (ite_f hc2).symm.trans hM
    refine cw_skip (hK2 _ _ ?_); clear hK2
    refine cw_seq fun K6 hK6 => ?_
    refine cw_region ?_
    refine ow_ev ev_assign ?_
    refine ow_ev ev_assign ?_
    refine ow_nil (hK6 _ _ ?_); clear hK6
    refine cw_seq fun K7 hK7 => ?_
    refine cw_seq fun K8 hK8 => ?_
    refine cw_region ?_
    refine ow_ev ev_assign ?_
    refine ow_nil (hK8 _ _ ?_); clear hK8
    refine cw_block ?_
    refine cw_loop (γ := Nat × ((List Int) × Int × Int × Int) × Unit) (env := fun (_, (lr_next0_1, joined_1, empty_1, n_1), _) => [(0, .v (.slice r_tasks0.a tasks0.length r_tasks0.cap)), (2, .v (.slice r_next0.a lr_next0_1.length r_next0.cap)), (3, .v (.int .i64 i0)), (5, .v (.pointer (some ⟨b1, 0, none⟩))), (12, .v (.int .i64 joined_1)), (13, .v (.int .i64 empty_1)), (14, .v (.int .i64 n_1))]) (mem := fun (_, (lr_next0_1, joined_1, empty_1, n_1), _) => [trow 3 r_next0 lr_next0_1, imm (α := (List Task)) r_tasks0 tasks0, imm (α := (List EmptyT)) r_r0.1 r0.Empties, imm (α := (List Int)) r_r0.2 r0.Shops, own b1 53 [.int .i64 r0.Turn, .slice r_r0.1.a r0.Empties.length r_r0.1.cap, .slice r_r0.2.a r0.Shops.length r_r0.2.cap, .int .i64 r0.Service, .int .i64 r0.Limit]]) (R := fun g => iter (ref24_best_b1 tasks0 i0 r0 recf) g.1 g.2.1 = some y) (μ := fun g => g.1) (FUEL, (next0, (-1), 0, (-1)), ()) hM ⟨rfl, rfl, rfl, rfl, rfl, rfl, rfl, trivial⟩ (fun w hm => hm.reord) ?_
    clear hM
    intro g hM KL1 hL1
    obtain ⟨nn1, ⟨lr_next0_1, joined_1, empty_1, n_1⟩, ⟨⟩⟩ := g
    dsimp only at hM ⊢
    obtain ⟨nn1, cont1, rfl, hcont1, hM⟩ := iter_open' hM
    dsimp only [ref24_best_b1] at hM
    refine cw_seq fun K9 hK9 => ?_
    refine cw_seq fun K10 hK10 => ?_
    refine cw_region ?_
    refine ow_ev ev_move ?_
    refine ow_ev ev_move ?_
    refine ow_ev ev_len ?_
    refine ow_ev ev_lss ?_
    refine ow_nil (hK10 _ _ ?_); clear hK10
    refine cw_cond rfl (fun hc7 => ?_) (fun hc7 => ?_)
    ·
      replace hM := (ite_t hc7).symm.trans hM
      refine cw_skip (hK9 _ _ ?_); clear hK9
      refine cw_cut (γ := ((List Int) × Int × Int) × Unit) (env := fun ((lr_next0_j2, joined_j2, empty_j2), _) => [(0, .v (.slice r_tasks0.a tasks0.length r_tasks0.cap)), (2, .v (.slice r_next0.a lr_next0_j2.length r_next0.cap)), (3, .v (.int .i64 i0)), (5, .v (.pointer (some ⟨b1, 0, none⟩))), (12, .v (.int .i64 joined_j2)), (13, .v (.int .i64 empty_j2)), (14, .v (.int .i64 n_1))]) (mem := fun ((lr_next0_j2, joined_j2, empty_j2), _) => [trow 3 r_next0 lr_next0_j2, imm (α := (List Task)) r_tasks0 tasks0, imm (α := (List EmptyT)) r_r0.1 r0.Empties, imm (α := (List Int)) r_r0.2 r0.Shops, own b1 53 [.int .i64 r0.Turn, .slice r_r0.1.a r0.Empties.length r_r0.1.cap, .slice r_r0.2.a r0.Shops.length r_r0.2.cap, .int .i64 r0.Service, .int .i64 r0.Limit]]) (R := fun g => ref24_best_k2 n_1 cont1 g.1 = some y) ?_ ?_
      · intro KJ2 hJ2
        refine cw_block ?_
        refine cw_seq fun K11 hK11 => ?_
        refine cw_seq fun K12 hK12 => ?_
        refine cw_region ?_
        refine ow_ev ev_move ?_
        refine ow_ev ev_geq ?_
        refine ow_ev ev_move ?_
        refine ow_evg rfl ev_move ?_
        refine ow_evg rfl ev_move ?_
        obtain ⟨l9, hl10, hM⟩ := bind_some hM
        refine ow_evg rfl (ev_subv (xs := lr_next0_1) (ol := none) (oh := some (.i64, i0)) (Kn.trow (e := 3) (r := r_next0) (by repeat (first | exact Has.head | apply Has.tail))) (whn_some hl10)) ?_
        refine ow_evg rfl ev_move ?_
        obtain ⟨y11, hy12, hM⟩ := bind_some hM
        refine ow_callg rfl (fun hg w hm => let ⟨S, hs⟩ := hm; ref24_member_spec _ w l9 (r_next0.sub (oval none 0).toNat (GoRep.n Int)) n_1 y11 (whn_some hy12 hg) (lend_lt hs) (Kn.lend (Kn.subv (Kn.trow (e := 3) (r := r_next0) (by repeat (first | exact Has.head | apply Has.tail))) (whn_some hl10 hg)) hs)) ?_
        refine ow_ev ev_and ?_
        refine ow_nil (hK12 _ _ ?_); clear hK12
        refine cw_cond rfl (fun hc13 => ?_) (fun hc13 => ?_)
        ·
          replace hM := (ite_t hc13).symm.trans hM
          refine cw_exit (hJ2 ((lr_next0_1, joined_1, empty_1), ()) _ _ hM ⟨rfl, rfl, rfl, rfl, rfl, rfl, rfl, trivial⟩ (fun w hm => hm.reord))
        ·
          replace hM := (ite_f hc13).symm.trans hM
          refine cw_skip (hK11 _ _ ?_); clear hK11
          refine cw_cut (γ := Unit × Unit) (env := fun (_, _) => [(0, .v (.slice r_tasks0.a tasks0.length r_tasks0.cap)), (2, .v (.slice r_next0.a lr_next0_1.length r_next0.cap)), (3, .v (.int .i64 i0)), (5, .v (.pointer (some ⟨b1, 0, none⟩))), (12, .v (.int .i64 joined_1)), (13, .v (.int .i64 empty_1)), (14, .v (.int .i64 n_1))]) (mem := fun (_, _) => [trow 3 r_next0 lr_next0_1, imm (α := (List Task)) r_tasks0 tasks0, imm (α := (List EmptyT)) r_r0.1 r0.Empties, imm (α := (List Int)) r_r0.2 r0.Shops, own b1 53 [.int .i64 r0.Turn, .slice r_r0.1.a r0.Empties.length r_r0.1.cap, .slice r_r0.2.a r0.Shops.length r_r0.2.cap, .int .i64 r0.Service, .int .i64 r0.Limit]]) (R := fun g => ref24_best_k3 lr_next0_1 i0 recf tasks0 r0 n_1 joined_1 empty_1 cont1 g.1 = some y) ?_ ?_
          · intro KJ3 hJ3
            refine cw_seq fun K16 hK16 => ?_
            refine cw_region ?_
            refine ow_ev ev_move ?_
            refine ow_ev ev_geq ?_
            refine ow_nil (hK16 _ _ ?_); clear hK16
            refine cw_cond rfl (fun hc24 => ?_) (fun hc24 => ?_)
            ·
              replace hM := (ite_t hc24).symm.trans hM
              refine cw_seq fun K17 hK17 => ?_
              refine cw_region_any _ (List.Sublist.refl _) ?_
              refine aw_ev 0 rfl (ev_load_all (b := b1)) ?_
              refine aw_ev 1 rfl ev_move ?_
              refine aw_ev 2 rfl ev_move ?_
              obtain ⟨x25, hx26, hM⟩ := bind_some hM
              refine aw_ev 3 rfl (ev_idx (xs := tasks0) 5 (Kn.imm (α := List Task) (r := r_tasks0) (x := tasks0) (by repeat (first | exact Has.head | apply Has.tail))) (fun hg => let h := idx_some hx26; ⟨h.1, h.2.1⟩)) ?_
              refine aw_ev 4 rfl (ev_lds (m := 5) (i := i0) (xs := tasks0) (y := x25) (l := [.int .i64 x25.Type_, .int .i64 x25.From, .int .i64 x25.To, .int .i64 x25.Start, .int .i64 x25.End]) 0 (Kn.imm (α := List Task) (r := r_tasks0) (x := tasks0) (by repeat (first | exact Has.head | apply Has.tail))) (fun _ => hx26)) ?_
              refine aw_ev 5 rfl ev_move ?_
              refine aw_ev 6 rfl ev_move ?_
              obtain ⟨x27, hx28, hM⟩ := bind_some hM
              refine aw_ev 7 rfl (ev_idx (xs := tasks0) 5 (Kn.imm (α := List Task) (r := r_tasks0) (x := tasks0) (by repeat (first | exact Has.head | apply Has.tail))) (fun hg => let h := idx_some hx28; ⟨h.1, h.2.1⟩)) ?_
              refine aw_ev 8 rfl (ev_lds (m := 5) (i := n_1) (xs := tasks0) (y := x27) (l := [.int .i64 x27.Type_, .int .i64 x27.From, .int .i64 x27.To, .int .i64 x27.Start, .int .i64 x27.End]) 0 (Kn.imm (α := List Task) (r := r_tasks0) (x := tasks0) (by repeat (first | exact Has.head | apply Has.tail))) (fun _ => hx28)) ?_
              obtain ⟨y29, hy30, hM⟩ := bind_some hM
              refine aw_one 9 rfl (st_callv (fun w hm => let ⟨S, hs⟩ := hm; ref24_Follows_spec _ w r0 r_r0 x25 x27 y29 hy30 (lend_lt hs) ⟨(Kn.lend (Kn.imm (α := List EmptyT) (r := r_r0.1) (x := r0.Empties) (by repeat (first | exact Has.head | apply Has.tail))) hs), (Kn.lend (Kn.imm (α := List Int) (r := r_r0.2) (x := r0.Shops) (by repeat (first | exact Has.head | apply Has.tail))) hs)⟩) ⟨fun w hm => hm.sub (by repeat (first | exact List.Sublist.refl _ | apply List.Sublist.cons_cons | apply List.Sublist.cons)), ?_⟩)
              refine aw_ev 10 rfl ev_move ?_
              refine aw_ev 11 rfl (ev_extract (vs := [.int .i64 y29.1, .bool y29.2])) ?_
              refine aw_ev 12 rfl (ev_extract (vs := [.int .i64 y29.1, .bool y29.2])) ?_
              refine aw_ev 13 rfl ev_assign ?_
              refine aw_ev 14 rfl ev_assign ?_
              refine aw_done (hK17 _ _ ?_); clear hK17
              refine cw_seq fun K18 hK18 => ?_
              refine cw_region ?_
              refine ow_ev ev_move ?_
              refine ow_ev ev_not ?_
              refine ow_nil (hK18 _ _ ?_); clear hK18
              refine cw_cond rfl (fun hc31 => ?_) (fun hc31 => ?_)
              ·
                replace hM := (ite_t hc31).symm.trans hM
                refine cw_exit (hJ2 ((lr_next0_1, joined_1, empty_1), ()) _ _ hM ⟨rfl, rfl, rfl, rfl, rfl, rfl, rfl, trivial⟩ (fun w hm => hm.reord))
              ·
                replace hM := (ite_f hc31).symm.trans hM
                refine cw_skip (hJ3 ((), ()) _ _ hM ⟨rfl, rfl, rfl, rfl, rfl, rfl, rfl, trivial⟩ (fun w hm => hm.reord))
            ·
              replace hM := (ite_f hc24).symm.trans hM
              refine cw_skip (hJ3 ((), ()) _ _ hM ⟨rfl, rfl, rfl, rfl, rfl, rfl, rfl, trivial⟩ (fun w hm => hm.reord))
          ·
            clear hM
            intro g hM
            obtain ⟨⟨⟩, ⟨⟩⟩ := g
            dsimp only at hM ⊢
            dsimp only [ref24_best_k3] at hM
            refine cw_seq fun K13 hK13 => ?_
            refine cw_region ?_
            refine ow_ev ev_move ?_
            refine ow_ev ev_move ?_
            refine ow_ev ev_move ?_
            obtain ⟨x14, hx15, hM⟩ := bind_some hM
            refine ow_ev (ev_idx (xs := lr_next0_1) 1 (Kn.trow (e := 3) (r := r_next0) (by repeat (first | exact Has.head | apply Has.tail))) (fun hg => let h := idx_some hx15; ⟨h.1, h.2.1⟩)) ?_
            refine ow_cons (st_set (r := r_next0) (i := i0) (xs := lr_next0_1) (u := x14) (vs := [.int .i64 n_1]) 0 n_1 hx15 rfl (fun _ _ h => h) (by repeat (first | exact Upd.head | apply Upd.tail)) ?_)
            refine ow_nil (hK13 _ _ ?_); clear hK13
            refine cw_seq fun K14 hK14 => ?_
            refine cw_region ?_
            refine ow_ev ev_move ?_
            refine ow_ev (ev_load_all (b := b1)) ?_
            refine ow_ev ev_move ?_
            refine ow_ev ev_move ?_
            obtain ⟨hI16, hM⟩ := chk_some hM
            refine ow_ev (ev_add (hr := fun hg => i64b_I64 hI16)) ?_
            refine ow_same 72 (v' := .slice r_next0.a ((lr_next0_1.set i0.toNat n_1).length) r_next0.cap) rfl (by simp only [List.length_set]) ?_
            obtain ⟨y17, hy18, hM⟩ := bind_some hM
            refine ow_cons (st_callF (by repeat (first | exact SelL.nil | (apply SelL.cons; · (repeat (first | exact Sel.head | apply Sel.tail))))) (fun S w hs hP => hrec _ w tasks0 r_tasks0 r0 r_r0 (lr_next0_1.set i0.toNat n_1) r_next0 (i0 + 1) y17 hy18 hP (Kn.lend (Kn.imm (α := List Task) (r := r_tasks0) (x := tasks0) (by repeat (first | exact Has.head | apply Has.tail))) hs) ⟨(Kn.lend (Kn.imm (α := List EmptyT) (r := r_r0.1) (x := r0.Empties) (by repeat (first | exact Has.head | apply Has.tail))) hs), (Kn.lend (Kn.imm (α := List Int) (r := r_r0.2) (x := r0.Shops) (by repeat (first | exact Has.head | apply Has.tail))) hs)⟩) (by intro r c hc; simp only [List.mem_cons, List.not_mem_nil, or_false] at hc; rcases hc with rfl <;> first | exact flatC_own | exact flatC_trow (fun _ _ _ _ => trivial)) (fun r19 => ?_))
            dsimp only [List.cons_append, List.nil_append]
            obtain ⟨hn20, hM⟩ := chk_some hM
            refine ow_same 2 (v' := .slice r_next0.a y17.2.2.length r_next0.cap) rfl (by simp only [of_decide_eq_true hn20, List.length_set]) ?_
            refine ow_same 65 (v' := .slice r_next0.a y17.2.2.length r_next0.cap) rfl (by simp only [of_decide_eq_true hn20, List.length_set]) ?_
            refine ow_same 72 (v' := .slice r_next0.a y17.2.2.length r_next0.cap) rfl (by simp only [of_decide_eq_true hn20, List.length_set]) ?_
            refine ow_ev ev_move ?_
            refine ow_ev (ev_extract (vs := [.int .i64 y17.1, .int .i64 y17.2.1])) ?_
            refine ow_ev (ev_extract (vs := [.int .i64 y17.1, .int .i64 y17.2.1])) ?_
            refine ow_ev ev_assign ?_
            refine ow_ev ev_assign ?_
            refine ow_nil (hK14 _ _ ?_); clear hK14
            refine cw_cut (γ := (Int × Int) × Unit) (env := fun ((joined_j4, empty_j4), _) => [(0, .v (.slice r_tasks0.a tasks0.length r_tasks0.cap)), (2, .v (.slice r_next0.a y17.2.2.length r_next0.cap)), (3, .v (.int .i64 i0)), (5, .v (.pointer (some ⟨b1, 0, none⟩))), (12, .v (.int .i64 joined_j4)), (13, .v (.int .i64 empty_j4)), (14, .v (.int .i64 n_1))]) (mem := fun ((joined_j4, empty_j4), _) => [trow 3 r_next0 y17.2.2, imm (α := (List Task)) r_tasks0 tasks0, imm (α := (List EmptyT)) r_r0.1 r0.Empties, imm (α := (List Int)) r_r0.2 r0.Shops, own b1 53 [.int .i64 r0.Turn, .slice r_r0.1.a r0.Empties.length r_r0.1.cap, .slice r_r0.2.a r0.Shops.length r_r0.2.cap, .int .i64 r0.Service, .int .i64 r0.Limit]]) (R := fun g => ref24_best_k4 y17 i0 n_1 cont1 g.1 = some y) ?_ ?_
            · intro KJ4 hJ4
              refine cw_seq fun K15 hK15 => ?_
              refine cw_region ?_
              refine ow_ev ev_move ?_
              refine ow_ev ev_move ?_
              refine ow_ev ev_gtr ?_
              refine ow_ev ev_move ?_
              refine ow_evg rfl ev_move ?_
              refine ow_evg rfl ev_move ?_
              refine ow_evg rfl ev_eql ?_
              refine ow_evg rfl ev_move ?_
              refine ow_evg rfl ev_move ?_
              refine ow_evg rfl ev_move ?_
              refine ow_evg rfl ev_lss ?_
              refine ow_evg rfl ev_and ?_
              refine ow_ev ev_or ?_
              refine ow_nil (hK15 _ _ ?_); clear hK15
              refine cw_cond rfl (fun hc23 => ?_) (fun hc23 => ?_)
              ·
                replace hM := (ite_t hc23).symm.trans hM
                refine cw_region ?_
                refine ow_ev ev_move ?_
                refine ow_ev ev_move ?_
                refine ow_ev ev_assign ?_
                refine ow_ev ev_assign ?_
                refine ow_nil (hJ4 ((y17.1, y17.2.1), ()) _ _ hM ⟨rfl, rfl, rfl, rfl, rfl, rfl, rfl, trivial⟩ (fun w hm => hm.reord))
              ·
                replace hM := (ite_f hc23).symm.trans hM
                refine cw_skip (hJ4 ((joined_1, empty_1), ()) _ _ hM ⟨rfl, rfl, rfl, rfl, rfl, rfl, rfl, trivial⟩ (fun w hm => hm.reord))
            ·
              clear hM
              intro g hM
              obtain ⟨⟨joined_j4, empty_j4⟩, ⟨⟩⟩ := g
              dsimp only at hM ⊢
              dsimp only [ref24_best_k4] at hM
              refine cw_region ?_
              refine ow_ev ev_move ?_
              refine ow_ev ev_move ?_
              obtain ⟨x21, hx22, hM⟩ := bind_some hM
              refine ow_ev (ev_idx (xs := y17.2.2) 1 (Kn.trow (e := 3) (r := r_next0) (by repeat (first | exact Has.head | apply Has.tail))) (fun hg => let h := idx_some hx22; ⟨h.1, h.2.1⟩)) ?_
              refine ow_cons (st_set (r := r_next0) (i := i0) (xs := y17.2.2) (u := x21) (vs := [.int .i64 (-1)]) 0 (-1) hx22 rfl (fun _ _ h => h) (by repeat (first | exact Upd.head | apply Upd.tail)) ?_)
              refine ow_nil (hJ2 (((y17.2.2.set i0.toNat (-1)), joined_j4, empty_j4), ()) _ _ hM ⟨rfl, (by simp only [List.length_set]; rfl), rfl, rfl, rfl, rfl, rfl, trivial⟩ (fun w hm => hm.reord))
      ·
        clear hM
        intro g hM
        obtain ⟨⟨lr_next0_j2, joined_j2, empty_j2⟩, ⟨⟩⟩ := g
        dsimp only at hM ⊢
        dsimp only [ref24_best_k2] at hM
        refine cw_region ?_
        refine ow_ev ev_move ?_
        obtain ⟨hI8, hM⟩ := chk_some hM
        refine ow_ev (ev_add (hr := fun hg => i64b_I64 hI8)) ?_
        refine ow_ev ev_assign ?_
        refine ow_nil (hL1 (nn1, (lr_next0_j2, joined_j2, empty_j2, (n_1 + 1)), ()) _ _ (eqc hcont1 hM) (Nat.lt_succ_self _) ⟨rfl, rfl, rfl, rfl, rfl, rfl, rfl, trivial⟩ (fun w hm => hm.reord))
    ·
      replace hM := (ite_f hc7).symm.trans hM
      refine cw_exit (hK7 _ _ ?_); clear hK7
      dsimp only [ref24_best_k1] at hM
      refine cw_seq fun K19 hK19 => ?_
      refine cw_region ?_
      refine ow_ev ev_move ?_
      refine ow_ev ev_move ?_
      refine ow_ev ev_assign ?_
      refine ow_ev ev_assign ?_
      refine ow_nil (hK19 _ _ ?_); clear hK19
      obtain rfl := some_inj hM
      refine cw_ret (kw_retc2 (fun w hm => post_of () hm rfl))
theorem ref24_best_spec_f (n : Nat) : ∀ (S : Soup) (w : World) (tasks0 : List Task) (r_tasks0 : GoRep.R (List Task)) (r0 : Rules) (r_r0 : GoRep.R Rules) (next0 : List Int) (r_next0 : GoRep.R (List Int)) (i0 : Int) (y : Int × Int × (List Int)) (hM : ref24_best_f n tasks0 r0 next0 i0 = some y) (hP : Pre S [trow 3 r_next0 next0] w) (h_tasks0 : GoRep.ok S w r_tasks0 tasks0) (h_r0 : GoRep.ok S w r_r0 r0), Calls Try.prog 70 #[.slice r_tasks0.a tasks0.length r_tasks0.cap, .agg #[.int .i64 r0.Turn, .slice r_r0.1.a r0.Empties.length r_r0.1.cap, .slice r_r0.2.a r0.Shops.length r_r0.2.cap, .int .i64 r0.Service, .int .i64 r0.Limit], .slice r_next0.a next0.length r_next0.cap, .int .i64 i0] w (Post (β := Unit) S [trow 3 r_next0 next0] (fun g => .tuple #[.int .i64 y.1, .int .i64 y.2.1]) (fun g => [trow 3 r_next0 y.2.2]) w) := by
  induction n with
  | zero => intro S w tasks0 r_tasks0 r0 r_r0 next0 r_next0 i0 y hM hP h_tasks0 h_r0; exact absurd hM (by intro h; cases h)
  | succ n ih => intro S w tasks0 r_tasks0 r0 r_r0 next0 r_next0 i0 y hM hP h_tasks0 h_r0; exact ref24_best_step (ref24_best_f n) ih S w tasks0 r_tasks0 r0 r_r0 next0 r_next0 i0 y hM hP h_tasks0 h_r0
theorem ref24_best_spec (S : Soup) (w : World) (tasks0 : List Task) (r_tasks0 : GoRep.R (List Task)) (r0 : Rules) (r_r0 : GoRep.R Rules) (next0 : List Int) (r_next0 : GoRep.R (List Int)) (i0 : Int) (y : Int × Int × (List Int)) (hM : ref24_best_m tasks0 r0 next0 i0 = some y) (hP : Pre S [trow 3 r_next0 next0] w) (h_tasks0 : GoRep.ok S w r_tasks0 tasks0) (h_r0 : GoRep.ok S w r_r0 r0) :
    Calls Try.prog 70 #[.slice r_tasks0.a tasks0.length r_tasks0.cap, .agg #[.int .i64 r0.Turn, .slice r_r0.1.a r0.Empties.length r_r0.1.cap, .slice r_r0.2.a r0.Shops.length r_r0.2.cap, .int .i64 r0.Service, .int .i64 r0.Limit], .slice r_next0.a next0.length r_next0.cap, .int .i64 i0] w (Post (β := Unit) S [trow 3 r_next0 next0] (fun g => .tuple #[.int .i64 y.1, .int .i64 y.2.1]) (fun g => [trow 3 r_next0 y.2.2]) w) := ref24_best_spec_f FUEL S w tasks0 r_tasks0 r0 r_r0 next0 r_next0 i0 y hM hP h_tasks0 h_r0

def ref24_BestCirculation_k1 (tasks0 : List Task) (r0 : Rules) (lnext_1 : List Int) : Unit → Option (Int × Int) := fun _ =>
  (ref24_best_m tasks0 r0 lnext_1 0).bind fun y9 =>
  chk (decide (y9.2.2.length = lnext_1.length)) <|
  chk (i64b ((tasks0.length : Int) - y9.1)) <|
  some (((tasks0.length : Int) - y9.1), y9.2.1)
def ref24_BestCirculation_b1 (m2 : List Int) (tasks0 : List Task) (r0 : Rules) (cont1 : ((List Int) × Nat) → Option (Int × Int)) : ((List Int) × Nat) → Option (Int × Int) := fun (lnext_1, t15_1) =>
  if decide ((t15_1 : Int) < (m2.length : Int)) then
    ((idx lnext_1 (t15_1 : Int)).bind fun x7 =>
    cont1 ((lnext_1.set (t15_1 : Int).toNat (-1)), t15_1 + 1))
  else
    (ref24_BestCirculation_k1 tasks0 r0 lnext_1 ())
def ref24_BestCirculation_m (tasks0 : List Task) (r0 : Rules) : Option (Int × Int) :=
  (mk (α := Int) 0 (tasks0.length : Int)).bind fun m2 =>
  iter (ref24_BestCirculation_b1 m2 tasks0 r0) FUEL (m2, 0)
theorem ref24_BestCirculation_spec (S : Soup) (w : World) (tasks0 : List Task) (r_tasks0 : GoRep.R (List Task)) (r0 : Rules) (r_r0 : GoRep.R Rules) (y : Int × Int) (hM : ref24_BestCirculation_m tasks0 r0 = some y) (hS : ∀ k, S k → k < w.heap.size) (h_tasks0 : GoRep.ok S w r_tasks0 tasks0) (h_r0 : GoRep.ok S w r_r0 r0) :
    Calls Try.prog 47 #[.slice r_tasks0.a tasks0.length r_tasks0.cap, .agg #[.int .i64 r0.Turn, .slice r_r0.1.a r0.Empties.length r_r0.1.cap, .slice r_r0.2.a r0.Shops.length r_r0.2.cap, .int .i64 r0.Service, .int .i64 r0.Limit]] w (Ret w (.tuple #[.int .i64 y.1, .int .i64 y.2])) := by
  refine calls_cw (args := [_, _]) Try.func47 rfl ((pre_nil hS).start |>.immP (α := List Task) (r := r_tasks0) (x := tasks0) h_tasks0|>.immP (α := List EmptyT) (r := r_r0.1) (x := r0.Empties) h_r0.1|>.immP (α := List Int) (r := r_r0.2) (x := r0.Shops) h_r0.2) rfl ?_
  unfold ref24_BestCirculation_m at hM
  refine cw_seq fun K1 hK1 => ?_
  refine cw_region ?_
  refine ow_cons (st_box (l := [.int .i64 r0.Turn, .slice r_r0.1.a r0.Empties.length r_r0.1.cap, .slice r_r0.2.a r0.Shops.length r_r0.2.cap, .int .i64 r0.Service, .int .i64 r0.Limit]) (k := fun b1 => ?_))
  refine ow_ev ev_assign ?_
  refine ow_ev ev_assign ?_
  refine ow_nil (hK1 _ _ ?_); clear hK1
  refine cw_seq fun K2 hK2 => ?_
  refine cw_region ?_
  refine ow_ev ev_move ?_
  refine ow_ev ev_len ?_
  obtain ⟨m2, hm3, hM⟩ := bind_some hM
  refine ow_cons (st_make (α := Int) (e := 3) 0 () hm3 (fun _ _ => trivial) (fun r4 hr4 => ?_))
  refine ow_ev ev_assign ?_
  refine ow_nil (hK2 _ _ ?_); clear hK2
  refine cw_seq fun K3 hK3 => ?_
  refine cw_seq fun K4 hK4 => ?_
  refine cw_region ?_
  refine ow_ev ev_move ?_
  refine ow_have (fun w hm => Kn.len (Kn.trow (e := 3) (r := r4) (by repeat (first | exact Has.head | apply Has.tail))) hm) fun hl5 => ?_
  refine ow_ev ev_len ?_
  refine ow_ev ev_move ?_
  refine ow_nil (hK4 _ _ ?_); clear hK4
  refine cw_block ?_
  refine cw_loop (γ := Nat × ((List Int) × Nat) × Unit) (env := fun (_, (lnext_1, t15_1), _) => [(0, .v (.slice r_tasks0.a tasks0.length r_tasks0.cap)), (3, .v (.pointer (some ⟨b1, 0, none⟩))), (6, .v (.slice r4.a lnext_1.length r4.cap)), (14, .v (.int .i64 (m2.length : Int))), (15, .v (.int .i64 (t15_1 : Int)))]) (mem := fun (_, (lnext_1, t15_1), _) => [imm (α := (List Task)) r_tasks0 tasks0, imm (α := (List EmptyT)) r_r0.1 r0.Empties, imm (α := (List Int)) r_r0.2 r0.Shops, own b1 53 [.int .i64 r0.Turn, .slice r_r0.1.a r0.Empties.length r_r0.1.cap, .slice r_r0.2.a r0.Shops.length r_r0.2.cap, .int .i64 r0.Service, .int .i64 r0.Limit], trow 3 r4 lnext_1]) (R := fun g => iter (ref24_BestCirculation_b1 m2 tasks0 r0) g.1 g.2.1 = some y) (μ := fun g => g.1) (FUEL, (m2, 0), ()) hM ⟨rfl, rfl, rfl, rfl, rfl, trivial⟩ (fun w hm => hm.reord) ?_
  clear hM
  intro g hM KL1 hL1
  obtain ⟨nn1, ⟨lnext_1, t15_1⟩, ⟨⟩⟩ := g
  dsimp only at hM ⊢
  obtain ⟨nn1, cont1, rfl, hcont1, hM⟩ := iter_open' hM
  dsimp only [ref24_BestCirculation_b1] at hM
  refine cw_seq fun K5 hK5 => ?_
  refine cw_region ?_
  refine ow_ev ev_lss ?_
  refine ow_nil (hK5 _ _ ?_); clear hK5
  refine cw_seq fun K6 hK6 => ?_
  refine cw_cond rfl (fun hc6 => ?_) (fun hc6 => ?_)
  ·
    replace hM := (ite_t hc6).symm.trans hM
    have hc6d := of_decide_eq_true hc6
    refine cw_skip (hK6 _ _ ?_); clear hK6
    refine cw_seq fun K7 hK7 => ?_
    refine cw_block ?_
    refine cw_seq fun K8 hK8 => ?_
    refine cw_region ?_
    refine ow_ev ev_move ?_
    refine ow_ev ev_assign ?_
    refine ow_nil (hK8 _ _ ?_); clear hK8
    refine cw_region ?_
    refine ow_ev ev_move ?_
    refine ow_ev ev_move ?_
    obtain ⟨x7, hx8, hM⟩ := bind_some hM
    refine ow_ev (ev_idx (xs := lnext_1) 1 (Kn.trow (e := 3) (r := r4) (by repeat (first | exact Has.head | apply Has.tail))) (fun hg => let h := idx_some hx8; ⟨h.1, h.2.1⟩)) ?_
    refine ow_cons (st_set (r := r4) (i := (t15_1 : Int)) (xs := lnext_1) (u := x7) (vs := [.int .i64 (-1)]) 0 (-1) hx8 rfl (fun _ _ h => h) (by repeat (first | exact Upd.head | apply Upd.tail)) ?_)
    refine ow_nil (hK7 _ _ ?_); clear hK7
    refine cw_region ?_
    refine ow_ev (ev_add (hr := fun _ => by unfold I64; omega)) ?_
    refine ow_ev ev_move ?_
    refine ow_nil (hL1 (nn1, ((lnext_1.set (t15_1 : Int).toNat (-1)), t15_1 + 1), ()) _ _ (eqc hcont1 hM) (Nat.lt_succ_self _) ⟨rfl, rfl, (by simp only [List.length_set]; rfl), rfl, rfl, trivial⟩ (fun w hm => hm.reord))
  ·
    replace hM := (ite_f hc6).symm.trans hM
    refine cw_exit (hK3 _ _ ?_); clear hK3
    dsimp only [ref24_BestCirculation_k1] at hM
    refine cw_seq fun K9 hK9 => ?_
    refine cw_region ?_
    refine ow_ev ev_move ?_
    refine ow_ev (ev_load_all (b := b1)) ?_
    refine ow_ev ev_move ?_
    obtain ⟨y9, hy10, hM⟩ := bind_some hM
    refine ow_cons (st_callF (by repeat (first | exact SelL.nil | (apply SelL.cons; · (repeat (first | exact Sel.head | apply Sel.tail))))) (fun S w hs hP => ref24_best_spec _ w tasks0 r_tasks0 r0 r_r0 lnext_1 r4 0 y9 hy10 hP (Kn.lend (Kn.imm (α := List Task) (r := r_tasks0) (x := tasks0) (by repeat (first | exact Has.head | apply Has.tail))) hs) ⟨(Kn.lend (Kn.imm (α := List EmptyT) (r := r_r0.1) (x := r0.Empties) (by repeat (first | exact Has.head | apply Has.tail))) hs), (Kn.lend (Kn.imm (α := List Int) (r := r_r0.2) (x := r0.Shops) (by repeat (first | exact Has.head | apply Has.tail))) hs)⟩) (by intro r c hc; simp only [List.mem_cons, List.not_mem_nil, or_false] at hc; rcases hc with rfl <;> first | exact flatC_own | exact flatC_trow (fun _ _ _ _ => trivial)) (fun r11 => ?_))
    dsimp only [List.cons_append, List.nil_append]
    obtain ⟨hn12, hM⟩ := chk_some hM
    refine ow_same 6 (v' := .slice r4.a y9.2.2.length r4.cap) rfl (by simp only [of_decide_eq_true hn12, List.length_set]) ?_
    refine ow_same 25 (v' := .slice r4.a y9.2.2.length r4.cap) rfl (by simp only [of_decide_eq_true hn12, List.length_set]) ?_
    refine ow_ev ev_move ?_
    refine ow_ev (ev_extract (vs := [.int .i64 y9.1, .int .i64 y9.2.1])) ?_
    refine ow_ev (ev_extract (vs := [.int .i64 y9.1, .int .i64 y9.2.1])) ?_
    refine ow_ev ev_assign ?_
    refine ow_ev ev_assign ?_
    refine ow_nil (hK9 _ _ ?_); clear hK9
    refine cw_seq fun K10 hK10 => ?_
    refine cw_region ?_
    refine ow_ev ev_move ?_
    refine ow_ev ev_len ?_
    refine ow_ev ev_move ?_
    obtain ⟨hI13, hM⟩ := chk_some hM
    refine ow_ev (ev_sub (hr := fun hg => i64b_I64 hI13)) ?_
    refine ow_ev ev_move ?_
    refine ow_ev ev_assign ?_
    refine ow_ev ev_assign ?_
    refine ow_nil (hK10 _ _ ?_); clear hK10
    obtain rfl := some_inj hM
    refine cw_ret (kw_retc2 (fun w hm => ret_of hm rfl))

end Go.Proofs.Ytedocibniankjaa
