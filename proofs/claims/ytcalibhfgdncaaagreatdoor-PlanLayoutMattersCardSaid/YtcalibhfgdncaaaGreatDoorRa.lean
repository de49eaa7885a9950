/- Models of functions, and that the code computes them. -/
import Derived.Test.YtcalibhfgdncaaaGreatDoorR0
namespace Go.Proofs.YtcalibhfgdncaaaGreatDoor
open Go.Dc Go.RowKit
set_option maxRecDepth 10000
set_option linter.unusedVariables false
def ref1_plain_m (c0 : Int) : Option Bool :=
  some ((decide (33 ≤ c0) && decide (c0 ≤ 126)) && decide (c0 ≠ 35))
theorem ref1_plain_spec (S : Soup) (w : World) (c0 : Int) (y : Bool) (hM : ref1_plain_m c0 = some y) (hS : ∀ k, S k → k < w.heap.size)  :
    Calls Tryz.prog 170 #[.int .u8 c0] w (Ret w (.bool y)) := by
  refine calls_cw (args := [_]) Tryz.func170 rfl ((pre_nil hS).start) rfl ?_
  unfold ref1_plain_m at hM
  refine cw_seq fun K1 hK1 => ?_
  refine cw_region ?_
  refine ow_ev ev_assign ?_
  refine ow_nil (hK1 _ _ ?_); clear hK1
  refine cw_seq fun K2 hK2 => ?_
  refine cw_region ?_
  refine ow_ev ev_move ?_
  refine ow_ev ev_geq ?_
  refine ow_ev ev_move ?_
  refine ow_evg rfl ev_move ?_
  refine ow_evg rfl ev_leq ?_
  refine ow_ev ev_and ?_
  refine ow_ev ev_move ?_
  refine ow_evg rfl ev_move ?_
  refine ow_evg rfl ev_neq ?_
  refine ow_ev ev_and ?_
  refine ow_ev ev_assign ?_
  refine ow_nil (hK2 _ _ ?_); clear hK2
  obtain rfl := some_inj hM
  refine cw_ret (kw_retc1 (fun w hm => ret_of hm rfl))

def ref1_one_k2 (i_1 : Nat) (cont1 : ((List Word) × Nat) → Option ((List Word) × Int)) : (List Word) → Option ((List Word) × Int) := fun ll_j2 =>
  chk (i64b ((i_1 : Int) + 1)) <|
  cont1 (ll_j2, i_1 + 1)
def ref1_one_k1 (ll_1 : List Word) : Unit → Option ((List Word) × Int) := fun _ =>
  if decide (64 < (ll_1.length : Int)) then
    (some (([] : List Word), 7))
  else
    (some (ll_1, 0))
def ref1_one_b1 (s0 : Str) (line0 : Int) (cont1 : ((List Word) × Nat) → Option ((List Word) × Int)) : ((List Word) × Nat) → Option ((List Word) × Int) := fun (ll_1, i_1) =>
  (whn (decide ((i_1 : Int) < (s0.l.length : Int))) 0 (byteAt s0 (i_1 : Int))).bind fun c2 =>
  if (decide ((i_1 : Int) < (s0.l.length : Int)) && decide (c2 ≠ 35)) then
    ((byteAt s0 (i_1 : Int)).bind fun c6 =>
    (whn (!(decide (c6 = 32))) 0 (byteAt s0 (i_1 : Int))).bind fun c8 =>
    if (decide (c6 = 32) || decide (c8 = 9)) then
      (ref1_one_k2 i_1 cont1 ll_1)
    else
      ((byteAt s0 (i_1 : Int)).bind fun c11 =>
      (ref1_plain_m c11).bind fun y13 =>
      if (!y13) then
        (some (([] : List Word), 2))
      else
        (chk (!(decide (0 < (i_1 : Int))) || i64b ((i_1 : Int) - 1)) <|
        (whn (decide (0 < (i_1 : Int))) 0 (byteAt s0 ((i_1 : Int) - 1))).bind fun c18 =>
        (whn (decide (0 < (i_1 : Int))) default (ref1_plain_m c18)).bind fun y20 =>
        if (decide (0 < (i_1 : Int)) && y20) then
          (chk (i64b ((ll_1.length : Int) - 1)) <|
          (idx ll_1 ((ll_1.length : Int) - 1)).bind fun x24 =>
          chk (i64b ((i_1 : Int) + 1)) <|
          (strSub s0 (i_1 : Int) ((i_1 : Int) + 1)).bind fun q27 =>
          (strCat x24.Text q27).bind fun q29 =>
          (idx ll_1 ((ll_1.length : Int) - 1)).bind fun x31 =>
          ref1_one_k2 i_1 cont1 (ll_1.set ((ll_1.length : Int) - 1).toNat (Word.mk q29 x31.Line x31.Col)))
        else
          (chk (i64b ((i_1 : Int) + 1)) <|
          (strSub s0 (i_1 : Int) ((i_1 : Int) + 1)).bind fun q35 =>
          chk (i64b ((i_1 : Int) + 1)) <|
          chk (decide ((ll_1.length + ([(Word.mk q35 line0 ((i_1 : Int) + 1))] : List Word).length) * 32 ≤ 140737488355328)) <|
          ref1_one_k2 i_1 cont1 (ll_1 ++ ([(Word.mk q35 line0 ((i_1 : Int) + 1))] : List Word))))))
  else
    (ref1_one_k1 ll_1 ())
def ref1_one_m (s0 : Str) (line0 : Int) : Option ((List Word) × Int) :=
  iter (ref1_one_b1 s0 line0) FUEL (([] : List Word), 0)
theorem ref1_one_spec (S : Soup) (w : World) (s0 : Str) (line0 : Int) (y : (List Word) × Int) (hM : ref1_one_m s0 line0 = some y) (hS : ∀ k, S k → k < w.heap.size)  :
    Calls Tryz.prog 130 #[.string s0.ba, .int .i64 line0] w (Post (β := (GoRep.R (List Word))) S [] (fun g => .tuple #[.slice g.a y.1.length g.cap, .int .i64 y.2]) (fun g => [trow 108 g y.1]) w) := by
  refine calls_cw (args := [_, _]) Tryz.func130 rfl ((pre_nil hS).start) rfl ?_
  unfold ref1_one_m at hM
  refine cw_seq fun K1 hK1 => ?_
  refine cw_region ?_
  refine ow_ev ev_assign ?_
  refine ow_ev ev_assign ?_
  refine ow_nil (hK1 _ _ ?_); clear hK1
  refine cw_seq fun K2 hK2 => ?_
  refine cw_region ?_
  refine ow_ev ev_assign ?_
  refine ow_nil (hK2 _ _ ?_); clear hK2
  refine cw_seq fun K3 hK3 => ?_
  refine cw_seq fun K4 hK4 => ?_
  refine cw_region ?_
  refine ow_ev ev_assign ?_
  refine ow_nil (hK4 _ _ ?_); clear hK4
  refine cw_block ?_
  refine cw_imp (fun w hm => hm.row_nil (α := Word) 108 (fun _ => ())) ?_
  refine cw_loop (γ := Nat × ((List Word) × Nat) × (SR (GoRep.R Word))) (env := fun (_, (ll_1, i_1), rl_1) => [(0, .v (.string s0.ba)), (1, .v (.int .i64 line0)), (6, .v (.slice rl_1.a ll_1.length rl_1.cap)), (7, .v (.int .i64 (i_1 : Int)))]) (mem := fun (_, (ll_1, i_1), rl_1) => [trow 108 rl_1 ll_1]) (R := fun g => iter (ref1_one_b1 s0 line0) g.1 g.2.1 = some y) (μ := fun g => g.1) (FUEL, (([] : List Word), 0), (⟨none, 0, (fun _ => ())⟩ : SR (GoRep.R Word) )) hM ⟨rfl, rfl, rfl, rfl, trivial⟩ (fun w hm => hm.reord) ?_
  clear hM
  intro g hM KL1 hL1
  obtain ⟨nn1, ⟨ll_1, i_1⟩, rl_1⟩ := g
  dsimp only at hM ⊢
  obtain ⟨nn1, cont1, rfl, hcont1, hM⟩ := iter_open' hM
  dsimp only [ref1_one_b1] at hM
  refine cw_seq fun K5 hK5 => ?_
  refine cw_seq fun K6 hK6 => ?_
  refine cw_region ?_
  refine ow_ev ev_move ?_
  refine ow_ev ev_move ?_
  refine ow_ev ev_slen ?_
  refine ow_ev ev_lss ?_
  refine ow_ev ev_move ?_
  refine ow_evg rfl ev_move ?_
  refine ow_evg rfl ev_move ?_
  obtain ⟨c2, hc_3, hM⟩ := bind_some hM
  refine ow_evg rfl (ev_sidx (whn_some hc_3)) ?_
  refine ow_evg rfl ev_neq ?_
  refine ow_ev ev_and ?_
  refine ow_nil (hK6 _ _ ?_); clear hK6
  refine cw_cond rfl (fun hc4 => ?_) (fun hc4 => ?_)
  ·
    replace hM := (ite_t hc4).symm.trans hM
    refine cw_skip (hK5 _ _ ?_); clear hK5
    refine cw_cut (γ := (List Word) × (SR (GoRep.R Word))) (env := fun (ll_j2, rl_j2) => [(0, .v (.string s0.ba)), (1, .v (.int .i64 line0)), (6, .v (.slice rl_j2.a ll_j2.length rl_j2.cap)), (7, .v (.int .i64 (i_1 : Int)))]) (mem := fun (ll_j2, rl_j2) => [trow 108 rl_j2 ll_j2]) (R := fun g => ref1_one_k2 i_1 cont1 g.1 = some y) ?_ ?_
    · intro KJ2 hJ2
      refine cw_block ?_
      refine cw_seq fun K7 hK7 => ?_
      refine cw_seq fun K8 hK8 => ?_
      refine cw_region ?_
      refine ow_ev ev_move ?_
      refine ow_ev ev_move ?_
      obtain ⟨c6, hc_7, hM⟩ := bind_some hM
      refine ow_ev (ev_sidx (fun _ => hc_7)) ?_
      refine ow_ev ev_eql ?_
      refine ow_ev ev_move ?_
      refine ow_evg rfl ev_move ?_
      refine ow_evg rfl ev_move ?_
      obtain ⟨c8, hc_9, hM⟩ := bind_some hM
      refine ow_evg rfl (ev_sidx (whn_some hc_9)) ?_
      refine ow_evg rfl ev_eql ?_
      refine ow_ev ev_or ?_
      refine ow_nil (hK8 _ _ ?_); clear hK8
      refine cw_cond rfl (fun hc10 => ?_) (fun hc10 => ?_)
      ·
        replace hM := (ite_t hc10).symm.trans hM
        refine cw_exit (hJ2 (ll_1, rl_1) _ _ hM ⟨rfl, rfl, rfl, rfl, trivial⟩ (fun w hm => hm.reord))
      ·
        replace hM := (ite_f hc10).symm.trans hM
        refine cw_skip (hK7 _ _ ?_); clear hK7
        refine cw_seq fun K9 hK9 => ?_
        refine cw_seq fun K10 hK10 => ?_
        refine cw_region ?_
        refine ow_ev ev_move ?_
        refine ow_ev ev_move ?_
        obtain ⟨c11, hc_12, hM⟩ := bind_some hM
        refine ow_ev (ev_sidx (fun _ => hc_12)) ?_
        obtain ⟨y13, hy14, hM⟩ := bind_some hM
        refine ow_cons (st_callv (fun w hm => let ⟨S, hs⟩ := hm; ref1_plain_spec _ w c11 y13 hy14 (lend_lt hs) ) ?_)
        refine ow_ev ev_not ?_
        refine ow_nil (hK10 _ _ ?_); clear hK10
        refine cw_cond rfl (fun hc15 => ?_) (fun hc15 => ?_)
        ·
          replace hM := (ite_t hc15).symm.trans hM
          refine cw_seq fun K11 hK11 => ?_
          refine cw_region ?_
          refine ow_ev ev_assign ?_
          refine ow_ev ev_assign ?_
          refine ow_nil (hK11 _ _ ?_); clear hK11
          refine cw_imp (fun w hm => hm.row_nil (α := Word) 108 (fun _ => ())) ?_
          obtain rfl := some_inj hM
          refine cw_ret (kw_retc2 (fun w hm => post_of (⟨none, 0, (fun _ => ())⟩ : SR (GoRep.R Word)               ) hm rfl))
        ·
          replace hM := (ite_f hc15).symm.trans hM
          refine cw_skip (hK9 _ _ ?_); clear hK9
          refine cw_seq fun K12 hK12 => ?_
          refine cw_region ?_
          refine ow_ev ev_move ?_
          refine ow_ev ev_gtr ?_
          refine ow_ev ev_move ?_
          refine ow_evg rfl ev_move ?_
          refine ow_evg rfl ev_move ?_
          obtain ⟨hI17, hM⟩ := chk_some hM
          refine ow_evg rfl (ev_sub (hr := fun hg => i64b_I64 (gor hI17 hg))) ?_
          obtain ⟨c18, hc_19, hM⟩ := bind_some hM
          refine ow_evg rfl (ev_sidx (whn_some hc_19)) ?_
          obtain ⟨y20, hy21, hM⟩ := bind_some hM
          refine ow_callg rfl (fun hg w hm => let ⟨S, hs⟩ := hm; ref1_plain_spec _ w c18 y20 (whn_some hy21 hg) (lend_lt hs) ) ?_
          refine ow_ev ev_and ?_
          refine ow_nil (hK12 _ _ ?_); clear hK12
          refine cw_cond rfl (fun hc22 => ?_) (fun hc22 => ?_)
          ·
            replace hM := (ite_t hc22).symm.trans hM
            refine cw_seq fun K13 hK13 => ?_
            refine cw_region ?_
            refine ow_ev ev_move ?_
            refine ow_ev ev_len ?_
            obtain ⟨hI23, hM⟩ := chk_some hM
            refine ow_ev (ev_sub (hr := fun hg => i64b_I64 hI23)) ?_
            refine ow_ev ev_assign ?_
            refine ow_nil (hK13 _ _ ?_); clear hK13
            refine cw_region_z [trow 108 rl_1 ll_1] 15 ?_
            refine az_ev 0 rfl ev_move ?_
            refine az_ev 1 rfl ev_move ?_
            refine az_ev 2 rfl ev_move ?_
            refine az_ev 3 rfl ev_move ?_
            obtain ⟨x24, hx25, hM⟩ := bind_some hM
            refine az_ev 4 rfl (ev_idx (xs := ll_1) 3 (Kn.trow (e := 108) (r := rl_1) (by repeat (first | exact Has.head | apply Has.tail))) (fun hg => let h := idx_some hx25; ⟨h.1, h.2.1⟩)) ?_
            refine az_ev 5 rfl (ev_field_addr 0) ?_
            refine az_ev 6 rfl (ev_ld (i := ((ll_1.length : Int) - 1)) (xs := ll_1) (y := x24) 0 (Kn.trow (e := 108) (r := rl_1) (by repeat (first | exact Has.head | apply Has.tail))) (fun _ => hx25)) ?_
            refine az_ev 7 rfl ev_move ?_
            refine az_ev 8 rfl ev_move ?_
            refine az_ev 9 rfl ev_move ?_
            obtain ⟨hI26, hM⟩ := chk_some hM
            refine az_ev 10 rfl (ev_add (hr := fun hg => i64b_I64 hI26)) ?_
            obtain ⟨q27, hq28, hM⟩ := bind_some hM
            refine az_ev 11 rfl (ev_ssub (ol := some (.i64, (i_1 : Int))) (oh := some (.i64, ((i_1 : Int) + 1))) (fun _ => hq28)) ?_
            obtain ⟨q29, hq30, hM⟩ := bind_some hM
            refine az_ev 12 rfl (ev_scat (fun _ => hq30)) ?_
            obtain ⟨x31, hx32, hM⟩ := bind_some hM
            refine az_ev 13 rfl (ev_idx (xs := ll_1) 3 (Kn.trow (e := 108) (r := rl_1) (by repeat (first | exact Has.head | apply Has.tail))) (fun hg => let h := idx_some hx32; ⟨h.1, h.2.1⟩)) ?_
            refine az_ev 14 rfl (ev_field_addr 0) ?_
            refine az_last rfl (st_set (r := rl_1) (i := ((ll_1.length : Int) - 1)) (xs := ll_1) (u := x31) (vs := [.string q29.ba]) 0 (Word.mk q29 x31.Line x31.Col) hx32 rfl (fun _ _ h => h) (by repeat (first | exact Upd.head | apply Upd.tail)) ?_)
            have hx33 := idx_set_same (u := (Word.mk q29 x31.Line x31.Col)) hx32
            refine az_done (hJ2 ((ll_1.set ((ll_1.length : Int) - 1).toNat (Word.mk q29 x31.Line x31.Col)), rl_1) _ _ hM ⟨rfl, rfl, (by simp only [List.length_set]; rfl), rfl, trivial⟩ (fun w hm => hm.reord))
          ·
            replace hM := (ite_f hc22).symm.trans hM
            refine cw_region ?_
            refine ow_ev ev_move ?_
            refine ow_ev ev_move ?_
            refine ow_ev ev_move ?_
            refine ow_ev ev_move ?_
            obtain ⟨hI34, hM⟩ := chk_some hM
            refine ow_ev (ev_add (hr := fun hg => i64b_I64 hI34)) ?_
            obtain ⟨q35, hq36, hM⟩ := bind_some hM
            refine ow_ev (ev_ssub (ol := some (.i64, (i_1 : Int))) (oh := some (.i64, ((i_1 : Int) + 1))) (fun _ => hq36)) ?_
            refine ow_ev ev_move ?_
            refine ow_ev ev_move ?_
            obtain ⟨hI37, hM⟩ := chk_some hM
            refine ow_ev (ev_add (hr := fun hg => i64b_I64 hI37)) ?_
            refine ow_ev (ev_build [.string q35.ba, .int .i64 line0, .int .i64 ((i_1 : Int) + 1)]) ?_
            refine ow_cons (st_bslice (α := Word) 108 (fun _ => ()) ([(Word.mk q35 line0 ((i_1 : Int) + 1))] : List Word) (OkL.flat (fun _ _ _ _ => trivial)) (fun r38 => ?_))
            obtain ⟨hb40, hM⟩ := chk_some hM
            refine ow_cons (st_append (r := rl_1) (r2 := r38) (by intro r'; repeat (first | exact Upd.head | apply Upd.tail)) (Kn.trow (e := 108) (r := r38) (by repeat (first | exact Has.head | apply Has.tail))) (OkL.flat (fun _ _ _ _ => trivial)) (of_decide_eq_true hb40) (fun r39 => ?_))
            refine ow_ev ev_assign ?_
            refine ow_nil (hJ2 ((ll_1 ++ ([(Word.mk q35 line0 ((i_1 : Int) + 1))] : List Word)), r39) _ _ hM ⟨rfl, rfl, rfl, rfl, trivial⟩ (fun w hm => hm.reord))
    ·
      clear hM
      intro g hM
      obtain ⟨ll_j2, rl_j2⟩ := g
      dsimp only at hM ⊢
      dsimp only [ref1_one_k2] at hM
      refine cw_region ?_
      refine ow_ev ev_move ?_
      obtain ⟨hI5, hM⟩ := chk_some hM
      refine ow_ev (ev_add (hr := fun hg => i64b_I64 hI5)) ?_
      refine ow_ev ev_assign ?_
      refine ow_nil (hL1 (nn1, (ll_j2, i_1 + 1), rl_j2) _ _ (eqc hcont1 hM) (Nat.lt_succ_self _) ⟨rfl, rfl, rfl, rfl, trivial⟩ (fun w hm => hm.reord))
  ·
    replace hM := (ite_f hc4).symm.trans hM
    refine cw_exit (hK3 _ _ ?_); clear hK3
    dsimp only [ref1_one_k1] at hM
    refine cw_seq fun K14 hK14 => ?_
    refine cw_seq fun K15 hK15 => ?_
    refine cw_region ?_
    refine ow_ev ev_move ?_
    refine ow_ev ev_len ?_
    refine ow_ev ev_gtr ?_
    refine ow_nil (hK15 _ _ ?_); clear hK15
    refine cw_cond rfl (fun hc41 => ?_) (fun hc41 => ?_)
    ·
      replace hM := (ite_t hc41).symm.trans hM
      refine cw_seq fun K16 hK16 => ?_
      refine cw_region ?_
      refine ow_ev ev_assign ?_
      refine ow_ev ev_assign ?_
      refine ow_nil (hK16 _ _ ?_); clear hK16
      refine cw_imp (fun w hm => hm.row_nil (α := Word) 108 (fun _ => ())) ?_
      obtain rfl := some_inj hM
      refine cw_ret (kw_retc2 (fun w hm => post_of (⟨none, 0, (fun _ => ())⟩ : SR (GoRep.R Word)                ) hm rfl))
    ·
      replace hM := (ite_f hc41).symm.trans hM
      refine cw_skip (hK14 _ _ ?_); clear hK14
      refine cw_seq fun K17 hK17 => ?_
      refine cw_region ?_
      refine ow_ev ev_move ?_
      refine ow_ev ev_assign ?_
      refine ow_ev ev_assign ?_
      refine ow_nil (hK17 _ _ ?_); clear hK17
      obtain rfl := some_inj hM
      refine cw_ret (kw_retc2 (fun w hm => post_of rl_1 hm rfl))

def ref1_Lines_k2 (line_1 : Nat) (cont1 : ((List (List Word)) × Nat × Int) → Option ((List (List Word)) × Int × Int)) (lout_j4 : List (List Word)) (j_2 : Int) : Unit → Option ((List (List Word)) × Int × Int) := fun _ =>
  chk (i64b ((line_1 : Int) + 1)) <|
  cont1 (lout_j4, line_1 + 1, (j_2 + 1))
def ref1_Lines_k4 (j_2 : Int) (line_1 : Nat) (cont1 : ((List (List Word)) × Nat × Int) → Option ((List (List Word)) × Int × Int)) : (List (List Word)) → Option ((List (List Word)) × Int × Int) := fun lout_j4 =>
  chk (i64b (j_2 + 1)) <|
  ref1_Lines_k2 line_1 cont1 lout_j4 j_2 ()
def ref1_Lines_k3 (src0 : Str) (i_1 : Int) (j_2 : Int) (line_1 : Nat) (lout_1 : List (List Word)) (cont1 : ((List (List Word)) × Nat × Int) → Option ((List (List Word)) × Int × Int)) : Unit → Option ((List (List Word)) × Int × Int) := fun _ =>
  (strSub src0 i_1 j_2).bind fun q9 =>
  (ref1_one_m q9 (line_1 : Int)).bind fun y11 =>
  if decide (y11.2 ≠ 0) then
    (some (([] : List (List Word)), (line_1 : Int), y11.2))
  else
    (if decide (0 < (y11.1.length : Int)) then
      (chk (decide ((lout_1.length + ([y11.1] : List (List Word)).length) * 24 ≤ 140737488355328)) <|
      ref1_Lines_k4 j_2 line_1 cont1 (lout_1 ++ ([y11.1] : List (List Word))))
    else
      (ref1_Lines_k4 j_2 line_1 cont1 lout_1))
def ref1_Lines_b2 (src0 : Str) (i_1 : Int) (line_1 : Nat) (lout_1 : List (List Word)) (cont1 : ((List (List Word)) × Nat × Int) → Option ((List (List Word)) × Int × Int)) (cont2 : Int → Option ((List (List Word)) × Int × Int)) : Int → Option ((List (List Word)) × Int × Int) := fun j_2 =>
  (whn (decide (j_2 < (src0.l.length : Int))) 0 (byteAt src0 j_2)).bind fun c5 =>
  if (decide (j_2 < (src0.l.length : Int)) && decide (c5 ≠ 10)) then
    (chk (i64b (j_2 + 1)) <|
    cont2 (j_2 + 1))
  else
    (ref1_Lines_k3 src0 i_1 j_2 line_1 lout_1 cont1 ())
def ref1_Lines_k1 (lout_1 : List (List Word)) : Unit → Option ((List (List Word)) × Int × Int) := fun _ =>
  some (lout_1, 0, 0)
def ref1_Lines_b1 (src0 : Str) (cont1 : ((List (List Word)) × Nat × Int) → Option ((List (List Word)) × Int × Int)) : ((List (List Word)) × Nat × Int) → Option ((List (List Word)) × Int × Int) := fun (lout_1, line_1, i_1) =>
  if decide (i_1 < (src0.l.length : Int)) then
    (iter (ref1_Lines_b2 src0 i_1 line_1 lout_1 cont1) FUEL i_1)
  else
    (ref1_Lines_k1 lout_1 ())
def ref1_Lines_m (src0 : Str) : Option ((List (List Word)) × Int × Int) :=
  if decide (65536 < (src0.l.length : Int)) then
    (some (([] : List (List Word)), 0, 7))
  else
    (iter (ref1_Lines_b1 src0) FUEL (([] : List (List Word)), 1, 0))
theorem ref1_Lines_spec (S : Soup) (w : World) (src0 : Str) (y : (List (List Word)) × Int × Int) (hM : ref1_Lines_m src0 = some y) (hS : ∀ k, S k → k < w.heap.size)  :
    Calls Tryz.prog 70 #[.string src0.ba] w (Post (β := (GoRep.R (List (List Word)))) S [] (fun g => .tuple #[.slice g.a y.1.length g.cap, .int .i64 y.2.1, .int .i64 y.2.2]) (fun g => [trow 105 g y.1]) w) := by
  refine calls_cw (args := [_]) Tryz.func70 rfl ((pre_nil hS).start) rfl ?_
  unfold ref1_Lines_m at hM
  refine cw_seq fun K1 hK1 => ?_
  refine cw_region ?_
  refine ow_ev ev_assign ?_
  refine ow_ev ev_assign ?_
  refine ow_ev ev_assign ?_
  refine ow_nil (hK1 _ _ ?_); clear hK1
  refine cw_seq fun K2 hK2 => ?_
  refine cw_seq fun K3 hK3 => ?_
  refine cw_region ?_
  refine ow_ev ev_move ?_
  refine ow_ev ev_slen ?_
  refine ow_ev ev_gtr ?_
  refine ow_nil (hK3 _ _ ?_); clear hK3
  refine cw_cond rfl (fun hc1 => ?_) (fun hc1 => ?_)
  ·
    replace hM := (ite_t hc1).symm.trans hM
    refine cw_seq fun K4 hK4 => ?_
    refine cw_region ?_
    refine ow_ev ev_assign ?_
    refine ow_ev ev_assign ?_
    refine ow_ev ev_assign ?_
    refine ow_nil (hK4 _ _ ?_); clear hK4
    refine cw_imp (fun w hm => hm.row_nil (α := List Word) 105 (fun _ => (⟨none, 0, (fun _ => ())⟩ : SR (GoRep.R Word)))) ?_
    obtain rfl := some_inj hM
    refine cw_ret (kw_retc3 (fun w hm => post_of (⟨none, 0, (fun _ => (⟨none, 0, (fun _ => ())⟩ : SR (GoRep.R Word)))⟩ : SR (GoRep.R (List Word)) ) hm rfl))
  ·
    replace hM := (ite_f hc1).symm.trans hM
    refine cw_skip (hK2 _ _ ?_); clear hK2
    refine cw_seq fun K5 hK5 => ?_
    refine cw_region ?_
    refine ow_ev ev_assign ?_
    refine ow_nil (hK5 _ _ ?_); clear hK5
    refine cw_seq fun K6 hK6 => ?_
    refine cw_region ?_
    refine ow_ev ev_assign ?_
    refine ow_nil (hK6 _ _ ?_); clear hK6
    refine cw_seq fun K7 hK7 => ?_
    refine cw_seq fun K8 hK8 => ?_
    refine cw_region ?_
    refine ow_ev ev_assign ?_
    refine ow_nil (hK8 _ _ ?_); clear hK8
    refine cw_block ?_
    refine cw_imp (fun w hm => hm.row_nil (α := List Word) 105 (fun _ => (⟨none, 0, (fun _ => ())⟩ : SR (GoRep.R Word)))) ?_
    refine cw_loop (γ := Nat × ((List (List Word)) × Nat × Int) × (SR (GoRep.R (List Word)))) (env := fun (_, (lout_1, line_1, i_1), rout_1) => [(0, .v (.string src0.ba)), (5, .v (.slice rout_1.a lout_1.length rout_1.cap)), (6, .v (.int .i64 (line_1 : Int))), (7, .v (.int .i64 i_1))]) (mem := fun (_, (lout_1, line_1, i_1), rout_1) => [trow 105 rout_1 lout_1]) (R := fun g => iter (ref1_Lines_b1 src0) g.1 g.2.1 = some y) (μ := fun g => g.1) (FUEL, (([] : List (List Word)), 1, 0), (⟨none, 0, (fun _ => (⟨none, 0, (fun _ => ())⟩ : SR (GoRep.R Word)))⟩ : SR (GoRep.R (List Word))  )) hM ⟨rfl, rfl, rfl, rfl, trivial⟩ (fun w hm => hm.reord) ?_
    clear hM
    intro g hM KL1 hL1
    obtain ⟨nn1, ⟨lout_1, line_1, i_1⟩, rout_1⟩ := g
    dsimp only at hM ⊢
    obtain ⟨nn1, cont1, rfl, hcont1, hM⟩ := iter_open' hM
    dsimp only [ref1_Lines_b1] at hM
    refine cw_seq fun K9 hK9 => ?_
    refine cw_seq fun K10 hK10 => ?_
    refine cw_region ?_
    refine ow_ev ev_move ?_
    refine ow_ev ev_move ?_
    refine ow_ev ev_slen ?_
    refine ow_ev ev_lss ?_
    refine ow_nil (hK10 _ _ ?_); clear hK10
    refine cw_cond rfl (fun hc4 => ?_) (fun hc4 => ?_)
    ·
      replace hM := (ite_t hc4).symm.trans hM
      refine cw_skip (hK9 _ _ ?_); clear hK9
      refine cw_seq fun K11 hK11 => ?_
      refine cw_block ?_
      refine cw_seq fun K12 hK12 => ?_
      refine cw_region ?_
      refine ow_ev ev_move ?_
      refine ow_ev ev_assign ?_
      refine ow_nil (hK12 _ _ ?_); clear hK12
      refine cw_seq fun K13 hK13 => ?_
      refine cw_block ?_
      refine cw_loop (γ := Nat × Int × Unit) (env := fun (_, j_2, _) => [(0, .v (.string src0.ba)), (5, .v (.slice rout_1.a lout_1.length rout_1.cap)), (6, .v (.int .i64 (line_1 : Int))), (7, .v (.int .i64 i_1)), (8, .v (.int .i64 j_2))]) (mem := fun (_, j_2, _) => [trow 105 rout_1 lout_1]) (R := fun g => iter (ref1_Lines_b2 src0 i_1 line_1 lout_1 cont1) g.1 g.2.1 = some y) (μ := fun g => g.1) (FUEL, i_1, ()) hM ⟨rfl, rfl, rfl, rfl, rfl, trivial⟩ (fun w hm => hm.reord) ?_
      clear hM
      intro g hM KL2 hL2
      obtain ⟨nn2, j_2, ⟨⟩⟩ := g
      dsimp only at hM ⊢
      obtain ⟨nn2, cont2, rfl, hcont2, hM⟩ := iter_open' hM
      dsimp only [ref1_Lines_b2] at hM
      refine cw_seq fun K14 hK14 => ?_
      refine cw_seq fun K15 hK15 => ?_
      refine cw_region ?_
      refine ow_ev ev_move ?_
      refine ow_ev ev_move ?_
      refine ow_ev ev_slen ?_
      refine ow_ev ev_lss ?_
      refine ow_ev ev_move ?_
      refine ow_evg rfl ev_move ?_
      refine ow_evg rfl ev_move ?_
      obtain ⟨c5, hc_6, hM⟩ := bind_some hM
      refine ow_evg rfl (ev_sidx (whn_some hc_6)) ?_
      refine ow_evg rfl ev_neq ?_
      refine ow_ev ev_and ?_
      refine ow_nil (hK15 _ _ ?_); clear hK15
      refine cw_cond rfl (fun hc7 => ?_) (fun hc7 => ?_)
      ·
        replace hM := (ite_t hc7).symm.trans hM
        refine cw_skip (hK14 _ _ ?_); clear hK14
        refine cw_block ?_
        refine cw_region ?_
        refine ow_ev ev_move ?_
        obtain ⟨hI8, hM⟩ := chk_some hM
        refine ow_ev (ev_add (hr := fun hg => i64b_I64 hI8)) ?_
        refine ow_ev ev_assign ?_
        refine ow_nil (hL2 (nn2, (j_2 + 1), ()) _ _ (eqc hcont2 hM) (Nat.lt_succ_self _) ⟨rfl, rfl, rfl, rfl, rfl, trivial⟩ (fun w hm => hm.reord))
      ·
        replace hM := (ite_f hc7).symm.trans hM
        refine cw_exit (hK13 _ _ ?_); clear hK13
        dsimp only [ref1_Lines_k3] at hM
        refine cw_seq fun K16 hK16 => ?_
        refine cw_region ?_
        refine ow_ev ev_move ?_
        refine ow_ev ev_move ?_
        refine ow_ev ev_move ?_
        obtain ⟨q9, hq10, hM⟩ := bind_some hM
        refine ow_ev (ev_ssub (ol := some (.i64, i_1)) (oh := some (.i64, j_2)) (fun _ => hq10)) ?_
        refine ow_ev ev_move ?_
        obtain ⟨y11, hy12, hM⟩ := bind_some hM
        refine ow_cons (st_callF SelL.nil (fun S w hs hP => ref1_one_spec _ w q9 (line_1 : Int) y11 hy12 (lend_lt hs) ) (by intro r c hc; simp only [List.mem_cons, List.not_mem_nil, or_false] at hc; rcases hc with rfl <;> first | exact flatC_own | exact flatC_trow (fun _ _ _ _ => trivial)) (fun r13 => ?_))
        dsimp only [List.cons_append, List.nil_append]
        refine ow_ev ev_move ?_
        refine ow_ev (ev_extract (vs := [.slice r13.a y11.1.length r13.cap, .int .i64 y11.2])) ?_
        refine ow_ev (ev_extract (vs := [.slice r13.a y11.1.length r13.cap, .int .i64 y11.2])) ?_
        refine ow_ev ev_assign ?_
        refine ow_ev ev_assign ?_
        refine ow_nil (hK16 _ _ ?_); clear hK16
        refine cw_seq fun K17 hK17 => ?_
        refine cw_seq fun K18 hK18 => ?_
        refine cw_region ?_
        refine ow_ev ev_move ?_
        refine ow_ev ev_neq ?_
        refine ow_nil (hK18 _ _ ?_); clear hK18
        refine cw_cond rfl (fun hc14 => ?_) (fun hc14 => ?_)
        ·
          replace hM := (ite_t hc14).symm.trans hM
          refine cw_seq fun K19 hK19 => ?_
          refine cw_region ?_
          refine ow_ev ev_move ?_
          refine ow_ev ev_move ?_
          refine ow_ev ev_assign ?_
          refine ow_ev ev_assign ?_
          refine ow_ev ev_assign ?_
          refine ow_nil (hK19 _ _ ?_); clear hK19
          refine cw_imp (fun w hm => hm.row_nil (α := List Word) 105 (fun _ => (⟨none, 0, (fun _ => ())⟩ : SR (GoRep.R Word)))) ?_
          obtain rfl := some_inj hM
          refine cw_ret (kw_retc3 (fun w hm => post_of (⟨none, 0, (fun _ => (⟨none, 0, (fun _ => ())⟩ : SR (GoRep.R Word)))⟩ : SR (GoRep.R (List Word))                   ) hm rfl))
        ·
          replace hM := (ite_f hc14).symm.trans hM
          refine cw_skip (hK17 _ _ ?_); clear hK17
          refine cw_cut (γ := (List (List Word)) × (SR (GoRep.R (List Word)))) (env := fun (lout_j4, rout_j4) => [(0, .v (.string src0.ba)), (5, .v (.slice rout_j4.a lout_j4.length rout_j4.cap)), (6, .v (.int .i64 (line_1 : Int))), (8, .v (.int .i64 j_2))]) (mem := fun (lout_j4, rout_j4) => [trow 105 rout_j4 lout_j4]) (R := fun g => ref1_Lines_k4 j_2 line_1 cont1 g.1 = some y) ?_ ?_
          · intro KJ4 hJ4
            refine cw_seq fun K20 hK20 => ?_
            refine cw_region ?_
            refine ow_ev ev_move ?_
            refine ow_ev ev_len ?_
            refine ow_ev ev_gtr ?_
            refine ow_nil (hK20 _ _ ?_); clear hK20
            refine cw_cond rfl (fun hc18 => ?_) (fun hc18 => ?_)
            ·
              replace hM := (ite_t hc18).symm.trans hM
              refine cw_region ?_
              refine ow_ev ev_move ?_
              refine ow_ev ev_move ?_
              refine ow_imp (fun w hm => hm.freeze (r := r13) (by repeat (first | exact Upd.head | apply Upd.tail))) ?_
              refine ow_cons (st_bslice (α := List Word) 105 (fun _ => r13) ([y11.1] : List (List Word)) (OkL.cons (fun S w hs => ((Sk.imm (α := List Word) (r := r13) (x := y11.1) (by repeat (first | exact Has.head | apply Has.tail))) S w hs)) OkL.nil) (fun r19 => ?_))
              obtain ⟨hb21, hM⟩ := chk_some hM
              refine ow_cons (st_append (r := rout_1) (r2 := r19) (by intro r'; repeat (first | exact Upd.head | apply Upd.tail)) (Kn.trow (e := 105) (r := r19) (by repeat (first | exact Has.head | apply Has.tail))) (OkL.row (e := 105) (r := r19) (by repeat (first | exact Has.head | apply Has.tail))) (of_decide_eq_true hb21) (fun r20 => ?_))
              refine ow_ev ev_assign ?_
              refine ow_nil (hJ4 ((lout_1 ++ ([y11.1] : List (List Word))), r20) _ _ hM ⟨rfl, rfl, rfl, rfl, trivial⟩ (fun w hm => hm.reord))
            ·
              replace hM := (ite_f hc18).symm.trans hM
              refine cw_skip (hJ4 (lout_1, rout_1) _ _ hM ⟨rfl, rfl, rfl, rfl, trivial⟩ (fun w hm => hm.reord))
          ·
            clear hM
            intro g hM
            obtain ⟨lout_j4, rout_j4⟩ := g
            dsimp only at hM ⊢
            dsimp only [ref1_Lines_k4] at hM
            refine cw_region ?_
            refine ow_ev ev_move ?_
            obtain ⟨hI16, hM⟩ := chk_some hM
            refine ow_ev (ev_add (hr := fun hg => i64b_I64 hI16)) ?_
            refine ow_ev ev_assign ?_
            refine ow_nil (hK11 _ _ ?_); clear hK11
            dsimp only [ref1_Lines_k2] at hM
            refine cw_region ?_
            refine ow_ev ev_move ?_
            obtain ⟨hI17, hM⟩ := chk_some hM
            refine ow_ev (ev_add (hr := fun hg => i64b_I64 hI17)) ?_
            refine ow_ev ev_assign ?_
            refine ow_nil (hL1 (nn1, (lout_j4, line_1 + 1, (j_2 + 1)), rout_j4) _ _ (eqc hcont1 hM) (Nat.lt_succ_self _) ⟨rfl, rfl, rfl, rfl, trivial⟩ (fun w hm => hm.reord))
    ·
      replace hM := (ite_f hc4).symm.trans hM
      refine cw_exit (hK7 _ _ ?_); clear hK7
      dsimp only [ref1_Lines_k1] at hM
      refine cw_seq fun K21 hK21 => ?_
      refine cw_region ?_
      refine ow_ev ev_move ?_
      refine ow_ev ev_assign ?_
      refine ow_ev ev_assign ?_
      refine ow_ev ev_assign ?_
      refine ow_nil (hK21 _ _ ?_); clear hK21
      obtain rfl := some_inj hM
      refine cw_ret (kw_retc3 (fun w hm => post_of rout_1 hm rfl))

def ref1_Number_k2 (n_1 : Int) (sign_j1 : Int) : Unit → Option (Int × Bool) := fun _ =>
  if decide (1099511627776 < n_1) then
    (some (0, false))
  else
    (chk (i64b (sign_j1 * n_1)) <|
    some ((sign_j1 * n_1), true))
def ref1_Number_b1 (t_j1 : Str) (sign_j1 : Int) (cont1 : (Int × Nat) → Option (Int × Bool)) : (Int × Nat) → Option (Int × Bool) := fun (n_1, i_1) =>
  if decide ((i_1 : Int) < (t_j1.l.length : Int)) then
    ((byteAt t_j1 (i_1 : Int)).bind fun c5 =>
    (ref1_digit_m c5).bind fun y7 =>
    if (!y7) then
      (some (0, false))
    else
      (chk (i64b (10 * n_1)) <|
      (byteAt t_j1 (i_1 : Int)).bind fun c11 =>
      chk (i64b ((10 * n_1) + (IntKind.i64.wrap (IntKind.u8.wrap (c11 - 48))))) <|
      chk (i64b ((i_1 : Int) + 1)) <|
      cont1 (((10 * n_1) + (IntKind.i64.wrap (IntKind.u8.wrap (c11 - 48)))), i_1 + 1)))
  else
    (ref1_Number_k2 n_1 sign_j1 ())
def ref1_Number_k1 : (Str × Int) → Option (Int × Bool) := fun (t_j1, sign_j1) =>
  (whn (!(decide ((t_j1.l.length : Int) < 1) || decide (13 < (t_j1.l.length : Int)))) 0 (byteAt t_j1 0)).bind fun c1 =>
  if ((decide ((t_j1.l.length : Int) < 1) || decide (13 < (t_j1.l.length : Int))) || (decide (c1 = 48) && (decide (1 < (t_j1.l.length : Int)) || decide (sign_j1 < 0)))) then
    (some (0, false))
  else
    (iter (ref1_Number_b1 t_j1 sign_j1) FUEL (0, 0))
def ref1_Number_m (s0 : Str) : Option (Int × Bool) :=
  (whn (decide (0 < (s0.l.length : Int))) 0 (byteAt s0 0)).bind fun c17 =>
  if (decide (0 < (s0.l.length : Int)) && decide (c17 = 45)) then
    ((strSub s0 1 (s0.l.length : Int)).bind fun q20 =>
    ref1_Number_k1 (q20, (-1)))
  else
    (ref1_Number_k1 (s0, 1))
theorem ref1_Number_spec (S : Soup) (w : World) (s0 : Str) (y : Int × Bool) (hM : ref1_Number_m s0 = some y) (hS : ∀ k, S k → k < w.heap.size)  :
    Calls Tryz.prog 171 #[.string s0.ba] w (Ret w (.tuple #[.int .i64 y.1, .bool y.2])) := by
  refine calls_cw (args := [_]) Tryz.func171 rfl ((pre_nil hS).start) rfl ?_
  unfold ref1_Number_m at hM
  refine cw_seq fun K1 hK1 => ?_
  refine cw_region ?_
  refine ow_ev ev_assign ?_
  refine ow_ev ev_assign ?_
  refine ow_nil (hK1 _ _ ?_); clear hK1
  refine cw_seq fun K2 hK2 => ?_
  refine cw_region ?_
  refine ow_ev ev_move ?_
  refine ow_ev ev_assign ?_
  refine ow_ev ev_assign ?_
  refine ow_nil (hK2 _ _ ?_); clear hK2
  refine cw_cut (γ := (Str × Int) × Unit) (env := fun ((t_j1, sign_j1), _) => [(4, .v (.string t_j1.ba)), (5, .v (.int .i64 sign_j1))]) (mem := fun ((t_j1, sign_j1), _) => []) (R := fun g => ref1_Number_k1 g.1 = some y) ?_ ?_
  · intro KJ1 hJ1
    refine cw_seq fun K19 hK19 => ?_
    refine cw_region ?_
    refine ow_ev ev_move ?_
    refine ow_ev ev_slen ?_
    refine ow_ev ev_gtr ?_
    refine ow_ev ev_move ?_
    refine ow_evg rfl ev_move ?_
    obtain ⟨c17, hc_18, hM⟩ := bind_some hM
    refine ow_evg rfl (ev_sidx (whn_some hc_18)) ?_
    refine ow_evg rfl ev_eql ?_
    refine ow_ev ev_and ?_
    refine ow_nil (hK19 _ _ ?_); clear hK19
    refine cw_cond rfl (fun hc19 => ?_) (fun hc19 => ?_)
    ·
      replace hM := (ite_t hc19).symm.trans hM
      refine cw_region ?_
      refine ow_ev ev_move ?_
      obtain ⟨q20, hq21, hM⟩ := bind_some hM
      refine ow_ev (ev_ssub (ol := some (.i64, 1)) (oh := none) (fun _ => hq21)) ?_
      refine ow_ev ev_assign ?_
      refine ow_ev ev_assign ?_
      refine ow_nil (hJ1 ((q20, (-1)), ()) _ _ hM ⟨rfl, rfl, trivial⟩ (fun w hm => hm.reord))
    ·
      replace hM := (ite_f hc19).symm.trans hM
      refine cw_skip (hJ1 ((s0, 1), ()) _ _ hM ⟨rfl, rfl, trivial⟩ (fun w hm => hm.reord))
  ·
    clear hM
    intro g hM
    obtain ⟨⟨t_j1, sign_j1⟩, ⟨⟩⟩ := g
    dsimp only at hM ⊢
    dsimp only [ref1_Number_k1] at hM
    refine cw_seq fun K3 hK3 => ?_
    refine cw_seq fun K4 hK4 => ?_
    refine cw_region ?_
    refine ow_ev ev_move ?_
    refine ow_ev ev_slen ?_
    refine ow_ev ev_lss ?_
    refine ow_ev ev_move ?_
    refine ow_evg rfl ev_move ?_
    refine ow_evg rfl ev_slen ?_
    refine ow_evg rfl ev_gtr ?_
    refine ow_ev ev_or ?_
    refine ow_ev ev_move ?_
    refine ow_evg rfl ev_move ?_
    obtain ⟨c1, hc_2, hM⟩ := bind_some hM
    refine ow_evg rfl (ev_sidx (whn_some hc_2)) ?_
    refine ow_evg rfl ev_eql ?_
    refine ow_evg rfl ev_move ?_
    refine ow_evg rfl ev_move ?_
    refine ow_evg rfl ev_slen ?_
    refine ow_evg rfl ev_gtr ?_
    refine ow_evg rfl ev_move ?_
    refine ow_evg rfl ev_move ?_
    refine ow_evg rfl ev_lss ?_
    refine ow_evg rfl ev_or ?_
    refine ow_evg rfl ev_and ?_
    refine ow_ev ev_or ?_
    refine ow_nil (hK4 _ _ ?_); clear hK4
    refine cw_cond rfl (fun hc3 => ?_) (fun hc3 => ?_)
    ·
      replace hM := (ite_t hc3).symm.trans hM
      refine cw_seq fun K5 hK5 => ?_
      refine cw_region ?_
      refine ow_ev ev_assign ?_
      refine ow_ev ev_assign ?_
      refine ow_nil (hK5 _ _ ?_); clear hK5
      obtain rfl := some_inj hM
      refine cw_ret (kw_retc2 (fun w hm => ret_of hm rfl))
    ·
      replace hM := (ite_f hc3).symm.trans hM
      refine cw_skip (hK3 _ _ ?_); clear hK3
      refine cw_seq fun K6 hK6 => ?_
      refine cw_region ?_
      refine ow_ev ev_assign ?_
      refine ow_nil (hK6 _ _ ?_); clear hK6
      refine cw_seq fun K7 hK7 => ?_
      refine cw_seq fun K8 hK8 => ?_
      refine cw_region ?_
      refine ow_ev ev_assign ?_
      refine ow_nil (hK8 _ _ ?_); clear hK8
      refine cw_block ?_
      refine cw_loop (γ := Nat × (Int × Nat) × Unit) (env := fun (_, (n_1, i_1), _) => [(4, .v (.string t_j1.ba)), (5, .v (.int .i64 sign_j1)), (6, .v (.int .i64 n_1)), (7, .v (.int .i64 (i_1 : Int)))]) (mem := fun (_, (n_1, i_1), _) => []) (R := fun g => iter (ref1_Number_b1 t_j1 sign_j1) g.1 g.2.1 = some y) (μ := fun g => g.1) (FUEL, (0, 0), ()) hM ⟨rfl, rfl, rfl, rfl, trivial⟩ (fun w hm => hm.reord) ?_
      clear hM
      intro g hM KL1 hL1
      obtain ⟨nn1, ⟨n_1, i_1⟩, ⟨⟩⟩ := g
      dsimp only at hM ⊢
      obtain ⟨nn1, cont1, rfl, hcont1, hM⟩ := iter_open' hM
      dsimp only [ref1_Number_b1] at hM
      refine cw_seq fun K9 hK9 => ?_
      refine cw_seq fun K10 hK10 => ?_
      refine cw_region ?_
      refine ow_ev ev_move ?_
      refine ow_ev ev_move ?_
      refine ow_ev ev_slen ?_
      refine ow_ev ev_lss ?_
      refine ow_nil (hK10 _ _ ?_); clear hK10
      refine cw_cond rfl (fun hc4 => ?_) (fun hc4 => ?_)
      ·
        replace hM := (ite_t hc4).symm.trans hM
        refine cw_skip (hK9 _ _ ?_); clear hK9
        refine cw_seq fun K11 hK11 => ?_
        refine cw_block ?_
        refine cw_seq fun K12 hK12 => ?_
        refine cw_seq fun K13 hK13 => ?_
        refine cw_region ?_
        refine ow_ev ev_move ?_
        refine ow_ev ev_move ?_
        obtain ⟨c5, hc_6, hM⟩ := bind_some hM
        refine ow_ev (ev_sidx (fun _ => hc_6)) ?_
        obtain ⟨y7, hy8, hM⟩ := bind_some hM
        refine ow_cons (st_callv (fun w hm => let ⟨S, hs⟩ := hm; ref1_digit_spec _ w c5 y7 hy8 (lend_lt hs) ) ?_)
        refine ow_ev ev_not ?_
        refine ow_nil (hK13 _ _ ?_); clear hK13
        refine cw_cond rfl (fun hc9 => ?_) (fun hc9 => ?_)
        ·
          replace hM := (ite_t hc9).symm.trans hM
          refine cw_seq fun K14 hK14 => ?_
          refine cw_region ?_
          refine ow_ev ev_assign ?_
          refine ow_ev ev_assign ?_
          refine ow_nil (hK14 _ _ ?_); clear hK14
          obtain rfl := some_inj hM
          refine cw_ret (kw_retc2 (fun w hm => ret_of hm rfl))
        ·
          replace hM := (ite_f hc9).symm.trans hM
          refine cw_skip (hK12 _ _ ?_); clear hK12
          refine cw_region ?_
          refine ow_ev ev_move ?_
          obtain ⟨hI10, hM⟩ := chk_some hM
          refine ow_ev (ev_mul (hr := fun hg => i64b_I64 hI10)) ?_
          refine ow_ev ev_move ?_
          refine ow_ev ev_move ?_
          obtain ⟨c11, hc_12, hM⟩ := bind_some hM
          refine ow_ev (ev_sidx (fun _ => hc_12)) ?_
          refine ow_ev ev_subw ?_
          refine ow_ev (ev_convert_int .i64) ?_
          obtain ⟨hI13, hM⟩ := chk_some hM
          refine ow_ev (ev_add (hr := fun hg => i64b_I64 hI13)) ?_
          refine ow_ev ev_assign ?_
          refine ow_nil (hK11 _ _ ?_); clear hK11
          refine cw_region ?_
          refine ow_ev ev_move ?_
          obtain ⟨hI14, hM⟩ := chk_some hM
          refine ow_ev (ev_add (hr := fun hg => i64b_I64 hI14)) ?_
          refine ow_ev ev_assign ?_
          refine ow_nil (hL1 (nn1, (((10 * n_1) + (IntKind.i64.wrap (IntKind.u8.wrap (c11 - 48)))), i_1 + 1), ()) _ _ (eqc hcont1 hM) (Nat.lt_succ_self _) ⟨rfl, rfl, rfl, rfl, trivial⟩ (fun w hm => hm.reord))
      ·
        replace hM := (ite_f hc4).symm.trans hM
        refine cw_exit (hK7 _ _ ?_); clear hK7
        dsimp only [ref1_Number_k2] at hM
        refine cw_seq fun K15 hK15 => ?_
        refine cw_seq fun K16 hK16 => ?_
        refine cw_region ?_
        refine ow_ev ev_move ?_
        refine ow_ev ev_gtr ?_
        refine ow_nil (hK16 _ _ ?_); clear hK16
        refine cw_cond rfl (fun hc15 => ?_) (fun hc15 => ?_)
        ·
          replace hM := (ite_t hc15).symm.trans hM
          refine cw_seq fun K17 hK17 => ?_
          refine cw_region ?_
          refine ow_ev ev_assign ?_
          refine ow_ev ev_assign ?_
          refine ow_nil (hK17 _ _ ?_); clear hK17
          obtain rfl := some_inj hM
          refine cw_ret (kw_retc2 (fun w hm => ret_of hm rfl))
        ·
          replace hM := (ite_f hc15).symm.trans hM
          refine cw_skip (hK15 _ _ ?_); clear hK15
          refine cw_seq fun K18 hK18 => ?_
          refine cw_region ?_
          refine ow_ev ev_move ?_
          refine ow_ev ev_move ?_
          obtain ⟨hI16, hM⟩ := chk_some hM
          refine ow_ev (ev_mul (hr := fun hg => i64b_I64 hI16)) ?_
          refine ow_ev ev_assign ?_
          refine ow_ev ev_assign ?_
          refine ow_nil (hK18 _ _ ?_); clear hK18
          obtain rfl := some_inj hM
          refine cw_ret (kw_retc2 (fun w hm => ret_of hm rfl))

def ref1_Place_k1 : Unit → Option Int := fun _ =>
  some (-1)
def ref1_Place_b1 (l0 : List Str) (s0 : Str) (cont1 : Nat → Option Int) : Nat → Option Int := fun i_1 =>
  if decide ((i_1 : Int) < (l0.length : Int)) then
    ((idx l0 (i_1 : Int)).bind fun x2 =>
    if decide (x2 = s0) then
      (some (i_1 : Int))
    else
      (chk (i64b ((i_1 : Int) + 1)) <|
      cont1 (i_1 + 1)))
  else
    (ref1_Place_k1 ())
def ref1_Place_m (l0 : List Str) (s0 : Str) : Option Int :=
  iter (ref1_Place_b1 l0 s0) FUEL 0
theorem ref1_Place_spec (S : Soup) (w : World) (l0 : List Str) (r_l0 : GoRep.R (List Str)) (s0 : Str) (y : Int) (hM : ref1_Place_m l0 s0 = some y) (hS : ∀ k, S k → k < w.heap.size) (h_l0 : GoRep.ok S w r_l0 l0) :
    Calls Tryz.prog 172 #[.slice r_l0.a l0.length r_l0.cap, .string s0.ba] w (Ret w (.int .i64 y)) := by
  refine calls_cw (args := [_, _]) Tryz.func172 rfl ((pre_nil hS).start |>.immP (α := List Str) (r := r_l0) (x := l0) h_l0) rfl ?_
  unfold ref1_Place_m at hM
  refine cw_seq fun K1 hK1 => ?_
  refine cw_region ?_
  refine ow_ev ev_assign ?_
  refine ow_nil (hK1 _ _ ?_); clear hK1
  refine cw_seq fun K2 hK2 => ?_
  refine cw_seq fun K3 hK3 => ?_
  refine cw_region ?_
  refine ow_ev ev_assign ?_
  refine ow_nil (hK3 _ _ ?_); clear hK3
  refine cw_block ?_
  refine cw_loop (γ := Nat × Nat × Unit) (env := fun (_, i_1, _) => [(0, .v (.slice r_l0.a l0.length r_l0.cap)), (1, .v (.string s0.ba)), (5, .v (.int .i64 (i_1 : Int)))]) (mem := fun (_, i_1, _) => [imm (α := (List Str)) r_l0 l0]) (R := fun g => iter (ref1_Place_b1 l0 s0) g.1 g.2.1 = some y) (μ := fun g => g.1) (FUEL, 0, ()) hM ⟨rfl, rfl, rfl, trivial⟩ (fun w hm => hm.reord) ?_
  clear hM
  intro g hM KL1 hL1
  obtain ⟨nn1, i_1, ⟨⟩⟩ := g
  dsimp only at hM ⊢
  obtain ⟨nn1, cont1, rfl, hcont1, hM⟩ := iter_open' hM
  dsimp only [ref1_Place_b1] at hM
  refine cw_seq fun K4 hK4 => ?_
  refine cw_seq fun K5 hK5 => ?_
  refine cw_region ?_
  refine ow_ev ev_move ?_
  refine ow_ev ev_move ?_
  refine ow_ev ev_len ?_
  refine ow_ev ev_lss ?_
  refine ow_nil (hK5 _ _ ?_); clear hK5
  refine cw_cond rfl (fun hc1 => ?_) (fun hc1 => ?_)
  ·
    replace hM := (ite_t hc1).symm.trans hM
    refine cw_skip (hK4 _ _ ?_); clear hK4
    refine cw_seq fun K6 hK6 => ?_
    refine cw_block ?_
    refine cw_seq fun K7 hK7 => ?_
    refine cw_region ?_
    refine ow_ev ev_move ?_
    refine ow_ev ev_move ?_
    obtain ⟨x2, hx3, hM⟩ := bind_some hM
    refine ow_ev (ev_idx (xs := l0) 1 (Kn.imm (α := List Str) (r := r_l0) (x := l0) (by repeat (first | exact Has.head | apply Has.tail))) (fun hg => let h := idx_some hx3; ⟨h.1, h.2.1⟩)) ?_
    refine ow_ev (ev_ld (i := (i_1 : Int)) (xs := l0) (y := x2) 0 (Kn.imm (α := List Str) (r := r_l0) (x := l0) (by repeat (first | exact Has.head | apply Has.tail))) (fun _ => hx3)) ?_
    refine ow_ev ev_move ?_
    refine ow_ev ev_str_eql ?_
    refine ow_nil (hK7 _ _ ?_); clear hK7
    refine cw_cond rfl (fun hc4 => ?_) (fun hc4 => ?_)
    ·
      replace hM := (ite_t hc4).symm.trans hM
      refine cw_seq fun K8 hK8 => ?_
      refine cw_region ?_
      refine ow_ev ev_move ?_
      refine ow_ev ev_assign ?_
      refine ow_nil (hK8 _ _ ?_); clear hK8
      obtain rfl := some_inj hM
      refine cw_ret (kw_retc1 (fun w hm => ret_of hm rfl))
    ·
      replace hM := (ite_f hc4).symm.trans hM
      refine cw_skip (hK6 _ _ ?_); clear hK6
      refine cw_region ?_
      refine ow_ev ev_move ?_
      obtain ⟨hI5, hM⟩ := chk_some hM
      refine ow_ev (ev_add (hr := fun hg => i64b_I64 hI5)) ?_
      refine ow_ev ev_assign ?_
      refine ow_nil (hL1 (nn1, (i_1 + 1), ()) _ _ (eqc hcont1 hM) (Nat.lt_succ_self _) ⟨rfl, rfl, rfl, trivial⟩ (fun w hm => hm.reord))
  ·
    replace hM := (ite_f hc1).symm.trans hM
    refine cw_exit (hK2 _ _ ?_); clear hK2
    dsimp only [ref1_Place_k1] at hM
    refine cw_seq fun K9 hK9 => ?_
    refine cw_region ?_
    refine ow_ev ev_assign ?_
    refine ow_nil (hK9 _ _ ?_); clear hK9
    obtain rfl := some_inj hM
    refine cw_ret (kw_retc1 (fun w hm => ret_of hm rfl))

def ref1_declareSection_k1 (l0 : Layout) (x16 : Word) (y3 : Int × Bool) (y7 : Int × Bool) (y11 : Int × Bool) : Int → Option (Int × (List Section)) := fun s_j1_4 =>
  chk (decide ((l0.Sections.length + ([(Section.mk x16.Text y3.1 y7.1 y11.1 s_j1_4)] : List Section).length) * 48 ≤ 140737488355328)) <|
  some (0, (l0.Sections ++ ([(Section.mk x16.Text y3.1 y7.1 y11.1 s_j1_4)] : List Section)))
def ref1_declareSection_m (l0 : Layout) (p1 : List Word) : Option (Int × (List Section)) :=
  (idx p1 2).bind fun x1 =>
  (ref1_Number_m x1.Text).bind fun y3 =>
  (idx p1 3).bind fun x5 =>
  (ref1_Number_m x5.Text).bind fun y7 =>
  (idx p1 4).bind fun x9 =>
  (ref1_Number_m x9.Text).bind fun y11 =>
  (whn ((!(((!y3.2) || (!y7.2)) || (!y11.2))) && decide ((p1.length : Int) = 7)) default (idx p1 5)).bind fun x13 =>
  if ((((!y3.2) || (!y7.2)) || (!y11.2)) || (decide ((p1.length : Int) = 7) && (!decide (x13.Text = (⟨[97, 116]⟩ : Str))))) then
    (some (2, l0.Sections))
  else
    ((idx p1 1).bind fun x16 =>
    if decide ((p1.length : Int) = 7) then
      ((idx p1 6).bind fun x23 =>
      (ref1_Place_m l0.Stations x23.Text).bind fun y25 =>
      if decide (y25 < 0) then
        (some (3, l0.Sections))
      else
        (ref1_declareSection_k1 l0 x16 y3 y7 y11 y25))
    else
      (ref1_declareSection_k1 l0 x16 y3 y7 y11 (-1)))
theorem ref1_declareSection_spec (S : Soup) (w : World) (b_l0 : Nat) (l0 : Layout) (r_l0 : GoRep.R Layout) (p1 : List Word) (r_p1 : GoRep.R (List Word)) (y : Int × (List Section)) (hM : ref1_declareSection_m l0 p1 = some y) (hP : Pre S [own b_l0 26 [.slice r_l0.1.a l0.Stations.length r_l0.1.cap, .slice r_l0.2.1.a l0.Points.length r_l0.2.1.cap, .slice r_l0.2.2.1.a l0.Sections.length r_l0.2.2.1.cap, .slice r_l0.2.2.2.a l0.Links.length r_l0.2.2.2.cap], trow 9 r_l0.1 l0.Stations, trow 9 r_l0.2.1 l0.Points, trow 81 r_l0.2.2.1 l0.Sections, trow 183 r_l0.2.2.2 l0.Links] w) (h_p1 : GoRep.ok S w r_p1 p1) :
    Calls Tryz.prog 131 #[.pointer (some ⟨b_l0, 0, none⟩), .slice r_p1.a p1.length r_p1.cap] w (Post (β := (SR (GoRep.R Section))) S [own b_l0 26 [.slice r_l0.1.a l0.Stations.length r_l0.1.cap, .slice r_l0.2.1.a l0.Points.length r_l0.2.1.cap, .slice r_l0.2.2.1.a l0.Sections.length r_l0.2.2.1.cap, .slice r_l0.2.2.2.a l0.Links.length r_l0.2.2.2.cap], trow 9 r_l0.1 l0.Stations, trow 9 r_l0.2.1 l0.Points, trow 81 r_l0.2.2.1 l0.Sections, trow 183 r_l0.2.2.2 l0.Links] (fun g => .int .i64 y.1) (fun g => [own b_l0 26 [.slice r_l0.1.a l0.Stations.length r_l0.1.cap, .slice r_l0.2.1.a l0.Points.length r_l0.2.1.cap, .slice g.a y.2.length g.cap, .slice r_l0.2.2.2.a l0.Links.length r_l0.2.2.2.cap], trow 9 r_l0.1 l0.Stations, trow 9 r_l0.2.1 l0.Points, trow 81 g y.2, trow 183 r_l0.2.2.2 l0.Links]) w) := by
  refine calls_cw (args := [_, _]) Tryz.func131 rfl (hP.start |>.immP (α := List Word) (r := r_p1) (x := p1) h_p1) rfl ?_
  unfold ref1_declareSection_m at hM
  refine cw_seq fun K1 hK1 => ?_
  refine cw_region ?_
  refine ow_ev ev_assign ?_
  refine ow_nil (hK1 _ _ ?_); clear hK1
  refine cw_seq fun K2 hK2 => ?_
  refine cw_region ?_
  refine ow_ev ev_move ?_
  obtain ⟨x1, hx2, hM⟩ := bind_some hM
  refine ow_ev (ev_idx (xs := p1) 3 (Kn.imm (α := List Word) (r := r_p1) (x := p1) (by repeat (first | exact Has.head | apply Has.tail))) (fun hg => let h := idx_some hx2; ⟨h.1, h.2.1⟩)) ?_
  refine ow_ev (ev_field_addr 0) ?_
  refine ow_ev (ev_ld (i := 2) (xs := p1) (y := x1) 0 (Kn.imm (α := List Word) (r := r_p1) (x := p1) (by repeat (first | exact Has.head | apply Has.tail))) (fun _ => hx2)) ?_
  obtain ⟨y3, hy4, hM⟩ := bind_some hM
  refine ow_cons (st_callv (fun w hm => let ⟨S, hs⟩ := hm; ref1_Number_spec _ w x1.Text y3 hy4 (lend_lt hs) ) ?_)
  refine ow_ev ev_move ?_
  refine ow_ev (ev_extract (vs := [.int .i64 y3.1, .bool y3.2])) ?_
  refine ow_ev (ev_extract (vs := [.int .i64 y3.1, .bool y3.2])) ?_
  refine ow_ev ev_assign ?_
  refine ow_ev ev_assign ?_
  refine ow_nil (hK2 _ _ ?_); clear hK2
  refine cw_seq fun K3 hK3 => ?_
  refine cw_region ?_
  refine ow_ev ev_move ?_
  obtain ⟨x5, hx6, hM⟩ := bind_some hM
  refine ow_ev (ev_idx (xs := p1) 3 (Kn.imm (α := List Word) (r := r_p1) (x := p1) (by repeat (first | exact Has.head | apply Has.tail))) (fun hg => let h := idx_some hx6; ⟨h.1, h.2.1⟩)) ?_
  refine ow_ev (ev_field_addr 0) ?_
  refine ow_ev (ev_ld (i := 3) (xs := p1) (y := x5) 0 (Kn.imm (α := List Word) (r := r_p1) (x := p1) (by repeat (first | exact Has.head | apply Has.tail))) (fun _ => hx6)) ?_
  obtain ⟨y7, hy8, hM⟩ := bind_some hM
  refine ow_cons (st_callv (fun w hm => let ⟨S, hs⟩ := hm; ref1_Number_spec _ w x5.Text y7 hy8 (lend_lt hs) ) ?_)
  refine ow_ev ev_move ?_
  refine ow_ev (ev_extract (vs := [.int .i64 y7.1, .bool y7.2])) ?_
  refine ow_ev (ev_extract (vs := [.int .i64 y7.1, .bool y7.2])) ?_
  refine ow_ev ev_assign ?_
  refine ow_ev ev_assign ?_
  refine ow_nil (hK3 _ _ ?_); clear hK3
  refine cw_seq fun K4 hK4 => ?_
  refine cw_region ?_
  refine ow_ev ev_move ?_
  obtain ⟨x9, hx10, hM⟩ := bind_some hM
  refine ow_ev (ev_idx (xs := p1) 3 (Kn.imm (α := List Word) (r := r_p1) (x := p1) (by repeat (first | exact Has.head | apply Has.tail))) (fun hg => let h := idx_some hx10; ⟨h.1, h.2.1⟩)) ?_
  refine ow_ev (ev_field_addr 0) ?_
  refine ow_ev (ev_ld (i := 4) (xs := p1) (y := x9) 0 (Kn.imm (α := List Word) (r := r_p1) (x := p1) (by repeat (first | exact Has.head | apply Has.tail))) (fun _ => hx10)) ?_
  obtain ⟨y11, hy12, hM⟩ := bind_some hM
  refine ow_cons (st_callv (fun w hm => let ⟨S, hs⟩ := hm; ref1_Number_spec _ w x9.Text y11 hy12 (lend_lt hs) ) ?_)
  refine ow_ev ev_move ?_
  refine ow_ev (ev_extract (vs := [.int .i64 y11.1, .bool y11.2])) ?_
  refine ow_ev (ev_extract (vs := [.int .i64 y11.1, .bool y11.2])) ?_
  refine ow_ev ev_assign ?_
  refine ow_ev ev_assign ?_
  refine ow_nil (hK4 _ _ ?_); clear hK4
  refine cw_seq fun K5 hK5 => ?_
  refine cw_seq fun K6 hK6 => ?_
  refine cw_region ?_
  refine ow_ev ev_move ?_
  refine ow_ev ev_not ?_
  refine ow_ev ev_move ?_
  refine ow_evg rfl ev_move ?_
  refine ow_evg rfl ev_not ?_
  refine ow_ev ev_or ?_
  refine ow_ev ev_move ?_
  refine ow_evg rfl ev_move ?_
  refine ow_evg rfl ev_not ?_
  refine ow_ev ev_or ?_
  refine ow_ev ev_move ?_
  refine ow_evg rfl ev_move ?_
  refine ow_evg rfl ev_len ?_
  refine ow_evg rfl ev_eql ?_
  refine ow_evg rfl ev_move ?_
  refine ow_evg rfl ev_move ?_
  obtain ⟨x13, hx14, hM⟩ := bind_some hM
  refine ow_evg rfl (ev_idx (xs := p1) 3 (Kn.imm (α := List Word) (r := r_p1) (x := p1) (by repeat (first | exact Has.head | apply Has.tail))) (fun hg => let h := idx_some (whn_some hx14 hg); ⟨h.1, h.2.1⟩)) ?_
  refine ow_evg rfl (ev_field_addr 0) ?_
  refine ow_evg rfl (ev_ld (i := 5) (xs := p1) (y := x13) 0 (Kn.imm (α := List Word) (r := r_p1) (x := p1) (by repeat (first | exact Has.head | apply Has.tail))) (fun hg => whn_some hx14 hg)) ?_
  refine ow_evg rfl ev_str_neq ?_
  refine ow_evg rfl ev_and ?_
  refine ow_ev ev_or ?_
  refine ow_nil (hK6 _ _ ?_); clear hK6
  refine cw_cond rfl (fun hc15 => ?_) (fun hc15 => ?_)
  ·
    replace hM := (ite_t hc15).symm.trans hM
    refine cw_seq fun K7 hK7 => ?_
    refine cw_region ?_
    refine ow_ev ev_assign ?_
    refine ow_nil (hK7 _ _ ?_); clear hK7
    obtain rfl := some_inj hM
    refine cw_ret (kw_retc1 (fun w hm => post_of r_l0.2.2.1 hm rfl))
  ·
    replace hM := (ite_f hc15).symm.trans hM
    refine cw_skip (hK5 _ _ ?_); clear hK5
    refine cw_seq fun K8 hK8 => ?_
    refine cw_region ?_
    refine ow_ev ev_move ?_
    obtain ⟨x16, hx17, hM⟩ := bind_some hM
    refine ow_ev (ev_idx (xs := p1) 3 (Kn.imm (α := List Word) (r := r_p1) (x := p1) (by repeat (first | exact Has.head | apply Has.tail))) (fun hg => let h := idx_some hx17; ⟨h.1, h.2.1⟩)) ?_
    refine ow_ev (ev_field_addr 0) ?_
    refine ow_ev (ev_ld (i := 1) (xs := p1) (y := x16) 0 (Kn.imm (α := List Word) (r := r_p1) (x := p1) (by repeat (first | exact Has.head | apply Has.tail))) (fun _ => hx17)) ?_
    refine ow_ev ev_move ?_
    refine ow_ev ev_move ?_
    refine ow_ev ev_move ?_
    refine ow_ev (ev_build [.string x16.Text.ba, .int .i64 y3.1, .int .i64 y7.1, .int .i64 y11.1, .int .i64 (-1)]) ?_
    refine ow_cons (st_alloc rfl (k := fun b18 => ?_))
    refine ow_cons (st_store_all (b := b18) (vs := [.string x16.Text.ba, .int .i64 y3.1, .int .i64 y7.1, .int .i64 y11.1, .int .i64 (-1)]) (k := ?_))
    refine ow_nil (hK8 _ _ ?_); clear hK8
    refine cw_cut (γ := Int × Unit) (env := fun (s_j1_4, _) => [(0, .v (.pointer (some ⟨b_l0, 0, none⟩))), (11, .v (.pointer (some ⟨b18, 0, none⟩)))]) (mem := fun (s_j1_4, _) => [trow 9 r_l0.1 l0.Stations, trow 9 r_l0.2.1 l0.Points, trow 81 r_l0.2.2.1 l0.Sections, trow 183 r_l0.2.2.2 l0.Links, own b_l0 26 [.slice r_l0.1.a l0.Stations.length r_l0.1.cap, .slice r_l0.2.1.a l0.Points.length r_l0.2.1.cap, .slice r_l0.2.2.1.a l0.Sections.length r_l0.2.2.1.cap, .slice r_l0.2.2.2.a l0.Links.length r_l0.2.2.2.cap], own b18 81 [.string x16.Text.ba, .int .i64 y3.1, .int .i64 y7.1, .int .i64 y11.1, .int .i64 s_j1_4]]) (R := fun g => ref1_declareSection_k1 l0 x16 y3 y7 y11 g.1 = some y) ?_ ?_
    · intro KJ1 hJ1
      refine cw_seq fun K11 hK11 => ?_
      refine cw_region ?_
      refine ow_ev ev_move ?_
      refine ow_ev ev_len ?_
      refine ow_ev ev_eql ?_
      refine ow_nil (hK11 _ _ ?_); clear hK11
      refine cw_cond rfl (fun hc22 => ?_) (fun hc22 => ?_)
      ·
        replace hM := (ite_t hc22).symm.trans hM
        refine cw_seq fun K12 hK12 => ?_
        refine cw_region_z [own b18 81 [.string x16.Text.ba, .int .i64 y3.1, .int .i64 y7.1, .int .i64 y11.1, .int .i64 (-1)], imm (α := (List Word)) r_p1 p1, own b_l0 26 [.slice r_l0.1.a l0.Stations.length r_l0.1.cap, .slice r_l0.2.1.a l0.Points.length r_l0.2.1.cap, .slice r_l0.2.2.1.a l0.Sections.length r_l0.2.2.1.cap, .slice r_l0.2.2.2.a l0.Links.length r_l0.2.2.2.cap], trow 9 r_l0.1 l0.Stations, trow 9 r_l0.2.1 l0.Points, trow 81 r_l0.2.2.1 l0.Sections, trow 183 r_l0.2.2.2 l0.Links] 10 ?_
        refine az_ev 0 rfl ev_move ?_
        refine az_ev 1 rfl ev_nilcheck ?_
        refine az_ev 2 rfl (ev_field_addr 0) ?_
        refine az_ev 3 rfl (ev_load_own (b := b_l0)) ?_
        refine az_ev 4 rfl ev_move ?_
        obtain ⟨x23, hx24, hM⟩ := bind_some hM
        refine az_ev 5 rfl (ev_idx (xs := p1) 3 (Kn.imm (α := List Word) (r := r_p1) (x := p1) (by repeat (first | exact Has.head | apply Has.tail))) (fun hg => let h := idx_some hx24; ⟨h.1, h.2.1⟩)) ?_
        refine az_ev 6 rfl (ev_field_addr 0) ?_
        refine az_ev 7 rfl (ev_ld (i := 6) (xs := p1) (y := x23) 0 (Kn.imm (α := List Word) (r := r_p1) (x := p1) (by repeat (first | exact Has.head | apply Has.tail))) (fun _ => hx24)) ?_
        obtain ⟨y25, hy26, hM⟩ := bind_some hM
        refine az_one 8 rfl (st_callv (fun w hm => let ⟨S, hs⟩ := hm; ref1_Place_spec _ w l0.Stations r_l0.1 x23.Text y25 hy26 (lend_lt hs) (Kn.lend (Kn.trow (e := 9) (r := r_l0.1) (by repeat (first | exact Has.head | apply Has.tail))) hs)) ⟨fun w hm => hm.sub (by repeat (first | exact List.Sublist.refl _ | apply List.Sublist.cons_cons | apply List.Sublist.cons)), ?_⟩)
        refine az_ev 9 rfl (ev_field_addr 4) ?_
        refine az_last rfl (st_store_own (b := b18) (l' := [.string x16.Text.ba, .int .i64 y3.1, .int .i64 y7.1, .int .i64 y11.1, .int .i64 y25]) (k := ?_))
        refine az_done (hK12 _ _ ?_); clear hK12
        refine cw_seq fun K13 hK13 => ?_
        refine cw_region ?_
        refine ow_ev (ev_field_addr 4) ?_
        refine ow_ev (ev_load_own (b := b18)) ?_
        refine ow_ev ev_lss ?_
        refine ow_nil (hK13 _ _ ?_); clear hK13
        refine cw_cond rfl (fun hc27 => ?_) (fun hc27 => ?_)
        ·
          replace hM := (ite_t hc27).symm.trans hM
          refine cw_seq fun K14 hK14 => ?_
          refine cw_region ?_
          refine ow_ev ev_assign ?_
          refine ow_nil (hK14 _ _ ?_); clear hK14
          obtain rfl := some_inj hM
          refine cw_ret (kw_retc1 (fun w hm => post_of r_l0.2.2.1 hm rfl))
        ·
          replace hM := (ite_f hc27).symm.trans hM
          refine cw_skip (hJ1 (y25, ()) _ _ hM ⟨rfl, rfl, trivial⟩ (fun w hm => hm.reord))
      ·
        replace hM := (ite_f hc22).symm.trans hM
        refine cw_skip (hJ1 ((-1), ()) _ _ hM ⟨rfl, rfl, trivial⟩ (fun w hm => hm.reord))
    ·
      clear hM
      intro g hM
      obtain ⟨s_j1_4, ⟨⟩⟩ := g
      dsimp only at hM ⊢
      dsimp only [ref1_declareSection_k1] at hM
      refine cw_seq fun K9 hK9 => ?_
      refine cw_region_z [trow 9 r_l0.1 l0.Stations, trow 9 r_l0.2.1 l0.Points, trow 183 r_l0.2.2.2 l0.Links, own b_l0 26 [.slice r_l0.1.a l0.Stations.length r_l0.1.cap, .slice r_l0.2.1.a l0.Points.length r_l0.2.1.cap, .slice r_l0.2.2.1.a l0.Sections.length r_l0.2.2.1.cap, .slice r_l0.2.2.2.a l0.Links.length r_l0.2.2.2.cap], own b18 81 [.string x16.Text.ba, .int .i64 y3.1, .int .i64 y7.1, .int .i64 y11.1, .int .i64 s_j1_4]] 10 ?_
      refine az_ev 0 rfl ev_move ?_
      refine az_ev 1 rfl ev_move ?_
      refine az_ev 2 rfl ev_nilcheck ?_
      refine az_ev 3 rfl (ev_field_addr 2) ?_
      refine az_ev 4 rfl (ev_load_own (b := b_l0)) ?_
      refine az_ev 5 rfl (ev_load_all (b := b18)) ?_
      refine az_one 6 rfl (st_bslice (α := Section) 81 (fun _ => ()) ([(Section.mk x16.Text y3.1 y7.1 y11.1 s_j1_4)] : List Section) (OkL.flat (fun _ _ _ _ => trivial)) (fun r19 => ⟨fun w hm => hm.sub (by repeat (first | exact List.Sublist.refl _ | apply List.Sublist.cons_cons | apply List.Sublist.cons)), ?_⟩))
      obtain ⟨hb21, hM⟩ := chk_some hM
      refine az_one 7 rfl (st_append (r := r_l0.2.2.1) (r2 := r19) (by intro r'; repeat (first | exact Upd.head | apply Upd.tail)) (Kn.trow (e := 81) (r := r19) (by repeat (first | exact Has.head | apply Has.tail))) (OkL.flat (fun _ _ _ _ => trivial)) (of_decide_eq_true hb21) (fun r20 => ⟨fun w hm => hm.sub (by repeat (first | exact List.Sublist.refl _ | apply List.Sublist.cons_cons | apply List.Sublist.cons)), ?_⟩))
      refine az_ev 8 rfl ev_nilcheck ?_
      refine az_ev 9 rfl (ev_field_addr 2) ?_
      refine az_last rfl (st_store_own (b := b_l0) (l' := [.slice r_l0.1.a l0.Stations.length r_l0.1.cap, .slice r_l0.2.1.a l0.Points.length r_l0.2.1.cap, .slice r20.a ((l0.Sections ++ ([(Section.mk x16.Text y3.1 y7.1 y11.1 s_j1_4)] : List Section)).length) r20.cap, .slice r_l0.2.2.2.a l0.Links.length r_l0.2.2.2.cap]) (k := ?_))
      refine az_done (hK9 _ _ ?_); clear hK9
      refine cw_seq fun K10 hK10 => ?_
      refine cw_region ?_
      refine ow_ev ev_assign ?_
      refine ow_nil (hK10 _ _ ?_); clear hK10
      obtain rfl := some_inj hM
      refine cw_ret (kw_retc1 (fun w hm => post_of r20 hm rfl))

def ref1_letterEnd_m (s0 : Str) : Option Int :=
  if decide (s0 = (⟨[65]⟩ : Str)) then
    (some 0)
  else
    (if decide (s0 = (⟨[66]⟩ : Str)) then
      (some 1)
    else
      (some (-1)))
theorem ref1_letterEnd_spec (S : Soup) (w : World) (s0 : Str) (y : Int) (hM : ref1_letterEnd_m s0 = some y) (hS : ∀ k, S k → k < w.heap.size)  :
    Calls Tryz.prog 173 #[.string s0.ba] w (Ret w (.int .i64 y)) := by
  refine calls_cw (args := [_]) Tryz.func173 rfl ((pre_nil hS).start) rfl ?_
  unfold ref1_letterEnd_m at hM
  refine cw_seq fun K1 hK1 => ?_
  refine cw_region ?_
  refine ow_ev ev_assign ?_
  refine ow_nil (hK1 _ _ ?_); clear hK1
  refine cw_seq fun K2 hK2 => ?_
  refine cw_seq fun K3 hK3 => ?_
  refine cw_region ?_
  refine ow_ev ev_move ?_
  refine ow_nil (hK3 _ _ ?_); clear hK3
  refine cw_block ?_
  refine cw_seq fun K4 hK4 => ?_
  refine cw_region ?_
  refine ow_ev ev_str_eql ?_
  refine ow_ev ev_assign ?_
  refine ow_nil (hK4 _ _ ?_); clear hK4
  refine cw_cond rfl (fun hc1 => ?_) (fun hc1 => ?_)
  ·
    replace hM := (ite_t hc1).symm.trans hM
    refine cw_seq fun K5 hK5 => ?_
    refine cw_region ?_
    refine ow_ev ev_assign ?_
    refine ow_nil (hK5 _ _ ?_); clear hK5
    obtain rfl := some_inj hM
    refine cw_ret (kw_retc1 (fun w hm => ret_of hm rfl))
  ·
    replace hM := (ite_f hc1).symm.trans hM
    refine cw_seq fun K6 hK6 => ?_
    refine cw_region ?_
    refine ow_ev ev_str_eql ?_
    refine ow_ev ev_assign ?_
    refine ow_nil (hK6 _ _ ?_); clear hK6
    refine cw_cond rfl (fun hc2 => ?_) (fun hc2 => ?_)
    ·
      replace hM := (ite_t hc2).symm.trans hM
      refine cw_seq fun K7 hK7 => ?_
      refine cw_region ?_
      refine ow_ev ev_assign ?_
      refine ow_nil (hK7 _ _ ?_); clear hK7
      obtain rfl := some_inj hM
      refine cw_ret (kw_retc1 (fun w hm => ret_of hm rfl))
    ·
      replace hM := (ite_f hc2).symm.trans hM
      refine cw_skip (hK2 _ _ ?_); clear hK2
      refine cw_seq fun K8 hK8 => ?_
      refine cw_region ?_
      refine ow_ev ev_assign ?_
      refine ow_nil (hK8 _ _ ?_); clear hK8
      obtain rfl := some_inj hM
      refine cw_ret (kw_retc1 (fun w hm => ret_of hm rfl))

def ref1_declareLink_k2 (l0 : Layout) (y13 : Int) (k_j1_1 : Int) (y15 : Int) (k_j1_3 : Int) : (Int × Int) → Option (Int × (List Link)) := fun (k_j2_4, k_j2_5) =>
  chk (decide ((l0.Links.length + ([(Link.mk y13 k_j1_1 y15 k_j1_3 k_j2_4 k_j2_5)] : List Link).length) * 48 ≤ 140737488355328)) <|
  some (0, (l0.Links ++ ([(Link.mk y13 k_j1_1 y15 k_j1_3 k_j2_4 k_j2_5)] : List Link)))
def ref1_declareLink_k1 (p1 : List Word) (l0 : Layout) : (Int × Int) → Option (Int × (List Link)) := fun (k_j1_1, k_j1_3) =>
  (whn ((!(decide (k_j1_1 < 0) || decide (k_j1_3 < 0))) && decide ((p1.length : Int) = 7)) default (idx p1 6)).bind fun x1 =>
  (whn ((!(decide (k_j1_1 < 0) || decide (k_j1_3 < 0))) && (decide ((p1.length : Int) = 7) && (!decide (x1.Text = (⟨[48]⟩ : Str))))) default (idx p1 6)).bind fun x3 =>
  if ((decide (k_j1_1 < 0) || decide (k_j1_3 < 0)) || ((decide ((p1.length : Int) = 7) && (!decide (x1.Text = (⟨[48]⟩ : Str)))) && (!decide (x3.Text = (⟨[49]⟩ : Str))))) then
    (some (2, l0.Links))
  else
    ((ref1_sectionNames_m l0).bind fun y6 =>
    (idx p1 1).bind fun x9 =>
    (idx p1 3).bind fun x11 =>
    (ref1_Place_m y6 x9.Text).bind fun y13 =>
    (ref1_Place_m y6 x11.Text).bind fun y15 =>
    if (decide (y13 < 0) || decide (y15 < 0)) then
      (some (3, l0.Links))
    else
      (if decide ((p1.length : Int) = 7) then
        ((idx p1 5).bind fun x22 =>
        (ref1_Place_m l0.Points x22.Text).bind fun y24 =>
        if decide (y24 < 0) then
          (some (3, l0.Links))
        else
          ((idx p1 6).bind fun x27 =>
          if decide (x27.Text = (⟨[49]⟩ : Str)) then
            (ref1_declareLink_k2 l0 y13 k_j1_1 y15 k_j1_3 (y24, 1))
          else
            (ref1_declareLink_k2 l0 y13 k_j1_1 y15 k_j1_3 (y24, 0))))
      else
        (ref1_declareLink_k2 l0 y13 k_j1_1 y15 k_j1_3 ((-1), 0))))
def ref1_declareLink_m (l0 : Layout) (p1 : List Word) : Option (Int × (List Link)) :=
  (idx p1 2).bind fun x30 =>
  (idx p1 4).bind fun x32 =>
  (ref1_letterEnd_m x30.Text).bind fun y34 =>
  (ref1_letterEnd_m x32.Text).bind fun y37 =>
  ref1_declareLink_k1 p1 l0 (y34, y37)
theorem ref1_declareLink_spec (S : Soup) (w : World) (b_l0 : Nat) (l0 : Layout) (r_l0 : GoRep.R Layout) (p1 : List Word) (r_p1 : GoRep.R (List Word)) (y : Int × (List Link)) (hM : ref1_declareLink_m l0 p1 = some y) (hP : Pre S [own b_l0 26 [.slice r_l0.1.a l0.Stations.length r_l0.1.cap, .slice r_l0.2.1.a l0.Points.length r_l0.2.1.cap, .slice r_l0.2.2.1.a l0.Sections.length r_l0.2.2.1.cap, .slice r_l0.2.2.2.a l0.Links.length r_l0.2.2.2.cap], trow 9 r_l0.1 l0.Stations, trow 9 r_l0.2.1 l0.Points, trow 81 r_l0.2.2.1 l0.Sections, trow 183 r_l0.2.2.2 l0.Links] w) (h_p1 : GoRep.ok S w r_p1 p1) :
    Calls Tryz.prog 132 #[.pointer (some ⟨b_l0, 0, none⟩), .slice r_p1.a p1.length r_p1.cap] w (Post (β := (SR (GoRep.R Link))) S [own b_l0 26 [.slice r_l0.1.a l0.Stations.length r_l0.1.cap, .slice r_l0.2.1.a l0.Points.length r_l0.2.1.cap, .slice r_l0.2.2.1.a l0.Sections.length r_l0.2.2.1.cap, .slice r_l0.2.2.2.a l0.Links.length r_l0.2.2.2.cap], trow 9 r_l0.1 l0.Stations, trow 9 r_l0.2.1 l0.Points, trow 81 r_l0.2.2.1 l0.Sections, trow 183 r_l0.2.2.2 l0.Links] (fun g => .int .i64 y.1) (fun g => [own b_l0 26 [.slice r_l0.1.a l0.Stations.length r_l0.1.cap, .slice r_l0.2.1.a l0.Points.length r_l0.2.1.cap, .slice r_l0.2.2.1.a l0.Sections.length r_l0.2.2.1.cap, .slice g.a y.2.length g.cap], trow 9 r_l0.1 l0.Stations, trow 9 r_l0.2.1 l0.Points, trow 81 r_l0.2.2.1 l0.Sections, trow 183 g y.2]) w) := by
  refine calls_cw (args := [_, _]) Tryz.func132 rfl (hP.start |>.immP (α := List Word) (r := r_p1) (x := p1) h_p1) rfl ?_
  unfold ref1_declareLink_m at hM
  refine cw_seq fun K1 hK1 => ?_
  refine cw_region ?_
  refine ow_ev ev_assign ?_
  refine ow_nil (hK1 _ _ ?_); clear hK1
  refine cw_cut (γ := (Int × Int) × Nat) (env := fun ((k_j1_1, k_j1_3), bk_j1) => [(0, .v (.pointer (some ⟨b_l0, 0, none⟩))), (1, .v (.slice r_p1.a p1.length r_p1.cap)), (5, .v (.pointer (some ⟨bk_j1, 0, none⟩)))]) (mem := fun ((k_j1_1, k_j1_3), bk_j1) => [trow 9 r_l0.1 l0.Stations, trow 9 r_l0.2.1 l0.Points, trow 81 r_l0.2.2.1 l0.Sections, trow 183 r_l0.2.2.2 l0.Links, own b_l0 26 [.slice r_l0.1.a l0.Stations.length r_l0.1.cap, .slice r_l0.2.1.a l0.Points.length r_l0.2.1.cap, .slice r_l0.2.2.1.a l0.Sections.length r_l0.2.2.1.cap, .slice r_l0.2.2.2.a l0.Links.length r_l0.2.2.2.cap], imm (α := (List Word)) r_p1 p1, own bk_j1 183 [.int .i64 0, .int .i64 k_j1_1, .int .i64 0, .int .i64 k_j1_3, .int .i64 (-1), .int .i64 0]]) (R := fun g => ref1_declareLink_k1 p1 l0 g.1 = some y) ?_ ?_
  · intro KJ1 hJ1
    refine cw_region_any _ (List.Sublist.refl _) ?_
    refine aw_ev 0 rfl ev_move ?_
    obtain ⟨x30, hx31, hM⟩ := bind_some hM
    refine aw_ev 1 rfl (ev_idx (xs := p1) 3 (Kn.imm (α := List Word) (r := r_p1) (x := p1) (by repeat (first | exact Has.head | apply Has.tail))) (fun hg => let h := idx_some hx31; ⟨h.1, h.2.1⟩)) ?_
    refine aw_ev 2 rfl (ev_field_addr 0) ?_
    refine aw_ev 3 rfl (ev_ld (i := 2) (xs := p1) (y := x30) 0 (Kn.imm (α := List Word) (r := r_p1) (x := p1) (by repeat (first | exact Has.head | apply Has.tail))) (fun _ => hx31)) ?_
    refine aw_ev 5 rfl ev_move ?_
    obtain ⟨x32, hx33, hM⟩ := bind_some hM
    refine aw_ev 6 rfl (ev_idx (xs := p1) 3 (Kn.imm (α := List Word) (r := r_p1) (x := p1) (by repeat (first | exact Has.head | apply Has.tail))) (fun hg => let h := idx_some hx33; ⟨h.1, h.2.1⟩)) ?_
    refine aw_ev 7 rfl (ev_field_addr 0) ?_
    refine aw_ev 8 rfl (ev_ld (i := 4) (xs := p1) (y := x32) 0 (Kn.imm (α := List Word) (r := r_p1) (x := p1) (by repeat (first | exact Has.head | apply Has.tail))) (fun _ => hx33)) ?_
    obtain ⟨y34, hy35, hM⟩ := bind_some hM
    refine aw_two 4 11 (⟨_, rfl, rfl, st_callv (fun w hm => let ⟨S, hs⟩ := hm; ref1_letterEnd_spec _ w x30.Text y34 hy35 (lend_lt hs) ) ⟨fun w hm => hm.sub (by repeat (first | exact List.Sublist.refl _ | apply List.Sublist.cons_cons | apply List.Sublist.cons)), ?_⟩⟩) (⟨_, rfl, rfl, st_alloc rfl (k := fun b36 => ⟨fun w hm => hm.sub (by repeat (first | exact List.Sublist.refl _ | apply List.Sublist.cons_cons | apply List.Sublist.cons)), ?_⟩)⟩)
    ·
      obtain ⟨y37, hy38, hM⟩ := bind_some hM
      refine aw_two 9 11 (⟨_, rfl, rfl, st_callv (fun w hm => let ⟨S, hs⟩ := hm; ref1_letterEnd_spec _ w x32.Text y37 hy38 (lend_lt hs) ) ⟨fun w hm => hm.sub (by repeat (first | exact List.Sublist.refl _ | apply List.Sublist.cons_cons | apply List.Sublist.cons)), ?_⟩⟩) (⟨_, rfl, rfl, st_alloc rfl (k := fun b39 => ⟨fun w hm => hm.sub (by repeat (first | exact List.Sublist.refl _ | apply List.Sublist.cons_cons | apply List.Sublist.cons)), ?_⟩)⟩)
      ·
        refine aw_ev 10 rfl (ev_build [.int .i64 0, .int .i64 y34, .int .i64 0, .int .i64 y37, .int .i64 (-1), .int .i64 0]) ?_
        refine aw_one 11 rfl (st_alloc rfl (k := fun b40 => ⟨fun w hm => hm.sub (by repeat (first | exact List.Sublist.refl _ | apply List.Sublist.cons_cons | apply List.Sublist.cons)), ?_⟩))
        refine aw_one 12 rfl (st_store_all (b := b40) (vs := [.int .i64 0, .int .i64 y34, .int .i64 0, .int .i64 y37, .int .i64 (-1), .int .i64 0]) (k := ⟨fun w hm => hm.sub (by repeat (first | exact List.Sublist.refl _ | apply List.Sublist.cons_cons | apply List.Sublist.cons)), ?_⟩))
        refine aw_done (hJ1 ((y34, y37), b40) _ _ hM ⟨rfl, rfl, rfl, trivial⟩ (fun w hm => hm.reord))
      ·
        refine aw_one 9 rfl (st_callv (fun w hm => let ⟨S, hs⟩ := hm; ref1_letterEnd_spec _ w x32.Text y37 hy38 (lend_lt hs) ) ⟨fun w hm => hm.sub (by repeat (first | exact List.Sublist.refl _ | apply List.Sublist.cons_cons | apply List.Sublist.cons)), ?_⟩)
        refine aw_ev 10 rfl (ev_build [.int .i64 0, .int .i64 y34, .int .i64 0, .int .i64 y37, .int .i64 (-1), .int .i64 0]) ?_
        refine aw_one 12 rfl (st_store_all (b := b39) (vs := [.int .i64 0, .int .i64 y34, .int .i64 0, .int .i64 y37, .int .i64 (-1), .int .i64 0]) (k := ⟨fun w hm => hm.sub (by repeat (first | exact List.Sublist.refl _ | apply List.Sublist.cons_cons | apply List.Sublist.cons)), ?_⟩))
        refine aw_done (hJ1 ((y34, y37), b39) _ _ hM ⟨rfl, rfl, rfl, trivial⟩ (fun w hm => hm.reord))
    ·
      refine aw_one 4 rfl (st_callv (fun w hm => let ⟨S, hs⟩ := hm; ref1_letterEnd_spec _ w x30.Text y34 hy35 (lend_lt hs) ) ⟨fun w hm => hm.sub (by repeat (first | exact List.Sublist.refl _ | apply List.Sublist.cons_cons | apply List.Sublist.cons)), ?_⟩)
      obtain ⟨y41, hy42, hM⟩ := bind_some hM
      refine aw_one 9 rfl (st_callv (fun w hm => let ⟨S, hs⟩ := hm; ref1_letterEnd_spec _ w x32.Text y41 hy42 (lend_lt hs) ) ⟨fun w hm => hm.sub (by repeat (first | exact List.Sublist.refl _ | apply List.Sublist.cons_cons | apply List.Sublist.cons)), ?_⟩)
      refine aw_ev 10 rfl (ev_build [.int .i64 0, .int .i64 y34, .int .i64 0, .int .i64 y41, .int .i64 (-1), .int .i64 0]) ?_
      refine aw_one 12 rfl (st_store_all (b := b36) (vs := [.int .i64 0, .int .i64 y34, .int .i64 0, .int .i64 y41, .int .i64 (-1), .int .i64 0]) (k := ⟨fun w hm => hm.sub (by repeat (first | exact List.Sublist.refl _ | apply List.Sublist.cons_cons | apply List.Sublist.cons)), ?_⟩))
      refine aw_done (hJ1 ((y34, y41), b36) _ _ hM ⟨rfl, rfl, rfl, trivial⟩ (fun w hm => hm.reord))
  ·
    clear hM
    intro g hM
    obtain ⟨⟨k_j1_1, k_j1_3⟩, bk_j1⟩ := g
    dsimp only at hM ⊢
    dsimp only [ref1_declareLink_k1] at hM
    refine cw_seq fun K2 hK2 => ?_
    refine cw_seq fun K3 hK3 => ?_
    refine cw_region ?_
    refine ow_ev (ev_field_addr 1) ?_
    refine ow_ev (ev_load_own (b := bk_j1)) ?_
    refine ow_ev ev_lss ?_
    refine ow_ev ev_move ?_
    refine ow_evg rfl (ev_field_addr 3) ?_
    refine ow_evg rfl (ev_load_own (b := bk_j1)) ?_
    refine ow_evg rfl ev_lss ?_
    refine ow_ev ev_or ?_
    refine ow_ev ev_move ?_
    refine ow_evg rfl ev_move ?_
    refine ow_evg rfl ev_len ?_
    refine ow_evg rfl ev_eql ?_
    refine ow_evg rfl ev_move ?_
    refine ow_evg rfl ev_move ?_
    obtain ⟨x1, hx2, hM⟩ := bind_some hM
    refine ow_evg rfl (ev_idx (xs := p1) 3 (Kn.imm (α := List Word) (r := r_p1) (x := p1) (by repeat (first | exact Has.head | apply Has.tail))) (fun hg => let h := idx_some (whn_some hx2 hg); ⟨h.1, h.2.1⟩)) ?_
    refine ow_evg rfl (ev_field_addr 0) ?_
    refine ow_evg rfl (ev_ld (i := 6) (xs := p1) (y := x1) 0 (Kn.imm (α := List Word) (r := r_p1) (x := p1) (by repeat (first | exact Has.head | apply Has.tail))) (fun hg => whn_some hx2 hg)) ?_
    refine ow_evg rfl ev_str_neq ?_
    refine ow_evg rfl ev_and ?_
    refine ow_evg rfl ev_move ?_
    refine ow_evg rfl ev_move ?_
    obtain ⟨x3, hx4, hM⟩ := bind_some hM
    refine ow_evg rfl (ev_idx (xs := p1) 3 (Kn.imm (α := List Word) (r := r_p1) (x := p1) (by repeat (first | exact Has.head | apply Has.tail))) (fun hg => let h := idx_some (whn_some hx4 hg); ⟨h.1, h.2.1⟩)) ?_
    refine ow_evg rfl (ev_field_addr 0) ?_
    refine ow_evg rfl (ev_ld (i := 6) (xs := p1) (y := x3) 0 (Kn.imm (α := List Word) (r := r_p1) (x := p1) (by repeat (first | exact Has.head | apply Has.tail))) (fun hg => whn_some hx4 hg)) ?_
    refine ow_evg rfl ev_str_neq ?_
    refine ow_evg rfl ev_and ?_
    refine ow_ev ev_or ?_
    refine ow_nil (hK3 _ _ ?_); clear hK3
    refine cw_cond rfl (fun hc5 => ?_) (fun hc5 => ?_)
    ·
      replace hM := (ite_t hc5).symm.trans hM
      refine cw_seq fun K4 hK4 => ?_
      refine cw_region ?_
      refine ow_ev ev_assign ?_
      refine ow_nil (hK4 _ _ ?_); clear hK4
      obtain rfl := some_inj hM
      refine cw_ret (kw_retc1 (fun w hm => post_of r_l0.2.2.2 hm rfl))
    ·
      replace hM := (ite_f hc5).symm.trans hM
      refine cw_skip (hK2 _ _ ?_); clear hK2
      refine cw_seq fun K5 hK5 => ?_
      refine cw_region ?_
      refine ow_ev ev_move ?_
      refine ow_ev ev_nilcheck ?_
      refine ow_ev (ev_load_all (b := b_l0)) ?_
      obtain ⟨y6, hy7, hM⟩ := bind_some hM
      refine ow_cons (st_callF SelL.nil (fun S w hs hP => ref1_sectionNames_spec _ w l0 r_l0 y6 hy7 (lend_lt hs) ⟨(Kn.lend (Kn.trow (e := 9) (r := r_l0.1) (by repeat (first | exact Has.head | apply Has.tail))) hs), (Kn.lend (Kn.trow (e := 9) (r := r_l0.2.1) (by repeat (first | exact Has.head | apply Has.tail))) hs), (Kn.lend (Kn.trow (e := 81) (r := r_l0.2.2.1) (by repeat (first | exact Has.head | apply Has.tail))) hs), (Kn.lend (Kn.trow (e := 183) (r := r_l0.2.2.2) (by repeat (first | exact Has.head | apply Has.tail))) hs)⟩) (by intro r c hc; simp only [List.mem_cons, List.not_mem_nil, or_false] at hc; rcases hc with rfl <;> first | exact flatC_own | exact flatC_trow (fun _ _ _ _ => trivial)) (fun r8 => ?_))
      dsimp only [List.cons_append, List.nil_append]
      refine ow_ev ev_assign ?_
      refine ow_nil (hK5 _ _ ?_); clear hK5
      refine cw_seq fun K6 hK6 => ?_
      refine cw_region_any [trow 9 r8 y6, trow 9 r_l0.1 l0.Stations, trow 9 r_l0.2.1 l0.Points, trow 81 r_l0.2.2.1 l0.Sections, trow 183 r_l0.2.2.2 l0.Links, own b_l0 26 [.slice r_l0.1.a l0.Stations.length r_l0.1.cap, .slice r_l0.2.1.a l0.Points.length r_l0.2.1.cap, .slice r_l0.2.2.1.a l0.Sections.length r_l0.2.2.1.cap, .slice r_l0.2.2.2.a l0.Links.length r_l0.2.2.2.cap], imm (α := (List Word)) r_p1 p1] (by repeat (first | exact List.Sublist.refl _ | apply List.Sublist.cons_cons | apply List.Sublist.cons)) ?_
      refine aw_ev 0 rfl ev_move ?_
      refine aw_ev 1 rfl ev_move ?_
      obtain ⟨x9, hx10, hM⟩ := bind_some hM
      refine aw_ev 2 rfl (ev_idx (xs := p1) 3 (Kn.imm (α := List Word) (r := r_p1) (x := p1) (by repeat (first | exact Has.head | apply Has.tail))) (fun hg => let h := idx_some hx10; ⟨h.1, h.2.1⟩)) ?_
      refine aw_ev 3 rfl (ev_field_addr 0) ?_
      refine aw_ev 4 rfl (ev_ld (i := 1) (xs := p1) (y := x9) 0 (Kn.imm (α := List Word) (r := r_p1) (x := p1) (by repeat (first | exact Has.head | apply Has.tail))) (fun _ => hx10)) ?_
      refine aw_ev 6 rfl ev_move ?_
      refine aw_ev 7 rfl ev_move ?_
      obtain ⟨x11, hx12, hM⟩ := bind_some hM
      refine aw_ev 8 rfl (ev_idx (xs := p1) 3 (Kn.imm (α := List Word) (r := r_p1) (x := p1) (by repeat (first | exact Has.head | apply Has.tail))) (fun hg => let h := idx_some hx12; ⟨h.1, h.2.1⟩)) ?_
      refine aw_ev 9 rfl (ev_field_addr 0) ?_
      refine aw_ev 10 rfl (ev_ld (i := 3) (xs := p1) (y := x11) 0 (Kn.imm (α := List Word) (r := r_p1) (x := p1) (by repeat (first | exact Has.head | apply Has.tail))) (fun _ => hx12)) ?_
      obtain ⟨y13, hy14, hM⟩ := bind_some hM
      refine aw_one 5 rfl (st_callv (fun w hm => let ⟨S, hs⟩ := hm; ref1_Place_spec _ w y6 r8 x9.Text y13 hy14 (lend_lt hs) (Kn.lend (Kn.trow (e := 9) (r := r8) (by repeat (first | exact Has.head | apply Has.tail))) hs)) ⟨fun w hm => hm.sub (by repeat (first | exact List.Sublist.refl _ | apply List.Sublist.cons_cons | apply List.Sublist.cons)), ?_⟩)
      refine aw_ev 12 rfl (ev_field_addr 0) ?_
      obtain ⟨y15, hy16, hM⟩ := bind_some hM
      refine aw_one 11 rfl (st_callv (fun w hm => let ⟨S, hs⟩ := hm; ref1_Place_spec _ w y6 r8 x11.Text y15 hy16 (lend_lt hs) (Kn.lend (Kn.trow (e := 9) (r := r8) (by repeat (first | exact Has.head | apply Has.tail))) hs)) ⟨fun w hm => hm.sub (by repeat (first | exact List.Sublist.refl _ | apply List.Sublist.cons_cons | apply List.Sublist.cons)), ?_⟩)
      refine aw_one 13 rfl (st_store_own (b := bk_j1) (l' := [.int .i64 y13, .int .i64 k_j1_1, .int .i64 0, .int .i64 k_j1_3, .int .i64 (-1), .int .i64 0]) (k := ⟨fun w hm => hm.sub (by repeat (first | exact List.Sublist.refl _ | apply List.Sublist.cons_cons | apply List.Sublist.cons)), ?_⟩))
      refine aw_ev 14 rfl (ev_field_addr 2) ?_
      refine aw_one 15 rfl (st_store_own (b := bk_j1) (l' := [.int .i64 y13, .int .i64 k_j1_1, .int .i64 y15, .int .i64 k_j1_3, .int .i64 (-1), .int .i64 0]) (k := ⟨fun w hm => hm.sub (by repeat (first | exact List.Sublist.refl _ | apply List.Sublist.cons_cons | apply List.Sublist.cons)), ?_⟩))
      refine aw_done (hK6 _ _ ?_); clear hK6
      refine cw_seq fun K7 hK7 => ?_
      refine cw_seq fun K8 hK8 => ?_
      refine cw_region ?_
      refine ow_ev (ev_field_addr 0) ?_
      refine ow_ev (ev_load_own (b := bk_j1)) ?_
      refine ow_ev ev_lss ?_
      refine ow_ev ev_move ?_
      refine ow_evg rfl (ev_field_addr 2) ?_
      refine ow_evg rfl (ev_load_own (b := bk_j1)) ?_
      refine ow_evg rfl ev_lss ?_
      refine ow_ev ev_or ?_
      refine ow_nil (hK8 _ _ ?_); clear hK8
      refine cw_cond rfl (fun hc17 => ?_) (fun hc17 => ?_)
      ·
        replace hM := (ite_t hc17).symm.trans hM
        refine cw_seq fun K9 hK9 => ?_
        refine cw_region ?_
        refine ow_ev ev_assign ?_
        refine ow_nil (hK9 _ _ ?_); clear hK9
        obtain rfl := some_inj hM
        refine cw_ret (kw_retc1 (fun w hm => post_of r_l0.2.2.2 hm rfl))
      ·
        replace hM := (ite_f hc17).symm.trans hM
        refine cw_skip (hK7 _ _ ?_); clear hK7
        refine cw_cut (γ := (Int × Int) × Unit) (env := fun ((k_j2_4, k_j2_5), _) => [(0, .v (.pointer (some ⟨b_l0, 0, none⟩))), (5, .v (.pointer (some ⟨bk_j1, 0, none⟩)))]) (mem := fun ((k_j2_4, k_j2_5), _) => [trow 9 r_l0.1 l0.Stations, trow 9 r_l0.2.1 l0.Points, trow 81 r_l0.2.2.1 l0.Sections, trow 183 r_l0.2.2.2 l0.Links, own b_l0 26 [.slice r_l0.1.a l0.Stations.length r_l0.1.cap, .slice r_l0.2.1.a l0.Points.length r_l0.2.1.cap, .slice r_l0.2.2.1.a l0.Sections.length r_l0.2.2.1.cap, .slice r_l0.2.2.2.a l0.Links.length r_l0.2.2.2.cap], own bk_j1 183 [.int .i64 y13, .int .i64 k_j1_1, .int .i64 y15, .int .i64 k_j1_3, .int .i64 k_j2_4, .int .i64 k_j2_5]]) (R := fun g => ref1_declareLink_k2 l0 y13 k_j1_1 y15 k_j1_3 g.1 = some y) ?_ ?_
        · intro KJ2 hJ2
          refine cw_seq fun K12 hK12 => ?_
          refine cw_region ?_
          refine ow_ev ev_move ?_
          refine ow_ev ev_len ?_
          refine ow_ev ev_eql ?_
          refine ow_nil (hK12 _ _ ?_); clear hK12
          refine cw_cond rfl (fun hc21 => ?_) (fun hc21 => ?_)
          ·
            replace hM := (ite_t hc21).symm.trans hM
            refine cw_seq fun K13 hK13 => ?_
            refine cw_region_z [trow 9 r8 y6, trow 9 r_l0.1 l0.Stations, trow 9 r_l0.2.1 l0.Points, trow 81 r_l0.2.2.1 l0.Sections, trow 183 r_l0.2.2.2 l0.Links, own b_l0 26 [.slice r_l0.1.a l0.Stations.length r_l0.1.cap, .slice r_l0.2.1.a l0.Points.length r_l0.2.1.cap, .slice r_l0.2.2.1.a l0.Sections.length r_l0.2.2.1.cap, .slice r_l0.2.2.2.a l0.Links.length r_l0.2.2.2.cap], imm (α := (List Word)) r_p1 p1, own bk_j1 183 [.int .i64 y13, .int .i64 k_j1_1, .int .i64 y15, .int .i64 k_j1_3, .int .i64 (-1), .int .i64 0]] 10 ?_
            refine az_ev 0 rfl ev_move ?_
            refine az_ev 1 rfl ev_nilcheck ?_
            refine az_ev 2 rfl (ev_field_addr 1) ?_
            refine az_ev 3 rfl (ev_load_own (b := b_l0)) ?_
            refine az_ev 4 rfl ev_move ?_
            obtain ⟨x22, hx23, hM⟩ := bind_some hM
            refine az_ev 5 rfl (ev_idx (xs := p1) 3 (Kn.imm (α := List Word) (r := r_p1) (x := p1) (by repeat (first | exact Has.head | apply Has.tail))) (fun hg => let h := idx_some hx23; ⟨h.1, h.2.1⟩)) ?_
            refine az_ev 6 rfl (ev_field_addr 0) ?_
            refine az_ev 7 rfl (ev_ld (i := 5) (xs := p1) (y := x22) 0 (Kn.imm (α := List Word) (r := r_p1) (x := p1) (by repeat (first | exact Has.head | apply Has.tail))) (fun _ => hx23)) ?_
            obtain ⟨y24, hy25, hM⟩ := bind_some hM
            refine az_one 8 rfl (st_callv (fun w hm => let ⟨S, hs⟩ := hm; ref1_Place_spec _ w l0.Points r_l0.2.1 x22.Text y24 hy25 (lend_lt hs) (Kn.lend (Kn.trow (e := 9) (r := r_l0.2.1) (by repeat (first | exact Has.head | apply Has.tail))) hs)) ⟨fun w hm => hm.sub (by repeat (first | exact List.Sublist.refl _ | apply List.Sublist.cons_cons | apply List.Sublist.cons)), ?_⟩)
            refine az_ev 9 rfl (ev_field_addr 4) ?_
            refine az_last rfl (st_store_own (b := bk_j1) (l' := [.int .i64 y13, .int .i64 k_j1_1, .int .i64 y15, .int .i64 k_j1_3, .int .i64 y24, .int .i64 0]) (k := ?_))
            refine az_done (hK13 _ _ ?_); clear hK13
            refine cw_seq fun K14 hK14 => ?_
            refine cw_seq fun K15 hK15 => ?_
            refine cw_region ?_
            refine ow_ev (ev_field_addr 4) ?_
            refine ow_ev (ev_load_own (b := bk_j1)) ?_
            refine ow_ev ev_lss ?_
            refine ow_nil (hK15 _ _ ?_); clear hK15
            refine cw_cond rfl (fun hc26 => ?_) (fun hc26 => ?_)
            ·
              replace hM := (ite_t hc26).symm.trans hM
              refine cw_seq fun K16 hK16 => ?_
              refine cw_region ?_
              refine ow_ev ev_assign ?_
              refine ow_nil (hK16 _ _ ?_); clear hK16
              obtain rfl := some_inj hM
              refine cw_ret (kw_retc1 (fun w hm => post_of r_l0.2.2.2 hm rfl))
            ·
              replace hM := (ite_f hc26).symm.trans hM
              refine cw_skip (hK14 _ _ ?_); clear hK14
              refine cw_seq fun K17 hK17 => ?_
              refine cw_region ?_
              refine ow_ev ev_move ?_
              obtain ⟨x27, hx28, hM⟩ := bind_some hM
              refine ow_ev (ev_idx (xs := p1) 3 (Kn.imm (α := List Word) (r := r_p1) (x := p1) (by repeat (first | exact Has.head | apply Has.tail))) (fun hg => let h := idx_some hx28; ⟨h.1, h.2.1⟩)) ?_
              refine ow_ev (ev_field_addr 0) ?_
              refine ow_ev (ev_ld (i := 6) (xs := p1) (y := x27) 0 (Kn.imm (α := List Word) (r := r_p1) (x := p1) (by repeat (first | exact Has.head | apply Has.tail))) (fun _ => hx28)) ?_
              refine ow_ev ev_str_eql ?_
              refine ow_nil (hK17 _ _ ?_); clear hK17
              refine cw_cond rfl (fun hc29 => ?_) (fun hc29 => ?_)
              ·
                replace hM := (ite_t hc29).symm.trans hM
                refine cw_region ?_
                refine ow_ev (ev_field_addr 5) ?_
                refine ow_cons (st_store_own (b := bk_j1) (l' := [.int .i64 y13, .int .i64 k_j1_1, .int .i64 y15, .int .i64 k_j1_3, .int .i64 y24, .int .i64 1]) (k := ?_))
                refine ow_nil (hJ2 ((y24, 1), ()) _ _ hM ⟨rfl, rfl, trivial⟩ (fun w hm => hm.reord))
              ·
                replace hM := (ite_f hc29).symm.trans hM
                refine cw_skip (hJ2 ((y24, 0), ()) _ _ hM ⟨rfl, rfl, trivial⟩ (fun w hm => hm.reord))
          ·
            replace hM := (ite_f hc21).symm.trans hM
            refine cw_skip (hJ2 (((-1), 0), ()) _ _ hM ⟨rfl, rfl, trivial⟩ (fun w hm => hm.reord))
        ·
          clear hM
          intro g hM
          obtain ⟨⟨k_j2_4, k_j2_5⟩, ⟨⟩⟩ := g
          dsimp only at hM ⊢
          dsimp only [ref1_declareLink_k2] at hM
          refine cw_seq fun K10 hK10 => ?_
          refine cw_region_z [trow 9 r_l0.1 l0.Stations, trow 9 r_l0.2.1 l0.Points, trow 81 r_l0.2.2.1 l0.Sections, own b_l0 26 [.slice r_l0.1.a l0.Stations.length r_l0.1.cap, .slice r_l0.2.1.a l0.Points.length r_l0.2.1.cap, .slice r_l0.2.2.1.a l0.Sections.length r_l0.2.2.1.cap, .slice r_l0.2.2.2.a l0.Links.length r_l0.2.2.2.cap], own bk_j1 183 [.int .i64 y13, .int .i64 k_j1_1, .int .i64 y15, .int .i64 k_j1_3, .int .i64 k_j2_4, .int .i64 k_j2_5]] 10 ?_
          refine az_ev 0 rfl ev_move ?_
          refine az_ev 1 rfl ev_move ?_
          refine az_ev 2 rfl ev_nilcheck ?_
          refine az_ev 3 rfl (ev_field_addr 3) ?_
          refine az_ev 4 rfl (ev_load_own (b := b_l0)) ?_
          refine az_ev 5 rfl (ev_load_all (b := bk_j1)) ?_
          refine az_one 6 rfl (st_bslice (α := Link) 183 (fun _ => ()) ([(Link.mk y13 k_j1_1 y15 k_j1_3 k_j2_4 k_j2_5)] : List Link) (OkL.flat (fun _ _ _ _ => trivial)) (fun r18 => ⟨fun w hm => hm.sub (by repeat (first | exact List.Sublist.refl _ | apply List.Sublist.cons_cons | apply List.Sublist.cons)), ?_⟩))
          obtain ⟨hb20, hM⟩ := chk_some hM
          refine az_one 7 rfl (st_append (r := r_l0.2.2.2) (r2 := r18) (by intro r'; repeat (first | exact Upd.head | apply Upd.tail)) (Kn.trow (e := 183) (r := r18) (by repeat (first | exact Has.head | apply Has.tail))) (OkL.flat (fun _ _ _ _ => trivial)) (of_decide_eq_true hb20) (fun r19 => ⟨fun w hm => hm.sub (by repeat (first | exact List.Sublist.refl _ | apply List.Sublist.cons_cons | apply List.Sublist.cons)), ?_⟩))
          refine az_ev 8 rfl ev_nilcheck ?_
          refine az_ev 9 rfl (ev_field_addr 3) ?_
          refine az_last rfl (st_store_own (b := b_l0) (l' := [.slice r_l0.1.a l0.Stations.length r_l0.1.cap, .slice r_l0.2.1.a l0.Points.length r_l0.2.1.cap, .slice r_l0.2.2.1.a l0.Sections.length r_l0.2.2.1.cap, .slice r19.a ((l0.Links ++ ([(Link.mk y13 k_j1_1 y15 k_j1_3 k_j2_4 k_j2_5)] : List Link)).length) r19.cap]) (k := ?_))
          refine az_done (hK10 _ _ ?_); clear hK10
          refine cw_seq fun K11 hK11 => ?_
          refine cw_region ?_
          refine ow_ev ev_assign ?_
          refine ow_nil (hK11 _ _ ?_); clear hK11
          obtain rfl := some_inj hM
          refine cw_ret (kw_retc1 (fun w hm => post_of r19 hm rfl))

def ref1_declare_m (l0 : Layout) (p1 : List Word) : Option (Int × (List Str) × (List Str) × (List Section) × (List Link)) :=
  (whn (decide ((p1.length : Int) = 2)) default (idx p1 0)).bind fun x1 =>
  if (decide ((p1.length : Int) = 2) && decide (x1.Text = (⟨[115, 116, 97, 116, 105, 111, 110]⟩ : Str))) then
    ((idx p1 1).bind fun x4 =>
    chk (decide ((l0.Stations.length + ([x4.Text] : List Str).length) * 16 ≤ 140737488355328)) <|
    some (0, (l0.Stations ++ ([x4.Text] : List Str)), l0.Points, l0.Sections, l0.Links))
  else
    ((whn (decide ((p1.length : Int) = 2)) default (idx p1 0)).bind fun x9 =>
    if (decide ((p1.length : Int) = 2) && decide (x9.Text = (⟨[112, 111, 105, 110, 116]⟩ : Str))) then
      ((idx p1 1).bind fun x12 =>
      chk (decide ((l0.Points.length + ([x12.Text] : List Str).length) * 16 ≤ 140737488355328)) <|
      some (0, l0.Stations, (l0.Points ++ ([x12.Text] : List Str)), l0.Sections, l0.Links))
    else
      ((whn (decide ((p1.length : Int) = 5) || decide ((p1.length : Int) = 7)) default (idx p1 0)).bind fun x17 =>
      if ((decide ((p1.length : Int) = 5) || decide ((p1.length : Int) = 7)) && decide (x17.Text = (⟨[115, 101, 99, 116, 105, 111, 110]⟩ : Str))) then
        ((ref1_declareSection_m l0 p1).bind fun y20 =>
        some (y20.1, l0.Stations, l0.Points, y20.2, l0.Links))
      else
        ((whn (decide ((p1.length : Int) = 5) || decide ((p1.length : Int) = 7)) default (idx p1 0)).bind fun x23 =>
        if ((decide ((p1.length : Int) = 5) || decide ((p1.length : Int) = 7)) && decide (x23.Text = (⟨[108, 105, 110, 107]⟩ : Str))) then
          ((ref1_declareLink_m l0 p1).bind fun y26 =>
          some (y26.1, l0.Stations, l0.Points, l0.Sections, y26.2))
        else
          (some (2, l0.Stations, l0.Points, l0.Sections, l0.Links)))))
theorem ref1_declare_spec (S : Soup) (w : World) (b_l0 : Nat) (l0 : Layout) (r_l0 : GoRep.R Layout) (p1 : List Word) (r_p1 : GoRep.R (List Word)) (y : Int × (List Str) × (List Str) × (List Section) × (List Link)) (hM : ref1_declare_m l0 p1 = some y) (hP : Pre S [own b_l0 26 [.slice r_l0.1.a l0.Stations.length r_l0.1.cap, .slice r_l0.2.1.a l0.Points.length r_l0.2.1.cap, .slice r_l0.2.2.1.a l0.Sections.length r_l0.2.2.1.cap, .slice r_l0.2.2.2.a l0.Links.length r_l0.2.2.2.cap], trow 9 r_l0.1 l0.Stations, trow 9 r_l0.2.1 l0.Points, trow 81 r_l0.2.2.1 l0.Sections, trow 183 r_l0.2.2.2 l0.Links] w) (h_p1 : GoRep.ok S w r_p1 p1) :
    Calls Tryz.prog 71 #[.pointer (some ⟨b_l0, 0, none⟩), .slice r_p1.a p1.length r_p1.cap] w (Post (β := (SR (GoRep.R Str)) × (SR (GoRep.R Str)) × (SR (GoRep.R Section)) × (SR (GoRep.R Link))) S [own b_l0 26 [.slice r_l0.1.a l0.Stations.length r_l0.1.cap, .slice r_l0.2.1.a l0.Points.length r_l0.2.1.cap, .slice r_l0.2.2.1.a l0.Sections.length r_l0.2.2.1.cap, .slice r_l0.2.2.2.a l0.Links.length r_l0.2.2.2.cap], trow 9 r_l0.1 l0.Stations, trow 9 r_l0.2.1 l0.Points, trow 81 r_l0.2.2.1 l0.Sections, trow 183 r_l0.2.2.2 l0.Links] (fun g => .int .i64 y.1) (fun g => [own b_l0 26 [.slice g.1.a y.2.1.length g.1.cap, .slice g.2.1.a y.2.2.1.length g.2.1.cap, .slice g.2.2.1.a y.2.2.2.1.length g.2.2.1.cap, .slice g.2.2.2.a y.2.2.2.2.length g.2.2.2.cap], trow 9 g.1 y.2.1, trow 9 g.2.1 y.2.2.1, trow 81 g.2.2.1 y.2.2.2.1, trow 183 g.2.2.2 y.2.2.2.2]) w) := by
  refine calls_cw (args := [_, _]) Tryz.func71 rfl (hP.start |>.immP (α := List Word) (r := r_p1) (x := p1) h_p1) rfl ?_
  unfold ref1_declare_m at hM
  refine cw_seq fun K1 hK1 => ?_
  refine cw_region ?_
  refine ow_ev ev_assign ?_
  refine ow_nil (hK1 _ _ ?_); clear hK1
  refine cw_seq fun K2 hK2 => ?_
  refine cw_block ?_
  refine cw_seq fun K3 hK3 => ?_
  refine cw_region ?_
  refine ow_ev ev_move ?_
  refine ow_ev ev_len ?_
  refine ow_ev ev_eql ?_
  refine ow_ev ev_move ?_
  refine ow_evg rfl ev_move ?_
  obtain ⟨x1, hx2, hM⟩ := bind_some hM
  refine ow_evg rfl (ev_idx (xs := p1) 3 (Kn.imm (α := List Word) (r := r_p1) (x := p1) (by repeat (first | exact Has.head | apply Has.tail))) (fun hg => let h := idx_some (whn_some hx2 hg); ⟨h.1, h.2.1⟩)) ?_
  refine ow_evg rfl (ev_field_addr 0) ?_
  refine ow_evg rfl (ev_ld (i := 0) (xs := p1) (y := x1) 0 (Kn.imm (α := List Word) (r := r_p1) (x := p1) (by repeat (first | exact Has.head | apply Has.tail))) (fun hg => whn_some hx2 hg)) ?_
  refine ow_evg rfl ev_str_eql ?_
  refine ow_ev ev_and ?_
  refine ow_ev ev_assign ?_
  refine ow_nil (hK3 _ _ ?_); clear hK3
  refine cw_cond rfl (fun hc3 => ?_) (fun hc3 => ?_)
  ·
    replace hM := (ite_t hc3).symm.trans hM
    refine cw_seq fun K4 hK4 => ?_
    refine cw_region_z [imm (α := (List Word)) r_p1 p1, own b_l0 26 [.slice r_l0.1.a l0.Stations.length r_l0.1.cap, .slice r_l0.2.1.a l0.Points.length r_l0.2.1.cap, .slice r_l0.2.2.1.a l0.Sections.length r_l0.2.2.1.cap, .slice r_l0.2.2.2.a l0.Links.length r_l0.2.2.2.cap], trow 9 r_l0.2.1 l0.Points, trow 81 r_l0.2.2.1 l0.Sections, trow 183 r_l0.2.2.2 l0.Links] 13 ?_
    refine az_ev 0 rfl ev_move ?_
    refine az_ev 1 rfl ev_move ?_
    refine az_ev 2 rfl ev_nilcheck ?_
    refine az_ev 3 rfl (ev_field_addr 0) ?_
    refine az_ev 4 rfl (ev_load_own (b := b_l0)) ?_
    refine az_ev 5 rfl ev_move ?_
    obtain ⟨x4, hx5, hM⟩ := bind_some hM
    refine az_ev 6 rfl (ev_idx (xs := p1) 3 (Kn.imm (α := List Word) (r := r_p1) (x := p1) (by repeat (first | exact Has.head | apply Has.tail))) (fun hg => let h := idx_some hx5; ⟨h.1, h.2.1⟩)) ?_
    refine az_ev 7 rfl (ev_field_addr 0) ?_
    refine az_ev 8 rfl (ev_ld (i := 1) (xs := p1) (y := x4) 0 (Kn.imm (α := List Word) (r := r_p1) (x := p1) (by repeat (first | exact Has.head | apply Has.tail))) (fun _ => hx5)) ?_
    refine az_one 9 rfl (st_bslice (α := Str) 9 (fun _ => ()) ([x4.Text] : List Str) (OkL.flat (fun _ _ _ _ => trivial)) (fun r6 => ⟨fun w hm => hm.sub (by repeat (first | exact List.Sublist.refl _ | apply List.Sublist.cons_cons | apply List.Sublist.cons)), ?_⟩))
    obtain ⟨hb8, hM⟩ := chk_some hM
    refine az_one 10 rfl (st_append (r := r_l0.1) (r2 := r6) (by intro r'; repeat (first | exact Upd.head | apply Upd.tail)) (Kn.trow (e := 9) (r := r6) (by repeat (first | exact Has.head | apply Has.tail))) (OkL.flat (fun _ _ _ _ => trivial)) (of_decide_eq_true hb8) (fun r7 => ⟨fun w hm => hm.sub (by repeat (first | exact List.Sublist.refl _ | apply List.Sublist.cons_cons | apply List.Sublist.cons)), ?_⟩))
    refine az_ev 11 rfl ev_nilcheck ?_
    refine az_ev 12 rfl (ev_field_addr 0) ?_
    refine az_last rfl (st_store_own (b := b_l0) (l' := [.slice r7.a ((l0.Stations ++ ([x4.Text] : List Str)).length) r7.cap, .slice r_l0.2.1.a l0.Points.length r_l0.2.1.cap, .slice r_l0.2.2.1.a l0.Sections.length r_l0.2.2.1.cap, .slice r_l0.2.2.2.a l0.Links.length r_l0.2.2.2.cap]) (k := ?_))
    refine az_done (hK4 _ _ ?_); clear hK4
    refine cw_seq fun K5 hK5 => ?_
    refine cw_region ?_
    refine ow_ev ev_assign ?_
    refine ow_nil (hK5 _ _ ?_); clear hK5
    obtain rfl := some_inj hM
    refine cw_ret (kw_retc1 (fun w hm => post_of (r7, r_l0.2.1, r_l0.2.2.1, r_l0.2.2.2) hm rfl))
  ·
    replace hM := (ite_f hc3).symm.trans hM
    refine cw_seq fun K6 hK6 => ?_
    refine cw_region ?_
    refine ow_ev ev_move ?_
    refine ow_ev ev_len ?_
    refine ow_ev ev_eql ?_
    refine ow_ev ev_move ?_
    refine ow_evg rfl ev_move ?_
    obtain ⟨x9, hx10, hM⟩ := bind_some hM
    refine ow_evg rfl (ev_idx (xs := p1) 3 (Kn.imm (α := List Word) (r := r_p1) (x := p1) (by repeat (first | exact Has.head | apply Has.tail))) (fun hg => let h := idx_some (whn_some hx10 hg); ⟨h.1, h.2.1⟩)) ?_
    refine ow_evg rfl (ev_field_addr 0) ?_
    refine ow_evg rfl (ev_ld (i := 0) (xs := p1) (y := x9) 0 (Kn.imm (α := List Word) (r := r_p1) (x := p1) (by repeat (first | exact Has.head | apply Has.tail))) (fun hg => whn_some hx10 hg)) ?_
    refine ow_evg rfl ev_str_eql ?_
    refine ow_ev ev_and ?_
    refine ow_ev ev_assign ?_
    refine ow_nil (hK6 _ _ ?_); clear hK6
    refine cw_cond rfl (fun hc11 => ?_) (fun hc11 => ?_)
    ·
      replace hM := (ite_t hc11).symm.trans hM
      refine cw_seq fun K7 hK7 => ?_
      refine cw_region_z [imm (α := (List Word)) r_p1 p1, own b_l0 26 [.slice r_l0.1.a l0.Stations.length r_l0.1.cap, .slice r_l0.2.1.a l0.Points.length r_l0.2.1.cap, .slice r_l0.2.2.1.a l0.Sections.length r_l0.2.2.1.cap, .slice r_l0.2.2.2.a l0.Links.length r_l0.2.2.2.cap], trow 9 r_l0.1 l0.Stations, trow 81 r_l0.2.2.1 l0.Sections, trow 183 r_l0.2.2.2 l0.Links] 13 ?_
      refine az_ev 0 rfl ev_move ?_
      refine az_ev 1 rfl ev_move ?_
      refine az_ev 2 rfl ev_nilcheck ?_
      refine az_ev 3 rfl (ev_field_addr 1) ?_
      refine az_ev 4 rfl (ev_load_own (b := b_l0)) ?_
      refine az_ev 5 rfl ev_move ?_
      obtain ⟨x12, hx13, hM⟩ := bind_some hM
      refine az_ev 6 rfl (ev_idx (xs := p1) 3 (Kn.imm (α := List Word) (r := r_p1) (x := p1) (by repeat (first | exact Has.head | apply Has.tail))) (fun hg => let h := idx_some hx13; ⟨h.1, h.2.1⟩)) ?_
      refine az_ev 7 rfl (ev_field_addr 0) ?_
      refine az_ev 8 rfl (ev_ld (i := 1) (xs := p1) (y := x12) 0 (Kn.imm (α := List Word) (r := r_p1) (x := p1) (by repeat (first | exact Has.head | apply Has.tail))) (fun _ => hx13)) ?_
      refine az_one 9 rfl (st_bslice (α := Str) 9 (fun _ => ()) ([x12.Text] : List Str) (OkL.flat (fun _ _ _ _ => trivial)) (fun r14 => ⟨fun w hm => hm.sub (by repeat (first | exact List.Sublist.refl _ | apply List.Sublist.cons_cons | apply List.Sublist.cons)), ?_⟩))
      obtain ⟨hb16, hM⟩ := chk_some hM
      refine az_one 10 rfl (st_append (r := r_l0.2.1) (r2 := r14) (by intro r'; repeat (first | exact Upd.head | apply Upd.tail)) (Kn.trow (e := 9) (r := r14) (by repeat (first | exact Has.head | apply Has.tail))) (OkL.flat (fun _ _ _ _ => trivial)) (of_decide_eq_true hb16) (fun r15 => ⟨fun w hm => hm.sub (by repeat (first | exact List.Sublist.refl _ | apply List.Sublist.cons_cons | apply List.Sublist.cons)), ?_⟩))
      refine az_ev 11 rfl ev_nilcheck ?_
      refine az_ev 12 rfl (ev_field_addr 1) ?_
      refine az_last rfl (st_store_own (b := b_l0) (l' := [.slice r_l0.1.a l0.Stations.length r_l0.1.cap, .slice r15.a ((l0.Points ++ ([x12.Text] : List Str)).length) r15.cap, .slice r_l0.2.2.1.a l0.Sections.length r_l0.2.2.1.cap, .slice r_l0.2.2.2.a l0.Links.length r_l0.2.2.2.cap]) (k := ?_))
      refine az_done (hK7 _ _ ?_); clear hK7
      refine cw_seq fun K8 hK8 => ?_
      refine cw_region ?_
      refine ow_ev ev_assign ?_
      refine ow_nil (hK8 _ _ ?_); clear hK8
      obtain rfl := some_inj hM
      refine cw_ret (kw_retc1 (fun w hm => post_of (r_l0.1, r15, r_l0.2.2.1, r_l0.2.2.2) hm rfl))
    ·
      replace hM := (ite_f hc11).symm.trans hM
      refine cw_seq fun K9 hK9 => ?_
      refine cw_region ?_
      refine ow_ev ev_move ?_
      refine ow_ev ev_len ?_
      refine ow_ev ev_eql ?_
      refine ow_ev ev_move ?_
      refine ow_evg rfl ev_move ?_
      refine ow_evg rfl ev_len ?_
      refine ow_evg rfl ev_eql ?_
      refine ow_ev ev_or ?_
      refine ow_ev ev_move ?_
      refine ow_evg rfl ev_move ?_
      obtain ⟨x17, hx18, hM⟩ := bind_some hM
      refine ow_evg rfl (ev_idx (xs := p1) 3 (Kn.imm (α := List Word) (r := r_p1) (x := p1) (by repeat (first | exact Has.head | apply Has.tail))) (fun hg => let h := idx_some (whn_some hx18 hg); ⟨h.1, h.2.1⟩)) ?_
      refine ow_evg rfl (ev_field_addr 0) ?_
      refine ow_evg rfl (ev_ld (i := 0) (xs := p1) (y := x17) 0 (Kn.imm (α := List Word) (r := r_p1) (x := p1) (by repeat (first | exact Has.head | apply Has.tail))) (fun hg => whn_some hx18 hg)) ?_
      refine ow_evg rfl ev_str_eql ?_
      refine ow_ev ev_and ?_
      refine ow_ev ev_assign ?_
      refine ow_nil (hK9 _ _ ?_); clear hK9
      refine cw_cond rfl (fun hc19 => ?_) (fun hc19 => ?_)
      ·
        replace hM := (ite_t hc19).symm.trans hM
        refine cw_seq fun K10 hK10 => ?_
        refine cw_region ?_
        refine ow_ev ev_move ?_
        refine ow_ev ev_move ?_
        obtain ⟨y20, hy21, hM⟩ := bind_some hM
        refine ow_cons (st_callF (by repeat (first | exact SelL.nil | (apply SelL.cons; · (repeat (first | exact Sel.head | apply Sel.tail))))) (fun S w hs hP => ref1_declareSection_spec _ w b_l0 l0 r_l0 p1 r_p1 y20 hy21 hP (Kn.lend (Kn.imm (α := List Word) (r := r_p1) (x := p1) (by repeat (first | exact Has.head | apply Has.tail))) hs)) (by intro r c hc; simp only [List.mem_cons, List.not_mem_nil, or_false] at hc; rcases hc with rfl | rfl | rfl | rfl | rfl <;> first | exact flatC_own | exact flatC_trow (fun _ _ _ _ => trivial)) (fun r22 => ?_))
        dsimp only [List.cons_append, List.nil_append]
        refine ow_ev ev_assign ?_
        refine ow_nil (hK10 _ _ ?_); clear hK10
        obtain rfl := some_inj hM
        refine cw_ret (kw_retc1 (fun w hm => post_of (r_l0.1, r_l0.2.1, r22, r_l0.2.2.2) hm rfl))
      ·
        replace hM := (ite_f hc19).symm.trans hM
        refine cw_seq fun K11 hK11 => ?_
        refine cw_region ?_
        refine ow_ev ev_move ?_
        refine ow_ev ev_len ?_
        refine ow_ev ev_eql ?_
        refine ow_ev ev_move ?_
        refine ow_evg rfl ev_move ?_
        refine ow_evg rfl ev_len ?_
        refine ow_evg rfl ev_eql ?_
        refine ow_ev ev_or ?_
        refine ow_ev ev_move ?_
        refine ow_evg rfl ev_move ?_
        obtain ⟨x23, hx24, hM⟩ := bind_some hM
        refine ow_evg rfl (ev_idx (xs := p1) 3 (Kn.imm (α := List Word) (r := r_p1) (x := p1) (by repeat (first | exact Has.head | apply Has.tail))) (fun hg => let h := idx_some (whn_some hx24 hg); ⟨h.1, h.2.1⟩)) ?_
        refine ow_evg rfl (ev_field_addr 0) ?_
        refine ow_evg rfl (ev_ld (i := 0) (xs := p1) (y := x23) 0 (Kn.imm (α := List Word) (r := r_p1) (x := p1) (by repeat (first | exact Has.head | apply Has.tail))) (fun hg => whn_some hx24 hg)) ?_
        refine ow_evg rfl ev_str_eql ?_
        refine ow_ev ev_and ?_
        refine ow_ev ev_assign ?_
        refine ow_nil (hK11 _ _ ?_); clear hK11
        refine cw_cond rfl (fun hc25 => ?_) (fun hc25 => ?_)
        ·
          replace hM := (ite_t hc25).symm.trans hM
          refine cw_seq fun K12 hK12 => ?_
          refine cw_region ?_
          refine ow_ev ev_move ?_
          refine ow_ev ev_move ?_
          obtain ⟨y26, hy27, hM⟩ := bind_some hM
          refine ow_cons (st_callF (by repeat (first | exact SelL.nil | (apply SelL.cons; · (repeat (first | exact Sel.head | apply Sel.tail))))) (fun S w hs hP => ref1_declareLink_spec _ w b_l0 l0 r_l0 p1 r_p1 y26 hy27 hP (Kn.lend (Kn.imm (α := List Word) (r := r_p1) (x := p1) (by repeat (first | exact Has.head | apply Has.tail))) hs)) (by intro r c hc; simp only [List.mem_cons, List.not_mem_nil, or_false] at hc; rcases hc with rfl | rfl | rfl | rfl | rfl <;> first | exact flatC_own | exact flatC_trow (fun _ _ _ _ => trivial)) (fun r28 => ?_))
          dsimp only [List.cons_append, List.nil_append]
          refine ow_ev ev_assign ?_
          refine ow_nil (hK12 _ _ ?_); clear hK12
          obtain rfl := some_inj hM
          refine cw_ret (kw_retc1 (fun w hm => post_of (r_l0.1, r_l0.2.1, r_l0.2.2.1, r28) hm rfl))
        ·
          replace hM := (ite_f hc25).symm.trans hM
          refine cw_skip (hK2 _ _ ?_); clear hK2
          refine cw_seq fun K13 hK13 => ?_
          refine cw_region ?_
          refine ow_ev ev_assign ?_
          refine ow_nil (hK13 _ _ ?_); clear hK13
          obtain rfl := some_inj hM
          refine cw_ret (kw_retc1 (fun w hm => post_of (r_l0.1, r_l0.2.1, r_l0.2.2.1, r_l0.2.2.2) hm rfl))

end Go.Proofs.YtcalibhfgdncaaaGreatDoor
