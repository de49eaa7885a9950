/- Models of functions, and that the code computes them. -/
import Derived.Test.YtfbpbmnlbcnanaaDoorWe
set_option linter.all false
namespace Go.Proofs.YtfbpbmnlbcnanaaDoor
open Go.Dc Go.RowKit
set_option maxRecDepth 10000
def ref1_Join_k4 (k_2 : Nat) (cont2 : (Str × Nat) → Option Str) (q36 : Str) : Unit → Option Str := fun _ =>
  chk (i64b ((k_2 : Int) + 1)) <|
  cont2 (q36, k_2 + 1)
def ref1_Join_k6 (l0 : List (List Str)) (i_1 : Nat) (k_2 : Nat) (cont2 : (Str × Nat) → Option Str) : Str → Option Str := fun s_j6 =>
  (idx l0 (i_1 : Int)).bind fun x32 =>
  (idx x32 (k_2 : Int)).bind fun x34 =>
  (strCat s_j6 x34).bind fun q36 =>
  ref1_Join_k4 k_2 cont2 q36 ()
def ref1_Join_k5 (k_2 : Nat) (s_2 : Str) (l0 : List (List Str)) (i_1 : Nat) (cont2 : (Str × Nat) → Option Str) : Unit → Option Str := fun _ =>
  if decide (0 < (k_2 : Int)) then
    ((strCat s_2 (⟨[32]⟩ : Str)).bind fun q40 =>
    ref1_Join_k6 l0 i_1 k_2 cont2 q40)
  else
    (ref1_Join_k6 l0 i_1 k_2 cont2 s_2)
def ref1_Join_b3 (l0 : List (List Str)) (i_1 : Nat) (k_2 : Nat) (s_2 : Str) (cont2 : (Str × Nat) → Option Str) (cont3 : Nat → Option Str) : Nat → Option Str := fun x_3 =>
  (idx l0 (i_1 : Int)).bind fun x17 =>
  (idx x17 (k_2 : Int)).bind fun x19 =>
  if decide ((x_3 : Int) < (x19.l.length : Int)) then
    ((idx l0 (i_1 : Int)).bind fun x22 =>
    (idx x22 (k_2 : Int)).bind fun x24 =>
    (byteAt x24 (x_3 : Int)).bind fun c26 =>
    (ref1_plain_m c26).bind fun y28 =>
    if (!y28) then
      (some (⟨[]⟩ : Str))
    else
      (chk (i64b ((x_3 : Int) + 1)) <|
      cont3 (x_3 + 1)))
  else
    (ref1_Join_k5 k_2 s_2 l0 i_1 cont2 ())
def ref1_Join_k2 (i_1 : Nat) (cont1 : (Str × Nat) → Option Str) (q42 : Str) : Unit → Option Str := fun _ =>
  chk (i64b ((i_1 : Int) + 1)) <|
  cont1 (q42, i_1 + 1)
def ref1_Join_k3 (s_2 : Str) (i_1 : Nat) (cont1 : (Str × Nat) → Option Str) : Unit → Option Str := fun _ =>
  (strCat s_2 (⟨[10]⟩ : Str)).bind fun q42 =>
  ref1_Join_k2 i_1 cont1 q42 ()
def ref1_Join_b2 (l0 : List (List Str)) (i_1 : Nat) (cont1 : (Str × Nat) → Option Str) (cont2 : (Str × Nat) → Option Str) : (Str × Nat) → Option Str := fun (s_2, k_2) =>
  (idx l0 (i_1 : Int)).bind fun x9 =>
  if decide ((k_2 : Int) < (x9.length : Int)) then
    ((idx l0 (i_1 : Int)).bind fun x12 =>
    (idx x12 (k_2 : Int)).bind fun x14 =>
    if decide ((x14.l.length : Int) < 1) then
      (some (⟨[]⟩ : Str))
    else
      (iter (ref1_Join_b3 l0 i_1 k_2 s_2 cont2) FUEL 0))
  else
    (ref1_Join_k3 s_2 i_1 cont1 ())
def ref1_Join_k1 (s_1 : Str) : Unit → Option Str := fun _ =>
  some s_1
def ref1_Join_b1 (l0 : List (List Str)) (cont1 : (Str × Nat) → Option Str) : (Str × Nat) → Option Str := fun (s_1, i_1) =>
  if decide ((i_1 : Int) < (l0.length : Int)) then
    ((idx l0 (i_1 : Int)).bind fun x2 =>
    (whn (!(decide ((x2.length : Int) < 1))) default (idx l0 (i_1 : Int))).bind fun x4 =>
    if (!(decide ((x2.length : Int) < 1))) then
    (if (decide ((x2.length : Int) < 1) || decide (64 < (x4.length : Int))) then
      (some (⟨[]⟩ : Str))
    else
      (iter (ref1_Join_b2 l0 i_1 cont1) FUEL (s_1, 0)))
    else
    (some (⟨[]⟩ : Str)))
  else
    (ref1_Join_k1 s_1 ())
def ref1_Join_m (l0 : List (List Str)) : Option Str :=
  iter (ref1_Join_b1 l0) FUEL ((⟨[]⟩ : Str), 0)
theorem ref1_Join_spec (S : Soup) (w : World) (l0 : List (List Str)) (r_l0 : GoRep.R (List (List Str))) (y : Str) (hM : ref1_Join_m l0 = some y) (hS : ∀ k, S k → k < w.heap.size) (h_l0 : GoRep.ok S w r_l0 l0) :
    Calls Tryd.prog 27 #[.slice r_l0.a l0.length r_l0.cap] w (Ret w (.string y.ba)) := by
  refine calls_cw (args := [_]) Tryd.func27 rfl ((pre_nil hS).start |>.immP (α := List (List Str)) (r := r_l0) (x := l0) h_l0) rfl ?_
  unfold ref1_Join_m at hM
  refine cw_seq fun K1 hK1 => ?_
  refine cw_region ?_
  refine ow_ev ev_assign ?_
  refine ow_nil (hK1 _ _ ?_); clear hK1
  refine cw_seq fun K2 hK2 => ?_
  refine cw_region ?_
  refine ow_ev ev_assign ?_
  refine ow_nil (hK2 _ _ ?_); clear hK2
  refine cw_seq fun K3 hK3 => ?_
  refine cw_seq fun K4 hK4 => ?_
  refine cw_region ?_
  refine ow_ev ev_assign ?_
  refine ow_nil (hK4 _ _ ?_); clear hK4
  refine cw_block ?_
  refine cw_loop (γ := Nat × (Str × Nat) × Unit) (env := fun (_, (s_1, i_1), _) => [(0, .v (.slice r_l0.a l0.length r_l0.cap)), (3, .v (.string s_1.ba)), (4, .v (.int .i64 (i_1 : Int)))]) (mem := fun (_, (s_1, i_1), _) => [imm (α := (List (List Str))) r_l0 l0]) (R := fun g => iter (ref1_Join_b1 l0) g.1 g.2.1 = some y) (μ := fun g => g.1) (FUEL, ((⟨[]⟩ : Str), 0), ()) hM ⟨rfl, rfl, rfl, trivial⟩ (fun w hm => hm.reord) ?_
  clear hM
  intro g hM KL1 hL1
  obtain ⟨nn1, ⟨s_1, i_1⟩, ⟨⟩⟩ := g
  dsimp only at hM ⊢
  obtain ⟨nn1, cont1, rfl, hcont1, hM⟩ := iter_open' hM
  dsimp only [ref1_Join_b1] at hM
  refine cw_seq fun K5 hK5 => ?_
  refine cw_seq fun K6 hK6 => ?_
  refine cw_region ?_
  refine ow_ev ev_move ?_
  refine ow_ev ev_move ?_
  refine ow_ev ev_len ?_
  refine ow_ev ev_lss ?_
  refine ow_nil (hK6 _ _ ?_); clear hK6
  refine cw_cond rfl (fun hc1 => ?_) (fun hc1 => ?_)
  ·
    replace hM := (ite_t hc1).symm.trans hM
    refine cw_skip (hK5 _ _ ?_); clear hK5
    refine cw_seq fun K7 hK7 => ?_
    refine cw_block ?_
    refine cw_seq fun K8 hK8 => ?_
    refine cw_seq fun K9 hK9 => ?_
    refine cw_region ?_
    refine ow_ev ev_move ?_
    refine ow_ev ev_move ?_
    obtain ⟨x2, hx3, hM⟩ := bind_some hM
    refine ow_ev (ev_idx (xs := l0) 1 (Kn.imm (α := List (List Str)) (r := r_l0) (x := l0) (by repeat (first | exact Has.head | apply Has.tail))) (fun hg => let h := idx_some hx3; ⟨h.1, h.2.1⟩)) ?_
    refine ow_ev (ev_ld (i := (i_1 : Int)) (xs := l0) (y := x2) 0 (Kn.imm (α := List (List Str)) (r := r_l0) (x := l0) (by repeat (first | exact Has.head | apply Has.tail))) (fun _ => hx3)) ?_
    refine ow_ev ev_len ?_
    refine ow_ev ev_lss ?_
    refine ow_ev ev_move ?_
    refine ow_evg rfl ev_move ?_
    refine ow_evg rfl ev_move ?_
    obtain ⟨x4, hx5, hM⟩ := bind_some hM
    refine ow_evg rfl (ev_idx (xs := l0) 1 (Kn.imm (α := List (List Str)) (r := r_l0) (x := l0) (by repeat (first | exact Has.head | apply Has.tail))) (fun hg => let h := idx_some (whn_some hx5 hg); ⟨h.1, h.2.1⟩)) ?_
    refine ow_cases (!(decide ((x2.length : Int) < 1))) (fun hg6 => ?_) (fun hg6 => ?_)
    ·
      replace hM := (ite_t hg6).symm.trans hM
      have hx7 := whn_some hx5 hg6
      refine ow_know 20 hg6 rfl ?_
      refine ow_know 21 hg6 rfl ?_
      refine ow_know 22 hg6 rfl ?_
      refine ow_gtrue rfl hg6 ?_
      refine ow_ev (ev_ld (i := (i_1 : Int)) (xs := l0) (y := x4) 0 (Kn.imm (α := List (List Str)) (r := r_l0) (x := l0) (by repeat (first | exact Has.head | apply Has.tail))) (fun _ => hx7)) ?_
      refine ow_gtrue rfl hg6 ?_
      refine ow_ev ev_len ?_
      refine ow_gtrue rfl hg6 ?_
      refine ow_ev ev_gtr ?_
      refine ow_ev ev_or ?_
      refine ow_nil (hK9 _ _ ?_); clear hK9
      refine cw_cond rfl (fun hc8 => ?_) (fun hc8 => ?_)
      ·
        replace hM := (ite_t hc8).symm.trans hM
        refine cw_seq fun K10 hK10 => ?_
        refine cw_region ?_
        refine ow_ev ev_assign ?_
        refine ow_nil (hK10 _ _ ?_); clear hK10
        obtain rfl := some_inj hM
        refine cw_ret (kw_retc1 (fun w hm => ret_of hm rfl))
      ·
        replace hM := (ite_f hc8).symm.trans hM
        refine cw_skip (hK8 _ _ ?_); clear hK8
        refine cw_seq fun K11 hK11 => ?_
        refine cw_seq fun K12 hK12 => ?_
        refine cw_region ?_
        refine ow_ev ev_assign ?_
        refine ow_nil (hK12 _ _ ?_); clear hK12
        refine cw_block ?_
        refine cw_loop (γ := Nat × (Str × Nat) × Unit) (env := fun (_, (s_2, k_2), _) => [(0, .v (.slice r_l0.a l0.length r_l0.cap)), (3, .v (.string s_2.ba)), (4, .v (.int .i64 (i_1 : Int))), (5, .v (.int .i64 (k_2 : Int)))]) (mem := fun (_, (s_2, k_2), _) => [imm (α := (List (List Str))) r_l0 l0]) (R := fun g => iter (ref1_Join_b2 l0 i_1 cont1) g.1 g.2.1 = some y) (μ := fun g => g.1) (FUEL, (s_1, 0), ()) hM ⟨rfl, rfl, rfl, rfl, trivial⟩ (fun w hm => hm.reord) ?_
        clear hM
        intro g hM KL2 hL2
        obtain ⟨nn2, ⟨s_2, k_2⟩, ⟨⟩⟩ := g
        dsimp only at hM ⊢
        obtain ⟨nn2, cont2, rfl, hcont2, hM⟩ := iter_open' hM
        dsimp only [ref1_Join_b2] at hM
        refine cw_seq fun K13 hK13 => ?_
        refine cw_seq fun K14 hK14 => ?_
        refine cw_region ?_
        refine ow_ev ev_move ?_
        refine ow_ev ev_move ?_
        refine ow_ev ev_move ?_
        obtain ⟨x9, hx10, hM⟩ := bind_some hM
        refine ow_ev (ev_idx (xs := l0) 1 (Kn.imm (α := List (List Str)) (r := r_l0) (x := l0) (by repeat (first | exact Has.head | apply Has.tail))) (fun hg => let h := idx_some hx10; ⟨h.1, h.2.1⟩)) ?_
        refine ow_ev (ev_ld (i := (i_1 : Int)) (xs := l0) (y := x9) 0 (Kn.imm (α := List (List Str)) (r := r_l0) (x := l0) (by repeat (first | exact Has.head | apply Has.tail))) (fun _ => hx10)) ?_
        refine ow_ev ev_len ?_
        refine ow_ev ev_lss ?_
        refine ow_nil (hK14 _ _ ?_); clear hK14
        refine cw_cond rfl (fun hc11 => ?_) (fun hc11 => ?_)
        ·
          replace hM := (ite_t hc11).symm.trans hM
          refine cw_skip (hK13 _ _ ?_); clear hK13
          refine cw_seq fun K15 hK15 => ?_
          refine cw_block ?_
          refine cw_seq fun K16 hK16 => ?_
          refine cw_seq fun K17 hK17 => ?_
          refine cw_region ?_
          refine ow_ev ev_move ?_
          refine ow_ev ev_move ?_
          obtain ⟨x12, hx13, hM⟩ := bind_some hM
          refine ow_ev (ev_idx (xs := l0) 1 (Kn.imm (α := List (List Str)) (r := r_l0) (x := l0) (by repeat (first | exact Has.head | apply Has.tail))) (fun hg => let h := idx_some hx13; ⟨h.1, h.2.1⟩)) ?_
          refine ow_ev (ev_ld (i := (i_1 : Int)) (xs := l0) (y := x12) 0 (Kn.imm (α := List (List Str)) (r := r_l0) (x := l0) (by repeat (first | exact Has.head | apply Has.tail))) (fun _ => hx13)) ?_
          refine ow_ev ev_move ?_
          obtain ⟨x14, hx15, hM⟩ := bind_some hM
          refine ow_ev (ev_idx (xs := x12) 1 ((Sk.elem (Sk.imm (α := List (List Str)) (r := r_l0) (x := l0) (by repeat (first | exact Has.head | apply Has.tail))) hx13)).kn (fun hg => let h := idx_some hx15; ⟨h.1, h.2.1⟩)) ?_
          refine ow_ev (ev_ld (i := (k_2 : Int)) (xs := x12) (y := x14) 0 ((Sk.elem (Sk.imm (α := List (List Str)) (r := r_l0) (x := l0) (by repeat (first | exact Has.head | apply Has.tail))) hx13)).kn (fun _ => hx15)) ?_
          refine ow_ev ev_slen ?_
          refine ow_ev ev_lss ?_
          refine ow_nil (hK17 _ _ ?_); clear hK17
          refine cw_cond rfl (fun hc16 => ?_) (fun hc16 => ?_)
          ·
            replace hM := (ite_t hc16).symm.trans hM
            refine cw_seq fun K18 hK18 => ?_
            refine cw_region ?_
            refine ow_ev ev_assign ?_
            refine ow_nil (hK18 _ _ ?_); clear hK18
            obtain rfl := some_inj hM
            refine cw_ret (kw_retc1 (fun w hm => ret_of hm rfl))
          ·
            replace hM := (ite_f hc16).symm.trans hM
            refine cw_skip (hK16 _ _ ?_); clear hK16
            refine cw_seq fun K19 hK19 => ?_
            refine cw_seq fun K20 hK20 => ?_
            refine cw_region ?_
            refine ow_ev ev_assign ?_
            refine ow_nil (hK20 _ _ ?_); clear hK20
            refine cw_block ?_
            refine cw_loop (γ := Nat × Nat × Unit) (env := fun (_, x_3, _) => [(0, .v (.slice r_l0.a l0.length r_l0.cap)), (3, .v (.string s_2.ba)), (4, .v (.int .i64 (i_1 : Int))), (5, .v (.int .i64 (k_2 : Int))), (6, .v (.int .i64 (x_3 : Int)))]) (mem := fun (_, x_3, _) => [imm (α := (List (List Str))) r_l0 l0]) (R := fun g => iter (ref1_Join_b3 l0 i_1 k_2 s_2 cont2) g.1 g.2.1 = some y) (μ := fun g => g.1) (FUEL, 0, ()) hM ⟨rfl, rfl, rfl, rfl, rfl, trivial⟩ (fun w hm => hm.reord) ?_
            clear hM
            intro g hM KL3 hL3
            obtain ⟨nn3, x_3, ⟨⟩⟩ := g
            dsimp only at hM ⊢
            obtain ⟨nn3, cont3, rfl, hcont3, hM⟩ := iter_open' hM
            dsimp only [ref1_Join_b3] at hM
            refine cw_seq fun K21 hK21 => ?_
            refine cw_seq fun K22 hK22 => ?_
            refine cw_region ?_
            refine ow_ev ev_move ?_
            refine ow_ev ev_move ?_
            refine ow_ev ev_move ?_
            obtain ⟨x17, hx18, hM⟩ := bind_some hM
            refine ow_ev (ev_idx (xs := l0) 1 (Kn.imm (α := List (List Str)) (r := r_l0) (x := l0) (by repeat (first | exact Has.head | apply Has.tail))) (fun hg => let h := idx_some hx18; ⟨h.1, h.2.1⟩)) ?_
            refine ow_ev (ev_ld (i := (i_1 : Int)) (xs := l0) (y := x17) 0 (Kn.imm (α := List (List Str)) (r := r_l0) (x := l0) (by repeat (first | exact Has.head | apply Has.tail))) (fun _ => hx18)) ?_
            refine ow_ev ev_move ?_
            obtain ⟨x19, hx20, hM⟩ := bind_some hM
            refine ow_ev (ev_idx (xs := x17) 1 ((Sk.elem (Sk.imm (α := List (List Str)) (r := r_l0) (x := l0) (by repeat (first | exact Has.head | apply Has.tail))) hx18)).kn (fun hg => let h := idx_some hx20; ⟨h.1, h.2.1⟩)) ?_
            refine ow_ev (ev_ld (i := (k_2 : Int)) (xs := x17) (y := x19) 0 ((Sk.elem (Sk.imm (α := List (List Str)) (r := r_l0) (x := l0) (by repeat (first | exact Has.head | apply Has.tail))) hx18)).kn (fun _ => hx20)) ?_
            refine ow_ev ev_slen ?_
            refine ow_ev ev_lss ?_
            refine ow_nil (hK22 _ _ ?_); clear hK22
            refine cw_cond rfl (fun hc21 => ?_) (fun hc21 => ?_)
            ·
              replace hM := (ite_t hc21).symm.trans hM
              refine cw_skip (hK21 _ _ ?_); clear hK21
              refine cw_seq fun K23 hK23 => ?_
              refine cw_block ?_
              refine cw_seq fun K24 hK24 => ?_
              refine cw_region ?_
              refine ow_ev ev_move ?_
              refine ow_ev ev_move ?_
              obtain ⟨x22, hx23, hM⟩ := bind_some hM
              refine ow_ev (ev_idx (xs := l0) 1 (Kn.imm (α := List (List Str)) (r := r_l0) (x := l0) (by repeat (first | exact Has.head | apply Has.tail))) (fun hg => let h := idx_some hx23; ⟨h.1, h.2.1⟩)) ?_
              refine ow_ev (ev_ld (i := (i_1 : Int)) (xs := l0) (y := x22) 0 (Kn.imm (α := List (List Str)) (r := r_l0) (x := l0) (by repeat (first | exact Has.head | apply Has.tail))) (fun _ => hx23)) ?_
              refine ow_ev ev_move ?_
              obtain ⟨x24, hx25, hM⟩ := bind_some hM
              refine ow_ev (ev_idx (xs := x22) 1 ((Sk.elem (Sk.imm (α := List (List Str)) (r := r_l0) (x := l0) (by repeat (first | exact Has.head | apply Has.tail))) hx23)).kn (fun hg => let h := idx_some hx25; ⟨h.1, h.2.1⟩)) ?_
              refine ow_ev (ev_ld (i := (k_2 : Int)) (xs := x22) (y := x24) 0 ((Sk.elem (Sk.imm (α := List (List Str)) (r := r_l0) (x := l0) (by repeat (first | exact Has.head | apply Has.tail))) hx23)).kn (fun _ => hx25)) ?_
              refine ow_ev ev_move ?_
              obtain ⟨c26, hc_27, hM⟩ := bind_some hM
              refine ow_ev (ev_sidx (fun _ => hc_27)) ?_
              obtain ⟨y28, hy29, hM⟩ := bind_some hM
              refine ow_cons (st_callv (fun w hm => let ⟨S, hs⟩ := hm; ref1_plain_spec _ w c26 y28 hy29 (lend_lt hs) ) ?_)
              refine ow_ev ev_not ?_
              refine ow_nil (hK24 _ _ ?_); clear hK24
              refine cw_cond rfl (fun hc30 => ?_) (fun hc30 => ?_)
              ·
                replace hM := (ite_t hc30).symm.trans hM
                refine cw_seq fun K25 hK25 => ?_
                refine cw_region ?_
                refine ow_ev ev_assign ?_
                refine ow_nil (hK25 _ _ ?_); clear hK25
                obtain rfl := some_inj hM
                refine cw_ret (kw_retc1 (fun w hm => ret_of hm rfl))
              ·
                replace hM := (ite_f hc30).symm.trans hM
                refine cw_skip (hK23 _ _ ?_); clear hK23
                refine cw_region ?_
                refine ow_ev ev_move ?_
                obtain ⟨hI31, hM⟩ := chk_some hM
                refine ow_ev (ev_add (hr := fun hg => i64b_I64 hI31)) ?_
                refine ow_ev ev_assign ?_
                refine ow_nil (hL3 (nn3, (x_3 + 1), ()) _ _ (eqc hcont3 hM) (Nat.lt_succ_self _) ⟨rfl, rfl, rfl, rfl, rfl, trivial⟩ (fun w hm => hm.reord))
            ·
              replace hM := (ite_f hc21).symm.trans hM
              refine cw_exit (hK19 _ _ ?_); clear hK19
              dsimp only [ref1_Join_k5] at hM
              refine cw_cut (γ := Str × Unit) (env := fun (s_j6, _) => [(0, .v (.slice r_l0.a l0.length r_l0.cap)), (3, .v (.string s_j6.ba)), (4, .v (.int .i64 (i_1 : Int))), (5, .v (.int .i64 (k_2 : Int)))]) (mem := fun (s_j6, _) => [imm (α := (List (List Str))) r_l0 l0]) (R := fun g => ref1_Join_k6 l0 i_1 k_2 cont2 g.1 = some y) ?_ ?_
              · intro KJ6 hJ6
                refine cw_seq fun K26 hK26 => ?_
                refine cw_region ?_
                refine ow_ev ev_move ?_
                refine ow_ev ev_gtr ?_
                refine ow_nil (hK26 _ _ ?_); clear hK26
                refine cw_cond rfl (fun hc39 => ?_) (fun hc39 => ?_)
                ·
                  replace hM := (ite_t hc39).symm.trans hM
                  refine cw_region ?_
                  refine ow_ev ev_move ?_
                  obtain ⟨q40, hq41, hM⟩ := bind_some hM
                  refine ow_ev (ev_scat (fun _ => hq41)) ?_
                  refine ow_ev ev_assign ?_
                  refine ow_nil (hJ6 (q40, ()) _ _ hM ⟨rfl, rfl, rfl, rfl, trivial⟩ (fun w hm => hm.reord))
                ·
                  replace hM := (ite_f hc39).symm.trans hM
                  refine cw_skip (hJ6 (s_2, ()) _ _ hM ⟨rfl, rfl, rfl, rfl, trivial⟩ (fun w hm => hm.reord))
              ·
                clear hM
                intro g hM
                obtain ⟨s_j6, ⟨⟩⟩ := g
                dsimp only at hM ⊢
                dsimp only [ref1_Join_k6] at hM
                refine cw_region ?_
                refine ow_ev ev_move ?_
                refine ow_ev ev_move ?_
                refine ow_ev ev_move ?_
                obtain ⟨x32, hx33, hM⟩ := bind_some hM
                refine ow_ev (ev_idx (xs := l0) 1 (Kn.imm (α := List (List Str)) (r := r_l0) (x := l0) (by repeat (first | exact Has.head | apply Has.tail))) (fun hg => let h := idx_some hx33; ⟨h.1, h.2.1⟩)) ?_
                refine ow_ev (ev_ld (i := (i_1 : Int)) (xs := l0) (y := x32) 0 (Kn.imm (α := List (List Str)) (r := r_l0) (x := l0) (by repeat (first | exact Has.head | apply Has.tail))) (fun _ => hx33)) ?_
                refine ow_ev ev_move ?_
                obtain ⟨x34, hx35, hM⟩ := bind_some hM
                refine ow_ev (ev_idx (xs := x32) 1 ((Sk.elem (Sk.imm (α := List (List Str)) (r := r_l0) (x := l0) (by repeat (first | exact Has.head | apply Has.tail))) hx33)).kn (fun hg => let h := idx_some hx35; ⟨h.1, h.2.1⟩)) ?_
                refine ow_ev (ev_ld (i := (k_2 : Int)) (xs := x32) (y := x34) 0 ((Sk.elem (Sk.imm (α := List (List Str)) (r := r_l0) (x := l0) (by repeat (first | exact Has.head | apply Has.tail))) hx33)).kn (fun _ => hx35)) ?_
                obtain ⟨q36, hq37, hM⟩ := bind_some hM
                refine ow_ev (ev_scat (fun _ => hq37)) ?_
                refine ow_ev ev_assign ?_
                refine ow_nil (hK15 _ _ ?_); clear hK15
                dsimp only [ref1_Join_k4] at hM
                refine cw_region ?_
                refine ow_ev ev_move ?_
                obtain ⟨hI38, hM⟩ := chk_some hM
                refine ow_ev (ev_add (hr := fun hg => i64b_I64 hI38)) ?_
                refine ow_ev ev_assign ?_
                refine ow_nil (hL2 (nn2, (q36, k_2 + 1), ()) _ _ (eqc hcont2 hM) (Nat.lt_succ_self _) ⟨rfl, rfl, rfl, rfl, trivial⟩ (fun w hm => hm.reord))
        ·
          replace hM := (ite_f hc11).symm.trans hM
          refine cw_exit (hK11 _ _ ?_); clear hK11
          dsimp only [ref1_Join_k3] at hM
          refine cw_region ?_
          refine ow_ev ev_move ?_
          obtain ⟨q42, hq43, hM⟩ := bind_some hM
          refine ow_ev (ev_scat (fun _ => hq43)) ?_
          refine ow_ev ev_assign ?_
          refine ow_nil (hK7 _ _ ?_); clear hK7
          dsimp only [ref1_Join_k2] at hM
          refine cw_region ?_
          refine ow_ev ev_move ?_
          obtain ⟨hI44, hM⟩ := chk_some hM
          refine ow_ev (ev_add (hr := fun hg => i64b_I64 hI44)) ?_
          refine ow_ev ev_assign ?_
          refine ow_nil (hL1 (nn1, (q42, i_1 + 1), ()) _ _ (eqc hcont1 hM) (Nat.lt_succ_self _) ⟨rfl, rfl, rfl, trivial⟩ (fun w hm => hm.reord))
    ·
      replace hM := (ite_f hg6).symm.trans hM
      refine ow_gskip rfl hg6 ?_
      refine ow_gskip rfl hg6 ?_
      refine ow_gskip rfl hg6 ?_
      refine ow_ev (ev_orT (bnT hg6)) ?_
      refine ow_nil (hK9 _ _ ?_); clear hK9
      refine cw_cond_true rfl rfl ?_
      refine cw_seq fun K27 hK27 => ?_
      refine cw_region ?_
      refine ow_ev ev_assign ?_
      refine ow_nil (hK27 _ _ ?_); clear hK27
      obtain rfl := some_inj hM
      refine cw_ret (kw_retc1 (fun w hm => ret_of hm rfl))
  ·
    replace hM := (ite_f hc1).symm.trans hM
    refine cw_exit (hK3 _ _ ?_); clear hK3
    dsimp only [ref1_Join_k1] at hM
    refine cw_seq fun K28 hK28 => ?_
    refine cw_region ?_
    refine ow_ev ev_move ?_
    refine ow_ev ev_assign ?_
    refine ow_nil (hK28 _ _ ?_); clear hK28
    obtain rfl := some_inj hM
    refine cw_ret (kw_retc1 (fun w hm => ret_of hm rfl))

end Go.Proofs.YtfbpbmnlbcnanaaDoor
