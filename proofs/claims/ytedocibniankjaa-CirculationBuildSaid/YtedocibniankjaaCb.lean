/- Models of functions, and that the code computes them. -/
import Derived.Test.YtedocibniankjaaCa
namespace Go.Proofs.Ytedocibniankjaa
open Go.Dc Go.RowKit
set_option maxRecDepth 10000
set_option linter.unusedVariables false
def circulation_Chains_k2 (cont1 : ((List Bool) × Nat) → Option ((List (List Int)) × Int)) (t20_1 : Nat) : (List Bool) → Option ((List (List Int)) × Int) := fun lfollows_j2 =>
  cont1 (lfollows_j2, t20_1 + 1)
def circulation_Chains_k4 (cont2 : ((List (List Int)) × Int × Nat) → Option ((List (List Int)) × Int)) (t46_2 : Nat) : ((List (List Int)) × Int) → Option ((List (List Int)) × Int) := fun (lchains_j4, count_j4) =>
  cont2 (lchains_j4, count_j4, t46_2 + 1)
def circulation_Chains_k5 (lchains_2 : List (List Int)) (lchain_3 : List Int) (count_2 : Int) (cont2 : ((List (List Int)) × Int × Nat) → Option ((List (List Int)) × Int)) (t46_2 : Nat) : Unit → Option ((List (List Int)) × Int) := fun _ =>
  chk (decide ((lchains_2.length + ([lchain_3] : List (List Int)).length) * 24 ≤ 140737488355328)) <|
  chk (i64b (count_2 + (lchain_3.length : Int))) <|
  circulation_Chains_k4 cont2 t46_2 ((lchains_2 ++ ([lchain_3] : List (List Int))), (count_2 + (lchain_3.length : Int)))
def circulation_Chains_b3 (next0 : List Int) (lchains_2 : List (List Int)) (count_2 : Int) (cont2 : ((List (List Int)) × Int × Nat) → Option ((List (List Int)) × Int)) (t46_2 : Nat) (cont3 : ((List Int) × Int) → Option ((List (List Int)) × Int)) : ((List Int) × Int) → Option ((List (List Int)) × Int) := fun (lchain_3, a_3) =>
  if decide (a_3 ≠ (-1)) then
    (chk (decide ((lchain_3.length + ([a_3] : List Int).length) * 8 ≤ 140737488355328)) <|
    (idx next0 a_3).bind fun x28 =>
    cont3 ((lchain_3 ++ ([a_3] : List Int)), x28))
  else
    (circulation_Chains_k5 lchains_2 lchain_3 count_2 cont2 t46_2 ())
def circulation_Chains_k3 (count_2 : Int) (next0 : List Int) (lchains_2 : List (List Int)) : Unit → Option ((List (List Int)) × Int) := fun _ =>
  if decide (count_2 < (next0.length : Int)) then
    (some (([] : List (List Int)), 1))
  else
    (some (lchains_2, 0))
def circulation_Chains_b2 (next0 : List Int) (lfollows_1 : List Bool) (cont2 : ((List (List Int)) × Int × Nat) → Option ((List (List Int)) × Int)) : ((List (List Int)) × Int × Nat) → Option ((List (List Int)) × Int) := fun (lchains_2, count_2, t46_2) =>
  if decide ((t46_2 : Int) < (next0.length : Int)) then
    ((idx lfollows_1 (t46_2 : Int)).bind fun x20 =>
    if x20 then
      (circulation_Chains_k4 cont2 t46_2 (lchains_2, count_2))
    else
      (iter (circulation_Chains_b3 next0 lchains_2 count_2 cont2 t46_2) FUEL (([] : List Int), (t46_2 : Int))))
  else
    (circulation_Chains_k3 count_2 next0 lchains_2 ())
def circulation_Chains_k1 (next0 : List Int) (lfollows_1 : List Bool) : Unit → Option ((List (List Int)) × Int) := fun _ =>
  iter (circulation_Chains_b2 next0 lfollows_1) FUEL (([] : List (List Int)), 0, 0)
def circulation_Chains_b1 (next0 : List Int) (cont1 : ((List Bool) × Nat) → Option ((List (List Int)) × Int)) : ((List Bool) × Nat) → Option ((List (List Int)) × Int) := fun (lfollows_1, t20_1) =>
  if decide ((t20_1 : Int) < (next0.length : Int)) then
    ((idx next0 (t20_1 : Int)).bind fun x8 =>
    if decide (x8 = (-1)) then
      (circulation_Chains_k2 cont1 t20_1 lfollows_1)
    else
      ((whn (!(decide (x8 < 0) || decide ((next0.length : Int) ≤ x8))) default (idx lfollows_1 x8)).bind fun x11 =>
      if ((decide (x8 < 0) || decide ((next0.length : Int) ≤ x8)) || x11) then
        (some (([] : List (List Int)), 1))
      else
        ((idx lfollows_1 x8).bind fun x15 =>
        circulation_Chains_k2 cont1 t20_1 (lfollows_1.set x8.toNat true))))
  else
    (circulation_Chains_k1 next0 lfollows_1 ())
def circulation_Chains_m (next0 : List Int) : Option ((List (List Int)) × Int) :=
  if decide (40 < (next0.length : Int)) then
    (some (([] : List (List Int)), 1))
  else
    ((mk (α := Bool) false (next0.length : Int)).bind fun m3 =>
    iter (circulation_Chains_b1 next0) FUEL (m3, 0))
theorem circulation_Chains_spec (S : Soup) (w : World) (next0 : List Int) (r_next0 : GoRep.R (List Int)) (y : (List (List Int)) × Int) (hM : circulation_Chains_m next0 = some y) (hS : ∀ k, S k → k < w.heap.size) (h_next0 : GoRep.ok S w r_next0 next0) :
    Calls Try.prog 41 #[.slice r_next0.a next0.length r_next0.cap] w (Post (β := (GoRep.R (List (List Int)))) S [] (fun g => .tuple #[.slice g.a y.1.length g.cap, .int .i64 y.2]) (fun g => [trow 22 g y.1]) w) := by
  refine calls_cw (args := [_]) Try.func41 rfl ((pre_nil hS).start |>.immP (α := List Int) (r := r_next0) (x := next0) h_next0) rfl ?_
  unfold circulation_Chains_m at hM
  refine cw_seq fun K1 hK1 => ?_
  refine cw_region ?_
  refine ow_ev ev_assign ?_
  refine ow_ev ev_assign ?_
  refine ow_nil (hK1 _ _ ?_); clear hK1
  refine cw_seq fun K2 hK2 => ?_
  refine cw_seq fun K3 hK3 => ?_
  refine cw_region ?_
  refine ow_ev ev_move ?_
  refine ow_ev ev_len ?_
  refine ow_ev ev_gtr ?_
  refine ow_nil (hK3 _ _ ?_); clear hK3
  refine cw_cond rfl (fun hc1 => ?_) (fun hc1 => ?_)
  ·
    replace hM := (ite_t hc1).symm.trans hM
    refine cw_seq fun K4 hK4 => ?_
    refine cw_region ?_
    refine ow_ev ev_assign ?_
    refine ow_ev ev_assign ?_
    refine ow_nil (hK4 _ _ ?_); clear hK4
    refine cw_imp (fun w hm => hm.row_nil (α := List Int) 22 (fun _ => (⟨none, 0, (fun _ => ())⟩ : SR (GoRep.R Int)))) ?_
    obtain rfl := some_inj hM
    refine cw_ret (kw_retc2 (fun w hm => post_of (⟨none, 0, (fun _ => (⟨none, 0, (fun _ => ())⟩ : SR (GoRep.R Int)))⟩ : SR (GoRep.R (List Int)) ) hm rfl))
  ·
    replace hM := (ite_f hc1).symm.trans hM
    refine cw_skip (hK2 _ _ ?_); clear hK2
    refine cw_seq fun K5 hK5 => ?_
    refine cw_region ?_
    refine ow_ev ev_move ?_
    refine ow_ev ev_len ?_
    obtain ⟨m3, hm4, hM⟩ := bind_some hM
    refine ow_cons (st_make (α := Bool) (e := 4) false () hm4 (fun _ _ => trivial) (fun r5 hr5 => ?_))
    refine ow_ev ev_assign ?_
    refine ow_nil (hK5 _ _ ?_); clear hK5
    refine cw_seq fun K6 hK6 => ?_
    refine cw_seq fun K7 hK7 => ?_
    refine cw_region ?_
    refine ow_ev ev_move ?_
    refine ow_have (fun w hm => Kn.len (Kn.imm (α := List Int) (r := r_next0) (x := next0) (by repeat (first | exact Has.head | apply Has.tail))) hm) fun hl6 => ?_
    refine ow_ev ev_len ?_
    refine ow_ev ev_move ?_
    refine ow_nil (hK7 _ _ ?_); clear hK7
    refine cw_block ?_
    refine cw_loop (γ := Nat × ((List Bool) × Nat) × Unit) (env := fun (_, (lfollows_1, t20_1), _) => [(0, .v (.slice r_next0.a next0.length r_next0.cap)), (4, .v (.slice r5.a lfollows_1.length r5.cap)), (18, .v (.slice r_next0.a next0.length r_next0.cap)), (19, .v (.int .i64 (next0.length : Int))), (20, .v (.int .i64 (t20_1 : Int)))]) (mem := fun (_, (lfollows_1, t20_1), _) => [imm (α := (List Int)) r_next0 next0, trow 4 r5 lfollows_1]) (R := fun g => iter (circulation_Chains_b1 next0) g.1 g.2.1 = some y) (μ := fun g => g.1) (FUEL, (m3, 0), ()) hM ⟨rfl, rfl, rfl, rfl, rfl, trivial⟩ (fun w hm => hm.reord) ?_
    clear hM
    intro g hM KL1 hL1
    obtain ⟨nn1, ⟨lfollows_1, t20_1⟩, ⟨⟩⟩ := g
    dsimp only at hM ⊢
    obtain ⟨nn1, cont1, rfl, hcont1, hM⟩ := iter_open' hM
    dsimp only [circulation_Chains_b1] at hM
    refine cw_seq fun K8 hK8 => ?_
    refine cw_region ?_
    refine ow_ev ev_lss ?_
    refine ow_nil (hK8 _ _ ?_); clear hK8
    refine cw_seq fun K9 hK9 => ?_
    refine cw_cond rfl (fun hc7 => ?_) (fun hc7 => ?_)
    ·
      replace hM := (ite_t hc7).symm.trans hM
      have hc7d := of_decide_eq_true hc7
      refine cw_skip (hK9 _ _ ?_); clear hK9
      refine cw_cut (γ := (List Bool) × Unit) (env := fun (lfollows_j2, _) => [(0, .v (.slice r_next0.a next0.length r_next0.cap)), (4, .v (.slice r5.a lfollows_j2.length r5.cap)), (18, .v (.slice r_next0.a next0.length r_next0.cap)), (19, .v (.int .i64 (next0.length : Int))), (20, .v (.int .i64 (t20_1 : Int)))]) (mem := fun (lfollows_j2, _) => [imm (α := (List Int)) r_next0 next0, trow 4 r5 lfollows_j2]) (R := fun g => circulation_Chains_k2 cont1 t20_1 g.1 = some y) ?_ ?_
      · intro KJ2 hJ2
        refine cw_block ?_
        refine cw_seq fun K10 hK10 => ?_
        refine cw_region ?_
        obtain ⟨x8, hx9, hM⟩ := bind_some hM
        refine ow_ev (ev_idx (xs := next0) 1 (Kn.imm (α := List Int) (r := r_next0) (x := next0) (by repeat (first | exact Has.head | apply Has.tail))) (fun hg => let h := idx_some hx9; ⟨h.1, h.2.1⟩)) ?_
        refine ow_ev (ev_ld (i := (t20_1 : Int)) (xs := next0) (y := x8) 0 (Kn.imm (α := List Int) (r := r_next0) (x := next0) (by repeat (first | exact Has.head | apply Has.tail))) (fun _ => hx9)) ?_
        refine ow_ev ev_assign ?_
        refine ow_nil (hK10 _ _ ?_); clear hK10
        refine cw_seq fun K11 hK11 => ?_
        refine cw_seq fun K12 hK12 => ?_
        refine cw_region ?_
        refine ow_ev ev_move ?_
        refine ow_ev ev_eql ?_
        refine ow_nil (hK12 _ _ ?_); clear hK12
        refine cw_cond rfl (fun hc10 => ?_) (fun hc10 => ?_)
        ·
          replace hM := (ite_t hc10).symm.trans hM
          refine cw_exit (hJ2 (lfollows_1, ()) _ _ hM ⟨rfl, rfl, rfl, rfl, rfl, trivial⟩ (fun w hm => hm.reord))
        ·
          replace hM := (ite_f hc10).symm.trans hM
          refine cw_skip (hK11 _ _ ?_); clear hK11
          refine cw_seq fun K13 hK13 => ?_
          refine cw_seq fun K14 hK14 => ?_
          refine cw_region ?_
          refine ow_ev ev_move ?_
          refine ow_ev ev_lss ?_
          refine ow_ev ev_move ?_
          refine ow_evg rfl ev_move ?_
          refine ow_evg rfl ev_move ?_
          refine ow_evg rfl ev_len ?_
          refine ow_evg rfl ev_geq ?_
          refine ow_ev ev_or ?_
          refine ow_ev ev_move ?_
          refine ow_evg rfl ev_move ?_
          refine ow_evg rfl ev_move ?_
          obtain ⟨x11, hx12, hM⟩ := bind_some hM
          refine ow_evg rfl (ev_idx (xs := lfollows_1) 1 (Kn.trow (e := 4) (r := r5) (by repeat (first | exact Has.head | apply Has.tail))) (fun hg => let h := idx_some (whn_some hx12 hg); ⟨h.1, h.2.1⟩)) ?_
          refine ow_evg rfl (ev_ld (i := x8) (xs := lfollows_1) (y := x11) 0 (Kn.trow (e := 4) (r := r5) (by repeat (first | exact Has.head | apply Has.tail))) (fun hg => whn_some hx12 hg)) ?_
          refine ow_ev ev_or ?_
          refine ow_nil (hK14 _ _ ?_); clear hK14
          refine cw_cond rfl (fun hc13 => ?_) (fun hc13 => ?_)
          ·
            replace hM := (ite_t hc13).symm.trans hM
            refine cw_seq fun K15 hK15 => ?_
            refine cw_region ?_
            refine ow_ev ev_assign ?_
            refine ow_ev ev_assign ?_
            refine ow_nil (hK15 _ _ ?_); clear hK15
            refine cw_imp (fun w hm => hm.row_nil (α := List Int) 22 (fun _ => (⟨none, 0, (fun _ => ())⟩ : SR (GoRep.R Int)))) ?_
            obtain rfl := some_inj hM
            refine cw_ret (kw_retc2 (fun w hm => post_of (⟨none, 0, (fun _ => (⟨none, 0, (fun _ => ())⟩ : SR (GoRep.R Int)))⟩ : SR (GoRep.R (List Int))                                                                           ) hm rfl))
          ·
            replace hM := (ite_f hc13).symm.trans hM
            refine cw_skip (hK13 _ _ ?_); clear hK13
            refine cw_region ?_
            refine ow_ev ev_move ?_
            refine ow_ev ev_move ?_
            obtain ⟨x15, hx16, hM⟩ := bind_some hM
            refine ow_ev (ev_idx (xs := lfollows_1) 1 (Kn.trow (e := 4) (r := r5) (by repeat (first | exact Has.head | apply Has.tail))) (fun hg => let h := idx_some hx16; ⟨h.1, h.2.1⟩)) ?_
            refine ow_cons (st_set (r := r5) (i := x8) (xs := lfollows_1) (u := x15) (vs := [.bool true]) 0 true hx16 rfl (fun _ _ h => h) (by repeat (first | exact Upd.head | apply Upd.tail)) ?_)
            refine ow_nil (hJ2 ((lfollows_1.set x8.toNat true), ()) _ _ hM ⟨rfl, (by simp only [List.length_set]; rfl), rfl, rfl, rfl, trivial⟩ (fun w hm => hm.reord))
      ·
        clear hM
        intro g hM
        obtain ⟨lfollows_j2, ⟨⟩⟩ := g
        dsimp only at hM ⊢
        dsimp only [circulation_Chains_k2] at hM
        refine cw_region ?_
        refine ow_ev (ev_add (hr := fun _ => by unfold I64; omega)) ?_
        refine ow_ev ev_move ?_
        refine ow_nil (hL1 (nn1, (lfollows_j2, t20_1 + 1), ()) _ _ (eqc hcont1 hM) (Nat.lt_succ_self _) ⟨rfl, rfl, rfl, rfl, rfl, trivial⟩ (fun w hm => hm.reord))
    ·
      replace hM := (ite_f hc7).symm.trans hM
      refine cw_exit (hK6 _ _ ?_); clear hK6
      dsimp only [circulation_Chains_k1] at hM
      refine cw_seq fun K16 hK16 => ?_
      refine cw_region ?_
      refine ow_ev ev_assign ?_
      refine ow_nil (hK16 _ _ ?_); clear hK16
      refine cw_seq fun K17 hK17 => ?_
      refine cw_region ?_
      refine ow_ev ev_assign ?_
      refine ow_nil (hK17 _ _ ?_); clear hK17
      refine cw_seq fun K18 hK18 => ?_
      refine cw_seq fun K19 hK19 => ?_
      refine cw_region ?_
      refine ow_ev ev_move ?_
      refine ow_have (fun w hm => Kn.len (Kn.imm (α := List Int) (r := r_next0) (x := next0) (by repeat (first | exact Has.head | apply Has.tail))) hm) fun hl17 => ?_
      refine ow_ev ev_len ?_
      refine ow_ev ev_move ?_
      refine ow_nil (hK19 _ _ ?_); clear hK19
      refine cw_block ?_
      refine cw_imp (fun w hm => hm.row_nil (α := List Int) 22 (fun _ => (⟨none, 0, (fun _ => ())⟩ : SR (GoRep.R Int)))) ?_
      refine cw_loop (γ := Nat × ((List (List Int)) × Int × Nat) × (SR (GoRep.R (List Int)))) (env := fun (_, (lchains_2, count_2, t46_2), rchains_2) => [(0, .v (.slice r_next0.a next0.length r_next0.cap)), (4, .v (.slice r5.a lfollows_1.length r5.cap)), (7, .v (.slice rchains_2.a lchains_2.length rchains_2.cap)), (8, .v (.int .i64 count_2)), (45, .v (.int .i64 (next0.length : Int))), (46, .v (.int .i64 (t46_2 : Int)))]) (mem := fun (_, (lchains_2, count_2, t46_2), rchains_2) => [imm (α := (List Int)) r_next0 next0, trow 4 r5 lfollows_1, trow 22 rchains_2 lchains_2]) (R := fun g => iter (circulation_Chains_b2 next0 lfollows_1) g.1 g.2.1 = some y) (μ := fun g => g.1) (FUEL, (([] : List (List Int)), 0, 0), (⟨none, 0, (fun _ => (⟨none, 0, (fun _ => ())⟩ : SR (GoRep.R Int)))⟩ : SR (GoRep.R (List Int))                                                                            )) hM ⟨rfl, rfl, rfl, rfl, rfl, rfl, trivial⟩ (fun w hm => hm.reord) ?_
      clear hM
      intro g hM KL2 hL2
      obtain ⟨nn2, ⟨lchains_2, count_2, t46_2⟩, rchains_2⟩ := g
      dsimp only at hM ⊢
      obtain ⟨nn2, cont2, rfl, hcont2, hM⟩ := iter_open' hM
      dsimp only [circulation_Chains_b2] at hM
      refine cw_seq fun K20 hK20 => ?_
      refine cw_region ?_
      refine ow_ev ev_lss ?_
      refine ow_nil (hK20 _ _ ?_); clear hK20
      refine cw_seq fun K21 hK21 => ?_
      refine cw_cond rfl (fun hc19 => ?_) (fun hc19 => ?_)
      ·
        replace hM := (ite_t hc19).symm.trans hM
        have hc19d := of_decide_eq_true hc19
        refine cw_skip (hK21 _ _ ?_); clear hK21
        refine cw_cut (γ := ((List (List Int)) × Int) × (SR (GoRep.R (List Int)))) (env := fun ((lchains_j4, count_j4), rchains_j4) => [(0, .v (.slice r_next0.a next0.length r_next0.cap)), (4, .v (.slice r5.a lfollows_1.length r5.cap)), (7, .v (.slice rchains_j4.a lchains_j4.length rchains_j4.cap)), (8, .v (.int .i64 count_j4)), (45, .v (.int .i64 (next0.length : Int))), (46, .v (.int .i64 (t46_2 : Int)))]) (mem := fun ((lchains_j4, count_j4), rchains_j4) => [imm (α := (List Int)) r_next0 next0, trow 4 r5 lfollows_1, trow 22 rchains_j4 lchains_j4]) (R := fun g => circulation_Chains_k4 cont2 t46_2 g.1 = some y) ?_ ?_
        · intro KJ4 hJ4
          refine cw_block ?_
          refine cw_seq fun K22 hK22 => ?_
          refine cw_region ?_
          refine ow_ev ev_move ?_
          refine ow_ev ev_assign ?_
          refine ow_nil (hK22 _ _ ?_); clear hK22
          refine cw_seq fun K23 hK23 => ?_
          refine cw_seq fun K24 hK24 => ?_
          refine cw_region ?_
          refine ow_ev ev_move ?_
          refine ow_ev ev_move ?_
          obtain ⟨x20, hx21, hM⟩ := bind_some hM
          refine ow_ev (ev_idx (xs := lfollows_1) 1 (Kn.trow (e := 4) (r := r5) (by repeat (first | exact Has.head | apply Has.tail))) (fun hg => let h := idx_some hx21; ⟨h.1, h.2.1⟩)) ?_
          refine ow_ev (ev_ld (i := (t46_2 : Int)) (xs := lfollows_1) (y := x20) 0 (Kn.trow (e := 4) (r := r5) (by repeat (first | exact Has.head | apply Has.tail))) (fun _ => hx21)) ?_
          refine ow_nil (hK24 _ _ ?_); clear hK24
          refine cw_cond rfl (fun hc22 => ?_) (fun hc22 => ?_)
          ·
            replace hM := (ite_t hc22).symm.trans hM
            refine cw_exit (hJ4 ((lchains_2, count_2), rchains_2) _ _ hM ⟨rfl, rfl, rfl, rfl, rfl, rfl, trivial⟩ (fun w hm => hm.reord))
          ·
            replace hM := (ite_f hc22).symm.trans hM
            refine cw_skip (hK23 _ _ ?_); clear hK23
            refine cw_seq fun K25 hK25 => ?_
            refine cw_region ?_
            refine ow_ev ev_assign ?_
            refine ow_nil (hK25 _ _ ?_); clear hK25
            refine cw_seq fun K26 hK26 => ?_
            refine cw_seq fun K27 hK27 => ?_
            refine cw_region ?_
            refine ow_ev ev_move ?_
            refine ow_ev ev_assign ?_
            refine ow_nil (hK27 _ _ ?_); clear hK27
            refine cw_block ?_
            refine cw_imp (fun w hm => hm.row_nil (α := Int) 3 (fun _ => ())) ?_
            refine cw_loop (γ := Nat × ((List Int) × Int) × (SR (GoRep.R Int))) (env := fun (_, (lchain_3, a_3), rchain_3) => [(0, .v (.slice r_next0.a next0.length r_next0.cap)), (4, .v (.slice r5.a lfollows_1.length r5.cap)), (7, .v (.slice rchains_2.a lchains_2.length rchains_2.cap)), (8, .v (.int .i64 count_2)), (10, .v (.slice rchain_3.a lchain_3.length rchain_3.cap)), (11, .v (.int .i64 a_3)), (45, .v (.int .i64 (next0.length : Int))), (46, .v (.int .i64 (t46_2 : Int)))]) (mem := fun (_, (lchain_3, a_3), rchain_3) => [imm (α := (List Int)) r_next0 next0, trow 4 r5 lfollows_1, trow 22 rchains_2 lchains_2, trow 3 rchain_3 lchain_3]) (R := fun g => iter (circulation_Chains_b3 next0 lchains_2 count_2 cont2 t46_2) g.1 g.2.1 = some y) (μ := fun g => g.1) (FUEL, (([] : List Int), (t46_2 : Int)), (⟨none, 0, (fun _ => ())⟩ : SR (GoRep.R Int)                                                                                          )) hM ⟨rfl, rfl, rfl, rfl, rfl, rfl, rfl, rfl, trivial⟩ (fun w hm => hm.reord) ?_
            clear hM
            intro g hM KL3 hL3
            obtain ⟨nn3, ⟨lchain_3, a_3⟩, rchain_3⟩ := g
            dsimp only at hM ⊢
            obtain ⟨nn3, cont3, rfl, hcont3, hM⟩ := iter_open' hM
            dsimp only [circulation_Chains_b3] at hM
            refine cw_seq fun K28 hK28 => ?_
            refine cw_seq fun K29 hK29 => ?_
            refine cw_region ?_
            refine ow_ev ev_move ?_
            refine ow_ev ev_neq ?_
            refine ow_nil (hK29 _ _ ?_); clear hK29
            refine cw_cond rfl (fun hc24 => ?_) (fun hc24 => ?_)
            ·
              replace hM := (ite_t hc24).symm.trans hM
              refine cw_skip (hK28 _ _ ?_); clear hK28
              refine cw_seq fun K30 hK30 => ?_
              refine cw_block ?_
              refine cw_region ?_
              refine ow_ev ev_move ?_
              refine ow_ev ev_move ?_
              refine ow_cons (st_bslice (α := Int) 3 (fun _ => ()) ([a_3] : List Int) (OkL.flat (fun _ _ _ _ => trivial)) (fun r25 => ?_))
              obtain ⟨hb26, hM⟩ := chk_some hM
              refine ow_cons (st_append (r := rchain_3) (r2 := r25) (by intro r'; repeat (first | exact Upd.head | apply Upd.tail)) (Kn.trow (e := 3) (r := r25) (by repeat (first | exact Has.head | apply Has.tail))) (OkL.flat (fun _ _ _ _ => trivial)) (of_decide_eq_true hb26) (fun r27 => ?_))
              refine ow_ev ev_assign ?_
              refine ow_nil (hK30 _ _ ?_); clear hK30
              refine cw_region ?_
              refine ow_ev ev_move ?_
              refine ow_ev ev_move ?_
              obtain ⟨x28, hx29, hM⟩ := bind_some hM
              refine ow_ev (ev_idx (xs := next0) 1 (Kn.imm (α := List Int) (r := r_next0) (x := next0) (by repeat (first | exact Has.head | apply Has.tail))) (fun hg => let h := idx_some hx29; ⟨h.1, h.2.1⟩)) ?_
              refine ow_ev (ev_ld (i := a_3) (xs := next0) (y := x28) 0 (Kn.imm (α := List Int) (r := r_next0) (x := next0) (by repeat (first | exact Has.head | apply Has.tail))) (fun _ => hx29)) ?_
              refine ow_ev ev_assign ?_
              refine ow_nil (hL3 (nn3, ((lchain_3 ++ ([a_3] : List Int)), x28), r27) _ _ (eqc hcont3 hM) (Nat.lt_succ_self _) ⟨rfl, rfl, rfl, rfl, rfl, rfl, rfl, rfl, trivial⟩ (fun w hm => hm.reord))
            ·
              replace hM := (ite_f hc24).symm.trans hM
              refine cw_exit (hK26 _ _ ?_); clear hK26
              dsimp only [circulation_Chains_k5] at hM
              refine cw_seq fun K31 hK31 => ?_
              refine cw_region ?_
              refine ow_ev ev_move ?_
              refine ow_ev ev_move ?_
              refine ow_imp (fun w hm => hm.freeze (r := rchain_3) (by repeat (first | exact Upd.head | apply Upd.tail))) ?_
              refine ow_cons (st_bslice (α := List Int) 22 (fun _ => rchain_3) ([lchain_3] : List (List Int)) (OkL.cons (fun S w hs => ((Sk.imm (α := List Int) (r := rchain_3) (x := lchain_3) (by repeat (first | exact Has.head | apply Has.tail))) S w hs)) OkL.nil) (fun r30 => ?_))
              obtain ⟨hb31, hM⟩ := chk_some hM
              refine ow_cons (st_append (r := rchains_2) (r2 := r30) (by intro r'; repeat (first | exact Upd.head | apply Upd.tail)) (Kn.trow (e := 22) (r := r30) (by repeat (first | exact Has.head | apply Has.tail))) (OkL.row (e := 22) (r := r30) (by repeat (first | exact Has.head | apply Has.tail))) (of_decide_eq_true hb31) (fun r32 => ?_))
              refine ow_ev ev_assign ?_
              refine ow_nil (hK31 _ _ ?_); clear hK31
              refine cw_region ?_
              refine ow_ev ev_move ?_
              refine ow_ev ev_move ?_
              refine ow_ev ev_len ?_
              obtain ⟨hI33, hM⟩ := chk_some hM
              refine ow_ev (ev_add (hr := fun hg => i64b_I64 hI33)) ?_
              refine ow_ev ev_assign ?_
              refine ow_nil (hJ4 (((lchains_2 ++ ([lchain_3] : List (List Int))), (count_2 + (lchain_3.length : Int))), r32) _ _ hM ⟨rfl, rfl, rfl, rfl, rfl, rfl, trivial⟩ (fun w hm => hm.reord))
        ·
          clear hM
          intro g hM
          obtain ⟨⟨lchains_j4, count_j4⟩, rchains_j4⟩ := g
          dsimp only at hM ⊢
          dsimp only [circulation_Chains_k4] at hM
          refine cw_region ?_
          refine ow_ev (ev_add (hr := fun _ => by unfold I64; omega)) ?_
          refine ow_ev ev_move ?_
          refine ow_nil (hL2 (nn2, (lchains_j4, count_j4, t46_2 + 1), rchains_j4) _ _ (eqc hcont2 hM) (Nat.lt_succ_self _) ⟨rfl, rfl, rfl, rfl, rfl, rfl, trivial⟩ (fun w hm => hm.reord))
      ·
        replace hM := (ite_f hc19).symm.trans hM
        refine cw_exit (hK18 _ _ ?_); clear hK18
        dsimp only [circulation_Chains_k3] at hM
        refine cw_seq fun K32 hK32 => ?_
        refine cw_seq fun K33 hK33 => ?_
        refine cw_region ?_
        refine ow_ev ev_move ?_
        refine ow_ev ev_move ?_
        refine ow_ev ev_len ?_
        refine ow_ev ev_lss ?_
        refine ow_nil (hK33 _ _ ?_); clear hK33
        refine cw_cond rfl (fun hc34 => ?_) (fun hc34 => ?_)
        ·
          replace hM := (ite_t hc34).symm.trans hM
          refine cw_seq fun K34 hK34 => ?_
          refine cw_region ?_
          refine ow_ev ev_assign ?_
          refine ow_ev ev_assign ?_
          refine ow_nil (hK34 _ _ ?_); clear hK34
          refine cw_imp (fun w hm => hm.row_nil (α := List Int) 22 (fun _ => (⟨none, 0, (fun _ => ())⟩ : SR (GoRep.R Int)))) ?_
          obtain rfl := some_inj hM
          refine cw_ret (kw_retc2 (fun w hm => post_of (⟨none, 0, (fun _ => (⟨none, 0, (fun _ => ())⟩ : SR (GoRep.R Int)))⟩ : SR (GoRep.R (List Int))                                                                                           ) hm rfl))
        ·
          replace hM := (ite_f hc34).symm.trans hM
          refine cw_skip (hK32 _ _ ?_); clear hK32
          refine cw_seq fun K35 hK35 => ?_
          refine cw_region ?_
          refine ow_ev ev_move ?_
          refine ow_ev ev_assign ?_
          refine ow_ev ev_assign ?_
          refine ow_nil (hK35 _ _ ?_); clear hK35
          obtain rfl := some_inj hM
          refine cw_ret (kw_retc2 (fun w hm => post_of rchains_2 hm rfl))

def ref24_Chains_k2 (cont1 : ((List Bool) × Nat) → Option ((List (List Int)) × Int)) (t19_1 : Nat) : (List Bool) → Option ((List (List Int)) × Int) := fun lled_j2 =>
  cont1 (lled_j2, t19_1 + 1)
def ref24_Chains_k4 (cont2 : ((List (List Int)) × Int × Nat) → Option ((List (List Int)) × Int)) (i_2 : Nat) : ((List (List Int)) × Int) → Option ((List (List Int)) × Int) := fun (lout_j4, total_j4) =>
  cont2 (lout_j4, total_j4, i_2 + 1)
def ref24_Chains_k5 (total_2 : Int) (lc_3 : List Int) (lout_2 : List (List Int)) (cont2 : ((List (List Int)) × Int × Nat) → Option ((List (List Int)) × Int)) (i_2 : Nat) : Unit → Option ((List (List Int)) × Int) := fun _ =>
  chk (i64b (total_2 + (lc_3.length : Int))) <|
  chk (decide ((lout_2.length + ([lc_3] : List (List Int)).length) * 24 ≤ 140737488355328)) <|
  ref24_Chains_k4 cont2 i_2 ((lout_2 ++ ([lc_3] : List (List Int))), (total_2 + (lc_3.length : Int)))
def ref24_Chains_b3 (next0 : List Int) (total_2 : Int) (lout_2 : List (List Int)) (cont2 : ((List (List Int)) × Int × Nat) → Option ((List (List Int)) × Int)) (i_2 : Nat) (cont3 : ((List Int) × Int) → Option ((List (List Int)) × Int)) : ((List Int) × Int) → Option ((List (List Int)) × Int) := fun (lc_3, k_3) =>
  if decide (0 ≤ k_3) then
    (chk (decide ((lc_3.length + ([k_3] : List Int).length) * 8 ≤ 140737488355328)) <|
    (idx next0 k_3).bind fun x25 =>
    cont3 ((lc_3 ++ ([k_3] : List Int)), x25))
  else
    (ref24_Chains_k5 total_2 lc_3 lout_2 cont2 i_2 ())
def ref24_Chains_k3 (total_2 : Int) (next0 : List Int) (lout_2 : List (List Int)) : Unit → Option ((List (List Int)) × Int) := fun _ =>
  if decide (total_2 < (next0.length : Int)) then
    (some (([] : List (List Int)), 1))
  else
    (some (lout_2, 0))
def ref24_Chains_b2 (next0 : List Int) (lled_1 : List Bool) (cont2 : ((List (List Int)) × Int × Nat) → Option ((List (List Int)) × Int)) : ((List (List Int)) × Int × Nat) → Option ((List (List Int)) × Int) := fun (lout_2, total_2, i_2) =>
  if decide ((i_2 : Int) < (next0.length : Int)) then
    ((idx lled_1 (i_2 : Int)).bind fun x17 =>
    if x17 then
      (ref24_Chains_k4 cont2 i_2 (lout_2, total_2))
    else
      (iter (ref24_Chains_b3 next0 total_2 lout_2 cont2 i_2) FUEL (([] : List Int), (i_2 : Int))))
  else
    (ref24_Chains_k3 total_2 next0 lout_2 ())
def ref24_Chains_k1 (next0 : List Int) (lled_1 : List Bool) : Unit → Option ((List (List Int)) × Int) := fun _ =>
  iter (ref24_Chains_b2 next0 lled_1) FUEL (([] : List (List Int)), 0, 0)
def ref24_Chains_b1 (next0 : List Int) (cont1 : ((List Bool) × Nat) → Option ((List (List Int)) × Int)) : ((List Bool) × Nat) → Option ((List (List Int)) × Int) := fun (lled_1, t19_1) =>
  if decide ((t19_1 : Int) < (next0.length : Int)) then
    ((idx next0 (t19_1 : Int)).bind fun x6 =>
    if decide (x6 = (-1)) then
      (ref24_Chains_k2 cont1 t19_1 lled_1)
    else
      ((whn (!(decide (x6 < 0) || decide ((next0.length : Int) ≤ x6))) default (idx lled_1 x6)).bind fun x9 =>
      if ((decide (x6 < 0) || decide ((next0.length : Int) ≤ x6)) || x9) then
        (some (([] : List (List Int)), 1))
      else
        ((idx lled_1 x6).bind fun x13 =>
        ref24_Chains_k2 cont1 t19_1 (lled_1.set x6.toNat true))))
  else
    (ref24_Chains_k1 next0 lled_1 ())
def ref24_Chains_m (next0 : List Int) : Option ((List (List Int)) × Int) :=
  if decide (40 < (next0.length : Int)) then
    (some (([] : List (List Int)), 1))
  else
    (iter (ref24_Chains_b1 next0) FUEL ((List.replicate 40 false), 0))
theorem ref24_Chains_spec (S : Soup) (w : World) (next0 : List Int) (r_next0 : GoRep.R (List Int)) (y : (List (List Int)) × Int) (hM : ref24_Chains_m next0 = some y) (hS : ∀ k, S k → k < w.heap.size) (h_next0 : GoRep.ok S w r_next0 next0) :
    Calls Try.prog 42 #[.slice r_next0.a next0.length r_next0.cap] w (Post (β := (GoRep.R (List (List Int)))) S [] (fun g => .tuple #[.slice g.a y.1.length g.cap, .int .i64 y.2]) (fun g => [trow 22 g y.1]) w) := by
  refine calls_cw (args := [_]) Try.func42 rfl ((pre_nil hS).start |>.immP (α := List Int) (r := r_next0) (x := next0) h_next0) rfl ?_
  unfold ref24_Chains_m at hM
  refine cw_seq fun K1 hK1 => ?_
  refine cw_region ?_
  refine ow_ev ev_assign ?_
  refine ow_ev ev_assign ?_
  refine ow_nil (hK1 _ _ ?_); clear hK1
  refine cw_seq fun K2 hK2 => ?_
  refine cw_region ?_
  refine ow_ev ev_move ?_
  refine ow_ev ev_len ?_
  refine ow_ev ev_assign ?_
  refine ow_nil (hK2 _ _ ?_); clear hK2
  refine cw_seq fun K3 hK3 => ?_
  refine cw_seq fun K4 hK4 => ?_
  refine cw_region ?_
  refine ow_ev ev_move ?_
  refine ow_ev ev_gtr ?_
  refine ow_nil (hK4 _ _ ?_); clear hK4
  refine cw_cond rfl (fun hc1 => ?_) (fun hc1 => ?_)
  ·
    replace hM := (ite_t hc1).symm.trans hM
    refine cw_seq fun K5 hK5 => ?_
    refine cw_region ?_
    refine ow_ev ev_assign ?_
    refine ow_ev ev_assign ?_
    refine ow_nil (hK5 _ _ ?_); clear hK5
    refine cw_imp (fun w hm => hm.row_nil (α := List Int) 22 (fun _ => (⟨none, 0, (fun _ => ())⟩ : SR (GoRep.R Int)))) ?_
    obtain rfl := some_inj hM
    refine cw_ret (kw_retc2 (fun w hm => post_of (⟨none, 0, (fun _ => (⟨none, 0, (fun _ => ())⟩ : SR (GoRep.R Int)))⟩ : SR (GoRep.R (List Int)) ) hm rfl))
  ·
    replace hM := (ite_f hc1).symm.trans hM
    refine cw_skip (hK3 _ _ ?_); clear hK3
    refine cw_seq fun K6 hK6 => ?_
    refine cw_region ?_
    refine ow_cons (st_alloc rfl (k := fun b3 => ?_))
    refine ow_imp (fun w hm => hm.arr (α := Bool) (b := b3) (T := 100) (m := 40) (x0 := false) (rz := ()) rfl (fun _ _ => trivial) (by decide) (by repeat (first | exact Upd.head | apply Upd.tail))) ?_
    refine ow_nil (hK6 _ _ ?_); clear hK6
    refine cw_seq fun K7 hK7 => ?_
    refine cw_seq fun K8 hK8 => ?_
    refine cw_region ?_
    refine ow_ev ev_move ?_
    refine ow_have (fun w hm => Kn.len (Kn.imm (α := List Int) (r := r_next0) (x := next0) (by repeat (first | exact Has.head | apply Has.tail))) hm) fun hl4 => ?_
    refine ow_ev ev_len ?_
    refine ow_ev ev_move ?_
    refine ow_nil (hK8 _ _ ?_); clear hK8
    refine cw_block ?_
    refine cw_loop (γ := Nat × ((List Bool) × Nat) × Unit) (env := fun (_, (lled_1, t19_1), _) => [(0, .v (.slice r_next0.a next0.length r_next0.cap)), (4, .v (.int .i64 (next0.length : Int))), (5, .v (.pointer (some ⟨b3, 0, none⟩))), (17, .v (.slice r_next0.a next0.length r_next0.cap)), (18, .v (.int .i64 (next0.length : Int))), (19, .v (.int .i64 (t19_1 : Int)))]) (mem := fun (_, (lled_1, t19_1), _) => [imm (α := (List Int)) r_next0 next0, trow 100 (⟨some ⟨b3, 0, none⟩, 40, fun _ => ()⟩ : SR (GoRep.R Bool)) lled_1]) (R := fun g => iter (ref24_Chains_b1 next0) g.1 g.2.1 = some y) (μ := fun g => g.1) (FUEL, ((List.replicate 40 false), 0), ()) hM ⟨rfl, rfl, rfl, rfl, rfl, rfl, trivial⟩ (fun w hm => hm.reord) ?_
    clear hM
    intro g hM KL1 hL1
    obtain ⟨nn1, ⟨lled_1, t19_1⟩, ⟨⟩⟩ := g
    dsimp only at hM ⊢
    obtain ⟨nn1, cont1, rfl, hcont1, hM⟩ := iter_open' hM
    dsimp only [ref24_Chains_b1] at hM
    refine cw_seq fun K9 hK9 => ?_
    refine cw_region ?_
    refine ow_ev ev_lss ?_
    refine ow_nil (hK9 _ _ ?_); clear hK9
    refine cw_seq fun K10 hK10 => ?_
    refine cw_cond rfl (fun hc5 => ?_) (fun hc5 => ?_)
    ·
      replace hM := (ite_t hc5).symm.trans hM
      have hc5d := of_decide_eq_true hc5
      refine cw_skip (hK10 _ _ ?_); clear hK10
      refine cw_cut (γ := (List Bool) × Unit) (env := fun (lled_j2, _) => [(0, .v (.slice r_next0.a next0.length r_next0.cap)), (4, .v (.int .i64 (next0.length : Int))), (5, .v (.pointer (some ⟨b3, 0, none⟩))), (17, .v (.slice r_next0.a next0.length r_next0.cap)), (18, .v (.int .i64 (next0.length : Int))), (19, .v (.int .i64 (t19_1 : Int)))]) (mem := fun (lled_j2, _) => [imm (α := (List Int)) r_next0 next0, trow 100 (⟨some ⟨b3, 0, none⟩, 40, fun _ => ()⟩ : SR (GoRep.R Bool)) lled_j2]) (R := fun g => ref24_Chains_k2 cont1 t19_1 g.1 = some y) ?_ ?_
      · intro KJ2 hJ2
        refine cw_block ?_
        refine cw_seq fun K11 hK11 => ?_
        refine cw_region ?_
        obtain ⟨x6, hx7, hM⟩ := bind_some hM
        refine ow_ev (ev_idx (xs := next0) 1 (Kn.imm (α := List Int) (r := r_next0) (x := next0) (by repeat (first | exact Has.head | apply Has.tail))) (fun hg => let h := idx_some hx7; ⟨h.1, h.2.1⟩)) ?_
        refine ow_ev (ev_ld (i := (t19_1 : Int)) (xs := next0) (y := x6) 0 (Kn.imm (α := List Int) (r := r_next0) (x := next0) (by repeat (first | exact Has.head | apply Has.tail))) (fun _ => hx7)) ?_
        refine ow_ev ev_assign ?_
        refine ow_nil (hK11 _ _ ?_); clear hK11
        refine cw_seq fun K12 hK12 => ?_
        refine cw_seq fun K13 hK13 => ?_
        refine cw_region ?_
        refine ow_ev ev_move ?_
        refine ow_ev ev_eql ?_
        refine ow_nil (hK13 _ _ ?_); clear hK13
        refine cw_cond rfl (fun hc8 => ?_) (fun hc8 => ?_)
        ·
          replace hM := (ite_t hc8).symm.trans hM
          refine cw_exit (hJ2 (lled_1, ()) _ _ hM ⟨rfl, rfl, rfl, rfl, rfl, rfl, trivial⟩ (fun w hm => hm.reord))
        ·
          replace hM := (ite_f hc8).symm.trans hM
          refine cw_skip (hK12 _ _ ?_); clear hK12
          refine cw_seq fun K14 hK14 => ?_
          refine cw_seq fun K15 hK15 => ?_
          refine cw_region ?_
          refine ow_ev ev_move ?_
          refine ow_ev ev_lss ?_
          refine ow_ev ev_move ?_
          refine ow_evg rfl ev_move ?_
          refine ow_evg rfl ev_move ?_
          refine ow_evg rfl ev_geq ?_
          refine ow_ev ev_or ?_
          refine ow_ev ev_move ?_
          refine ow_evg rfl ev_move ?_
          obtain ⟨x9, hx10, hM⟩ := bind_some hM
          refine ow_evg rfl (ev_aidx (r := (⟨some ⟨b3, 0, none⟩, 40, fun _ => ()⟩ : SR (GoRep.R Bool))) (xs := lled_1) 1 (Kn.trow (e := 100) (r := (⟨some ⟨b3, 0, none⟩, 40, fun _ => ()⟩ : SR (GoRep.R Bool))) (by repeat (first | exact Has.head | apply Has.tail))) (fun hg => let h := idx_some (whn_some hx10 hg); ⟨h.1, h.2.1⟩)) ?_
          refine ow_evg rfl (ev_ld (i := x6) (xs := lled_1) (y := x9) 0 (Kn.trow (e := 100) (r := (⟨some ⟨b3, 0, none⟩, 40, fun _ => ()⟩ : SR (GoRep.R Bool))) (by repeat (first | exact Has.head | apply Has.tail))) (fun hg => whn_some hx10 hg)) ?_
          refine ow_ev ev_or ?_
          refine ow_nil (hK15 _ _ ?_); clear hK15
          refine cw_cond rfl (fun hc11 => ?_) (fun hc11 => ?_)
          ·
            replace hM := (ite_t hc11).symm.trans hM
            refine cw_seq fun K16 hK16 => ?_
            refine cw_region ?_
            refine ow_ev ev_assign ?_
            refine ow_ev ev_assign ?_
            refine ow_nil (hK16 _ _ ?_); clear hK16
            refine cw_imp (fun w hm => hm.row_nil (α := List Int) 22 (fun _ => (⟨none, 0, (fun _ => ())⟩ : SR (GoRep.R Int)))) ?_
            obtain rfl := some_inj hM
            refine cw_ret (kw_retc2 (fun w hm => post_of (⟨none, 0, (fun _ => (⟨none, 0, (fun _ => ())⟩ : SR (GoRep.R Int)))⟩ : SR (GoRep.R (List Int))                                                                           ) hm rfl))
          ·
            replace hM := (ite_f hc11).symm.trans hM
            refine cw_skip (hK14 _ _ ?_); clear hK14
            refine cw_region ?_
            refine ow_ev ev_move ?_
            obtain ⟨x13, hx14, hM⟩ := bind_some hM
            refine ow_ev (ev_aidx (r := (⟨some ⟨b3, 0, none⟩, 40, fun _ => ()⟩ : SR (GoRep.R Bool))) (xs := lled_1) 1 (Kn.trow (e := 100) (r := (⟨some ⟨b3, 0, none⟩, 40, fun _ => ()⟩ : SR (GoRep.R Bool))) (by repeat (first | exact Has.head | apply Has.tail))) (fun hg => let h := idx_some hx14; ⟨h.1, h.2.1⟩)) ?_
            refine ow_cons (st_set (r := (⟨some ⟨b3, 0, none⟩, 40, fun _ => ()⟩ : SR (GoRep.R Bool))) (i := x6) (xs := lled_1) (u := x13) (vs := [.bool true]) 0 true hx14 rfl (fun _ _ h => h) (by repeat (first | exact Upd.head | apply Upd.tail)) ?_)
            refine ow_nil (hJ2 ((lled_1.set x6.toNat true), ()) _ _ hM ⟨rfl, rfl, rfl, rfl, rfl, rfl, trivial⟩ (fun w hm => hm.reord))
      ·
        clear hM
        intro g hM
        obtain ⟨lled_j2, ⟨⟩⟩ := g
        dsimp only at hM ⊢
        dsimp only [ref24_Chains_k2] at hM
        refine cw_region ?_
        refine ow_ev (ev_add (hr := fun _ => by unfold I64; omega)) ?_
        refine ow_ev ev_move ?_
        refine ow_nil (hL1 (nn1, (lled_j2, t19_1 + 1), ()) _ _ (eqc hcont1 hM) (Nat.lt_succ_self _) ⟨rfl, rfl, rfl, rfl, rfl, rfl, trivial⟩ (fun w hm => hm.reord))
    ·
      replace hM := (ite_f hc5).symm.trans hM
      refine cw_exit (hK7 _ _ ?_); clear hK7
      dsimp only [ref24_Chains_k1] at hM
      refine cw_seq fun K17 hK17 => ?_
      refine cw_region ?_
      refine ow_ev ev_assign ?_
      refine ow_nil (hK17 _ _ ?_); clear hK17
      refine cw_seq fun K18 hK18 => ?_
      refine cw_region ?_
      refine ow_ev ev_assign ?_
      refine ow_nil (hK18 _ _ ?_); clear hK18
      refine cw_seq fun K19 hK19 => ?_
      refine cw_seq fun K20 hK20 => ?_
      refine cw_region ?_
      refine ow_ev ev_assign ?_
      refine ow_nil (hK20 _ _ ?_); clear hK20
      refine cw_block ?_
      refine cw_imp (fun w hm => hm.row_nil (α := List Int) 22 (fun _ => (⟨none, 0, (fun _ => ())⟩ : SR (GoRep.R Int)))) ?_
      refine cw_loop (γ := Nat × ((List (List Int)) × Int × Nat) × (SR (GoRep.R (List Int)))) (env := fun (_, (lout_2, total_2, i_2), rout_2) => [(0, .v (.slice r_next0.a next0.length r_next0.cap)), (4, .v (.int .i64 (next0.length : Int))), (5, .v (.pointer (some ⟨b3, 0, none⟩))), (8, .v (.slice rout_2.a lout_2.length rout_2.cap)), (9, .v (.int .i64 total_2)), (10, .v (.int .i64 (i_2 : Int)))]) (mem := fun (_, (lout_2, total_2, i_2), rout_2) => [imm (α := (List Int)) r_next0 next0, trow 100 (⟨some ⟨b3, 0, none⟩, 40, fun _ => ()⟩ : SR (GoRep.R Bool)) lled_1, trow 22 rout_2 lout_2]) (R := fun g => iter (ref24_Chains_b2 next0 lled_1) g.1 g.2.1 = some y) (μ := fun g => g.1) (FUEL, (([] : List (List Int)), 0, 0), (⟨none, 0, (fun _ => (⟨none, 0, (fun _ => ())⟩ : SR (GoRep.R Int)))⟩ : SR (GoRep.R (List Int))                                                                            )) hM ⟨rfl, rfl, rfl, rfl, rfl, rfl, trivial⟩ (fun w hm => hm.reord) ?_
      clear hM
      intro g hM KL2 hL2
      obtain ⟨nn2, ⟨lout_2, total_2, i_2⟩, rout_2⟩ := g
      dsimp only at hM ⊢
      obtain ⟨nn2, cont2, rfl, hcont2, hM⟩ := iter_open' hM
      dsimp only [ref24_Chains_b2] at hM
      refine cw_seq fun K21 hK21 => ?_
      refine cw_seq fun K22 hK22 => ?_
      refine cw_region ?_
      refine ow_ev ev_move ?_
      refine ow_ev ev_move ?_
      refine ow_ev ev_lss ?_
      refine ow_nil (hK22 _ _ ?_); clear hK22
      refine cw_cond rfl (fun hc16 => ?_) (fun hc16 => ?_)
      ·
        replace hM := (ite_t hc16).symm.trans hM
        have hc16d := of_decide_eq_true hc16
        refine cw_skip (hK21 _ _ ?_); clear hK21
        refine cw_cut (γ := ((List (List Int)) × Int) × (SR (GoRep.R (List Int)))) (env := fun ((lout_j4, total_j4), rout_j4) => [(0, .v (.slice r_next0.a next0.length r_next0.cap)), (4, .v (.int .i64 (next0.length : Int))), (5, .v (.pointer (some ⟨b3, 0, none⟩))), (8, .v (.slice rout_j4.a lout_j4.length rout_j4.cap)), (9, .v (.int .i64 total_j4)), (10, .v (.int .i64 (i_2 : Int)))]) (mem := fun ((lout_j4, total_j4), rout_j4) => [imm (α := (List Int)) r_next0 next0, trow 100 (⟨some ⟨b3, 0, none⟩, 40, fun _ => ()⟩ : SR (GoRep.R Bool)) lled_1, trow 22 rout_j4 lout_j4]) (R := fun g => ref24_Chains_k4 cont2 i_2 g.1 = some y) ?_ ?_
        · intro KJ4 hJ4
          refine cw_block ?_
          refine cw_seq fun K23 hK23 => ?_
          refine cw_seq fun K24 hK24 => ?_
          refine cw_region ?_
          refine ow_ev ev_move ?_
          obtain ⟨x17, hx18, hM⟩ := bind_some hM
          refine ow_ev (ev_aidx (r := (⟨some ⟨b3, 0, none⟩, 40, fun _ => ()⟩ : SR (GoRep.R Bool))) (xs := lled_1) 1 (Kn.trow (e := 100) (r := (⟨some ⟨b3, 0, none⟩, 40, fun _ => ()⟩ : SR (GoRep.R Bool))) (by repeat (first | exact Has.head | apply Has.tail))) (fun hg => let h := idx_some hx18; ⟨h.1, h.2.1⟩)) ?_
          refine ow_ev (ev_ld (i := (i_2 : Int)) (xs := lled_1) (y := x17) 0 (Kn.trow (e := 100) (r := (⟨some ⟨b3, 0, none⟩, 40, fun _ => ()⟩ : SR (GoRep.R Bool))) (by repeat (first | exact Has.head | apply Has.tail))) (fun _ => hx18)) ?_
          refine ow_nil (hK24 _ _ ?_); clear hK24
          refine cw_cond rfl (fun hc19 => ?_) (fun hc19 => ?_)
          ·
            replace hM := (ite_t hc19).symm.trans hM
            refine cw_exit (hJ4 ((lout_2, total_2), rout_2) _ _ hM ⟨rfl, rfl, rfl, rfl, rfl, rfl, trivial⟩ (fun w hm => hm.reord))
          ·
            replace hM := (ite_f hc19).symm.trans hM
            refine cw_skip (hK23 _ _ ?_); clear hK23
            refine cw_seq fun K25 hK25 => ?_
            refine cw_region ?_
            refine ow_ev ev_assign ?_
            refine ow_nil (hK25 _ _ ?_); clear hK25
            refine cw_seq fun K26 hK26 => ?_
            refine cw_seq fun K27 hK27 => ?_
            refine cw_region ?_
            refine ow_ev ev_move ?_
            refine ow_ev ev_assign ?_
            refine ow_nil (hK27 _ _ ?_); clear hK27
            refine cw_block ?_
            refine cw_imp (fun w hm => hm.row_nil (α := Int) 3 (fun _ => ())) ?_
            refine cw_loop (γ := Nat × ((List Int) × Int) × (SR (GoRep.R Int))) (env := fun (_, (lc_3, k_3), rc_3) => [(0, .v (.slice r_next0.a next0.length r_next0.cap)), (4, .v (.int .i64 (next0.length : Int))), (5, .v (.pointer (some ⟨b3, 0, none⟩))), (8, .v (.slice rout_2.a lout_2.length rout_2.cap)), (9, .v (.int .i64 total_2)), (10, .v (.int .i64 (i_2 : Int))), (11, .v (.slice rc_3.a lc_3.length rc_3.cap)), (12, .v (.int .i64 k_3))]) (mem := fun (_, (lc_3, k_3), rc_3) => [imm (α := (List Int)) r_next0 next0, trow 100 (⟨some ⟨b3, 0, none⟩, 40, fun _ => ()⟩ : SR (GoRep.R Bool)) lled_1, trow 22 rout_2 lout_2, trow 3 rc_3 lc_3]) (R := fun g => iter (ref24_Chains_b3 next0 total_2 lout_2 cont2 i_2) g.1 g.2.1 = some y) (μ := fun g => g.1) (FUEL, (([] : List Int), (i_2 : Int)), (⟨none, 0, (fun _ => ())⟩ : SR (GoRep.R Int)                                                                                          )) hM ⟨rfl, rfl, rfl, rfl, rfl, rfl, rfl, rfl, trivial⟩ (fun w hm => hm.reord) ?_
            clear hM
            intro g hM KL3 hL3
            obtain ⟨nn3, ⟨lc_3, k_3⟩, rc_3⟩ := g
            dsimp only at hM ⊢
            obtain ⟨nn3, cont3, rfl, hcont3, hM⟩ := iter_open' hM
            dsimp only [ref24_Chains_b3] at hM
            refine cw_seq fun K28 hK28 => ?_
            refine cw_seq fun K29 hK29 => ?_
            refine cw_region ?_
            refine ow_ev ev_move ?_
            refine ow_ev ev_geq ?_
            refine ow_nil (hK29 _ _ ?_); clear hK29
            refine cw_cond rfl (fun hc21 => ?_) (fun hc21 => ?_)
            ·
              replace hM := (ite_t hc21).symm.trans hM
              refine cw_skip (hK28 _ _ ?_); clear hK28
              refine cw_seq fun K30 hK30 => ?_
              refine cw_block ?_
              refine cw_region ?_
              refine ow_ev ev_move ?_
              refine ow_ev ev_move ?_
              refine ow_cons (st_bslice (α := Int) 3 (fun _ => ()) ([k_3] : List Int) (OkL.flat (fun _ _ _ _ => trivial)) (fun r22 => ?_))
              obtain ⟨hb23, hM⟩ := chk_some hM
              refine ow_cons (st_append (r := rc_3) (r2 := r22) (by intro r'; repeat (first | exact Upd.head | apply Upd.tail)) (Kn.trow (e := 3) (r := r22) (by repeat (first | exact Has.head | apply Has.tail))) (OkL.flat (fun _ _ _ _ => trivial)) (of_decide_eq_true hb23) (fun r24 => ?_))
              refine ow_ev ev_assign ?_
              refine ow_nil (hK30 _ _ ?_); clear hK30
              refine cw_region ?_
              refine ow_ev ev_move ?_
              refine ow_ev ev_move ?_
              obtain ⟨x25, hx26, hM⟩ := bind_some hM
              refine ow_ev (ev_idx (xs := next0) 1 (Kn.imm (α := List Int) (r := r_next0) (x := next0) (by repeat (first | exact Has.head | apply Has.tail))) (fun hg => let h := idx_some hx26; ⟨h.1, h.2.1⟩)) ?_
              refine ow_ev (ev_ld (i := k_3) (xs := next0) (y := x25) 0 (Kn.imm (α := List Int) (r := r_next0) (x := next0) (by repeat (first | exact Has.head | apply Has.tail))) (fun _ => hx26)) ?_
              refine ow_ev ev_assign ?_
              refine ow_nil (hL3 (nn3, ((lc_3 ++ ([k_3] : List Int)), x25), r24) _ _ (eqc hcont3 hM) (Nat.lt_succ_self _) ⟨rfl, rfl, rfl, rfl, rfl, rfl, rfl, rfl, trivial⟩ (fun w hm => hm.reord))
            ·
              replace hM := (ite_f hc21).symm.trans hM
              refine cw_exit (hK26 _ _ ?_); clear hK26
              dsimp only [ref24_Chains_k5] at hM
              refine cw_seq fun K31 hK31 => ?_
              refine cw_region ?_
              refine ow_ev ev_move ?_
              refine ow_ev ev_move ?_
              refine ow_ev ev_len ?_
              obtain ⟨hI27, hM⟩ := chk_some hM
              refine ow_ev (ev_add (hr := fun hg => i64b_I64 hI27)) ?_
              refine ow_ev ev_assign ?_
              refine ow_nil (hK31 _ _ ?_); clear hK31
              refine cw_region ?_
              refine ow_ev ev_move ?_
              refine ow_ev ev_move ?_
              refine ow_imp (fun w hm => hm.freeze (r := rc_3) (by repeat (first | exact Upd.head | apply Upd.tail))) ?_
              refine ow_cons (st_bslice (α := List Int) 22 (fun _ => rc_3) ([lc_3] : List (List Int)) (OkL.cons (fun S w hs => ((Sk.imm (α := List Int) (r := rc_3) (x := lc_3) (by repeat (first | exact Has.head | apply Has.tail))) S w hs)) OkL.nil) (fun r28 => ?_))
              obtain ⟨hb29, hM⟩ := chk_some hM
              refine ow_cons (st_append (r := rout_2) (r2 := r28) (by intro r'; repeat (first | exact Upd.head | apply Upd.tail)) (Kn.trow (e := 22) (r := r28) (by repeat (first | exact Has.head | apply Has.tail))) (OkL.row (e := 22) (r := r28) (by repeat (first | exact Has.head | apply Has.tail))) (of_decide_eq_true hb29) (fun r30 => ?_))
              refine ow_ev ev_assign ?_
              refine ow_nil (hJ4 (((lout_2 ++ ([lc_3] : List (List Int))), (total_2 + (lc_3.length : Int))), r30) _ _ hM ⟨rfl, rfl, rfl, rfl, rfl, rfl, trivial⟩ (fun w hm => hm.reord))
        ·
          clear hM
          intro g hM
          obtain ⟨⟨lout_j4, total_j4⟩, rout_j4⟩ := g
          dsimp only at hM ⊢
          dsimp only [ref24_Chains_k4] at hM
          refine cw_region ?_
          refine ow_ev ev_move ?_
          refine ow_ev (ev_add (hr := fun _ => by unfold I64; omega)) ?_
          refine ow_ev ev_assign ?_
          refine ow_nil (hL2 (nn2, (lout_j4, total_j4, i_2 + 1), rout_j4) _ _ (eqc hcont2 hM) (Nat.lt_succ_self _) ⟨rfl, rfl, rfl, rfl, rfl, rfl, trivial⟩ (fun w hm => hm.reord))
      ·
        replace hM := (ite_f hc16).symm.trans hM
        refine cw_exit (hK19 _ _ ?_); clear hK19
        dsimp only [ref24_Chains_k3] at hM
        refine cw_seq fun K32 hK32 => ?_
        refine cw_seq fun K33 hK33 => ?_
        refine cw_region ?_
        refine ow_ev ev_move ?_
        refine ow_ev ev_move ?_
        refine ow_ev ev_lss ?_
        refine ow_nil (hK33 _ _ ?_); clear hK33
        refine cw_cond rfl (fun hc31 => ?_) (fun hc31 => ?_)
        ·
          replace hM := (ite_t hc31).symm.trans hM
          refine cw_seq fun K34 hK34 => ?_
          refine cw_region ?_
          refine ow_ev ev_assign ?_
          refine ow_ev ev_assign ?_
          refine ow_nil (hK34 _ _ ?_); clear hK34
          refine cw_imp (fun w hm => hm.row_nil (α := List Int) 22 (fun _ => (⟨none, 0, (fun _ => ())⟩ : SR (GoRep.R Int)))) ?_
          obtain rfl := some_inj hM
          refine cw_ret (kw_retc2 (fun w hm => post_of (⟨none, 0, (fun _ => (⟨none, 0, (fun _ => ())⟩ : SR (GoRep.R Int)))⟩ : SR (GoRep.R (List Int))                                                                                           ) hm rfl))
        ·
          replace hM := (ite_f hc31).symm.trans hM
          refine cw_skip (hK32 _ _ ?_); clear hK32
          refine cw_seq fun K35 hK35 => ?_
          refine cw_region ?_
          refine ow_ev ev_move ?_
          refine ow_ev ev_assign ?_
          refine ow_ev ev_assign ?_
          refine ow_nil (hK35 _ _ ?_); clear hK35
          obtain rfl := some_inj hM
          refine cw_ret (kw_retc2 (fun w hm => post_of rout_2 hm rfl))

def ref24_Circulation_k2 (cont1 : ((List Bool) × Nat) → Option Bool) (t19_1 : Nat) : (List Bool) → Option Bool := fun lseen_j2 =>
  cont1 (lseen_j2, t19_1 + 1)
def ref24_Circulation_k1 : Unit → Option Bool := fun _ =>
  some true
def ref24_Circulation_b1 (next0 : List Int) (tasks0 : List Task) (r0 : Rules) (cont1 : ((List Bool) × Nat) → Option Bool) : ((List Bool) × Nat) → Option Bool := fun (lseen_1, t19_1) =>
  if decide ((t19_1 : Int) < (next0.length : Int)) then
    ((idx next0 (t19_1 : Int)).bind fun x6 =>
    if decide (x6 = (-1)) then
      (ref24_Circulation_k2 cont1 t19_1 lseen_1)
    else
      ((whn (!(decide (x6 < 0) || decide ((tasks0.length : Int) ≤ x6))) default (idx lseen_1 x6)).bind fun x9 =>
      if ((decide (x6 < 0) || decide ((tasks0.length : Int) ≤ x6)) || x9) then
        (some false)
      else
        ((idx lseen_1 x6).bind fun x12 =>
        (idx tasks0 (t19_1 : Int)).bind fun x14 =>
        (idx tasks0 x6).bind fun x16 =>
        (ref24_Follows_m r0 x14 x16).bind fun y18 =>
        if (!y18.2) then
          (some false)
        else
          (ref24_Circulation_k2 cont1 t19_1 (lseen_1.set x6.toNat true)))))
  else
    (ref24_Circulation_k1 ())
def ref24_Circulation_m (tasks0 : List Task) (r0 : Rules) (next0 : List Int) : Option Bool :=
  if decide ((next0.length : Int) ≠ (tasks0.length : Int)) then
    (some false)
  else
    (iter (ref24_Circulation_b1 next0 tasks0 r0) FUEL ((List.replicate 40 false), 0))
theorem ref24_Circulation_spec (S : Soup) (w : World) (tasks0 : List Task) (r_tasks0 : GoRep.R (List Task)) (r0 : Rules) (r_r0 : GoRep.R Rules) (next0 : List Int) (r_next0 : GoRep.R (List Int)) (y : Bool) (hM : ref24_Circulation_m tasks0 r0 next0 = some y) (hS : ∀ k, S k → k < w.heap.size) (h_tasks0 : GoRep.ok S w r_tasks0 tasks0) (h_r0 : GoRep.ok S w r_r0 r0) (h_next0 : GoRep.ok S w r_next0 next0) :
    Calls Try.prog 67 #[.slice r_tasks0.a tasks0.length r_tasks0.cap, .agg #[.int .i64 r0.Turn, .slice r_r0.1.a r0.Empties.length r_r0.1.cap, .slice r_r0.2.a r0.Shops.length r_r0.2.cap, .int .i64 r0.Service, .int .i64 r0.Limit], .slice r_next0.a next0.length r_next0.cap] w (Ret w (.bool y)) := by
  refine calls_cw (args := [_, _, _]) Try.func67 rfl ((pre_nil hS).start |>.immP (α := List Task) (r := r_tasks0) (x := tasks0) h_tasks0|>.immP (α := List EmptyT) (r := r_r0.1) (x := r0.Empties) h_r0.1|>.immP (α := List Int) (r := r_r0.2) (x := r0.Shops) h_r0.2|>.immP (α := List Int) (r := r_next0) (x := next0) h_next0) rfl ?_
  unfold ref24_Circulation_m at hM
  refine cw_seq fun K1 hK1 => ?_
  refine cw_region ?_
  refine ow_cons (st_box (l := [.int .i64 r0.Turn, .slice r_r0.1.a r0.Empties.length r_r0.1.cap, .slice r_r0.2.a r0.Shops.length r_r0.2.cap, .int .i64 r0.Service, .int .i64 r0.Limit]) (k := fun b1 => ?_))
  refine ow_ev ev_assign ?_
  refine ow_nil (hK1 _ _ ?_); clear hK1
  refine cw_seq fun K2 hK2 => ?_
  refine cw_seq fun K3 hK3 => ?_
  refine cw_region ?_
  refine ow_ev ev_move ?_
  refine ow_ev ev_len ?_
  refine ow_ev ev_move ?_
  refine ow_ev ev_len ?_
  refine ow_ev ev_neq ?_
  refine ow_nil (hK3 _ _ ?_); clear hK3
  refine cw_cond rfl (fun hc2 => ?_) (fun hc2 => ?_)
  ·
    replace hM := (ite_t hc2).symm.trans hM
    refine cw_seq fun K4 hK4 => ?_
    refine cw_region ?_
    refine ow_ev ev_assign ?_
    refine ow_nil (hK4 _ _ ?_); clear hK4
    obtain rfl := some_inj hM
    refine cw_ret (kw_retc1 (fun w hm => ret_of hm rfl))
  ·
    replace hM := (ite_f hc2).symm.trans hM
    refine cw_skip (hK2 _ _ ?_); clear hK2
    refine cw_seq fun K5 hK5 => ?_
    refine cw_region ?_
    refine ow_cons (st_alloc rfl (k := fun b3 => ?_))
    refine ow_imp (fun w hm => hm.arr (α := Bool) (b := b3) (T := 100) (m := 40) (x0 := false) (rz := ()) rfl (fun _ _ => trivial) (by decide) (by repeat (first | exact Upd.head | apply Upd.tail))) ?_
    refine ow_nil (hK5 _ _ ?_); clear hK5
    refine cw_seq fun K6 hK6 => ?_
    refine cw_seq fun K7 hK7 => ?_
    refine cw_region ?_
    refine ow_ev ev_move ?_
    refine ow_have (fun w hm => Kn.len (Kn.imm (α := List Int) (r := r_next0) (x := next0) (by repeat (first | exact Has.head | apply Has.tail))) hm) fun hl4 => ?_
    refine ow_ev ev_len ?_
    refine ow_ev ev_move ?_
    refine ow_nil (hK7 _ _ ?_); clear hK7
    refine cw_block ?_
    refine cw_loop (γ := Nat × ((List Bool) × Nat) × Unit) (env := fun (_, (lseen_1, t19_1), _) => [(0, .v (.slice r_tasks0.a tasks0.length r_tasks0.cap)), (4, .v (.pointer (some ⟨b1, 0, none⟩))), (7, .v (.pointer (some ⟨b3, 0, none⟩))), (17, .v (.slice r_next0.a next0.length r_next0.cap)), (18, .v (.int .i64 (next0.length : Int))), (19, .v (.int .i64 (t19_1 : Int)))]) (mem := fun (_, (lseen_1, t19_1), _) => [imm (α := (List Task)) r_tasks0 tasks0, imm (α := (List EmptyT)) r_r0.1 r0.Empties, imm (α := (List Int)) r_r0.2 r0.Shops, own b1 53 [.int .i64 r0.Turn, .slice r_r0.1.a r0.Empties.length r_r0.1.cap, .slice r_r0.2.a r0.Shops.length r_r0.2.cap, .int .i64 r0.Service, .int .i64 r0.Limit], trow 100 (⟨some ⟨b3, 0, none⟩, 40, fun _ => ()⟩ : SR (GoRep.R Bool)) lseen_1, imm (α := (List Int)) r_next0 next0]) (R := fun g => iter (ref24_Circulation_b1 next0 tasks0 r0) g.1 g.2.1 = some y) (μ := fun g => g.1) (FUEL, ((List.replicate 40 false), 0), ()) hM ⟨rfl, rfl, rfl, rfl, rfl, rfl, trivial⟩ (fun w hm => hm.reord) ?_
    clear hM
    intro g hM KL1 hL1
    obtain ⟨nn1, ⟨lseen_1, t19_1⟩, ⟨⟩⟩ := g
    dsimp only at hM ⊢
    obtain ⟨nn1, cont1, rfl, hcont1, hM⟩ := iter_open' hM
    dsimp only [ref24_Circulation_b1] at hM
    refine cw_seq fun K8 hK8 => ?_
    refine cw_region ?_
    refine ow_ev ev_lss ?_
    refine ow_nil (hK8 _ _ ?_); clear hK8
    refine cw_seq fun K9 hK9 => ?_
    refine cw_cond rfl (fun hc5 => ?_) (fun hc5 => ?_)
    ·
      replace hM := (ite_t hc5).symm.trans hM
      have hc5d := of_decide_eq_true hc5
      refine cw_skip (hK9 _ _ ?_); clear hK9
      refine cw_cut (γ := (List Bool) × Unit) (env := fun (lseen_j2, _) => [(0, .v (.slice r_tasks0.a tasks0.length r_tasks0.cap)), (4, .v (.pointer (some ⟨b1, 0, none⟩))), (7, .v (.pointer (some ⟨b3, 0, none⟩))), (17, .v (.slice r_next0.a next0.length r_next0.cap)), (18, .v (.int .i64 (next0.length : Int))), (19, .v (.int .i64 (t19_1 : Int)))]) (mem := fun (lseen_j2, _) => [imm (α := (List Task)) r_tasks0 tasks0, imm (α := (List EmptyT)) r_r0.1 r0.Empties, imm (α := (List Int)) r_r0.2 r0.Shops, own b1 53 [.int .i64 r0.Turn, .slice r_r0.1.a r0.Empties.length r_r0.1.cap, .slice r_r0.2.a r0.Shops.length r_r0.2.cap, .int .i64 r0.Service, .int .i64 r0.Limit], trow 100 (⟨some ⟨b3, 0, none⟩, 40, fun _ => ()⟩ : SR (GoRep.R Bool)) lseen_j2, imm (α := (List Int)) r_next0 next0]) (R := fun g => ref24_Circulation_k2 cont1 t19_1 g.1 = some y) ?_ ?_
      · intro KJ2 hJ2
        refine cw_block ?_
        refine cw_seq fun K10 hK10 => ?_
        refine cw_region ?_
        refine ow_ev ev_move ?_
        obtain ⟨x6, hx7, hM⟩ := bind_some hM
        refine ow_ev (ev_idx (xs := next0) 1 (Kn.imm (α := List Int) (r := r_next0) (x := next0) (by repeat (first | exact Has.head | apply Has.tail))) (fun hg => let h := idx_some hx7; ⟨h.1, h.2.1⟩)) ?_
        refine ow_ev (ev_ld (i := (t19_1 : Int)) (xs := next0) (y := x6) 0 (Kn.imm (α := List Int) (r := r_next0) (x := next0) (by repeat (first | exact Has.head | apply Has.tail))) (fun _ => hx7)) ?_
        refine ow_ev ev_assign ?_
        refine ow_ev ev_assign ?_
        refine ow_nil (hK10 _ _ ?_); clear hK10
        refine cw_seq fun K11 hK11 => ?_
        refine cw_seq fun K12 hK12 => ?_
        refine cw_region ?_
        refine ow_ev ev_move ?_
        refine ow_ev ev_eql ?_
        refine ow_nil (hK12 _ _ ?_); clear hK12
        refine cw_cond rfl (fun hc8 => ?_) (fun hc8 => ?_)
        ·
          replace hM := (ite_t hc8).symm.trans hM
          refine cw_exit (hJ2 (lseen_1, ()) _ _ hM ⟨rfl, rfl, rfl, rfl, rfl, rfl, trivial⟩ (fun w hm => hm.reord))
        ·
          replace hM := (ite_f hc8).symm.trans hM
          refine cw_skip (hK11 _ _ ?_); clear hK11
          refine cw_seq fun K13 hK13 => ?_
          refine cw_seq fun K14 hK14 => ?_
          refine cw_region ?_
          refine ow_ev ev_move ?_
          refine ow_ev ev_lss ?_
          refine ow_ev ev_move ?_
          refine ow_evg rfl ev_move ?_
          refine ow_evg rfl ev_move ?_
          refine ow_evg rfl ev_len ?_
          refine ow_evg rfl ev_geq ?_
          refine ow_ev ev_or ?_
          refine ow_ev ev_move ?_
          refine ow_evg rfl ev_move ?_
          obtain ⟨x9, hx10, hM⟩ := bind_some hM
          refine ow_evg rfl (ev_aidx (r := (⟨some ⟨b3, 0, none⟩, 40, fun _ => ()⟩ : SR (GoRep.R Bool))) (xs := lseen_1) 1 (Kn.trow (e := 100) (r := (⟨some ⟨b3, 0, none⟩, 40, fun _ => ()⟩ : SR (GoRep.R Bool))) (by repeat (first | exact Has.head | apply Has.tail))) (fun hg => let h := idx_some (whn_some hx10 hg); ⟨h.1, h.2.1⟩)) ?_
          refine ow_evg rfl (ev_ld (i := x6) (xs := lseen_1) (y := x9) 0 (Kn.trow (e := 100) (r := (⟨some ⟨b3, 0, none⟩, 40, fun _ => ()⟩ : SR (GoRep.R Bool))) (by repeat (first | exact Has.head | apply Has.tail))) (fun hg => whn_some hx10 hg)) ?_
          refine ow_ev ev_or ?_
          refine ow_nil (hK14 _ _ ?_); clear hK14
          refine cw_cond rfl (fun hc11 => ?_) (fun hc11 => ?_)
          ·
            replace hM := (ite_t hc11).symm.trans hM
            refine cw_seq fun K15 hK15 => ?_
            refine cw_region ?_
            refine ow_ev ev_assign ?_
            refine ow_nil (hK15 _ _ ?_); clear hK15
            obtain rfl := some_inj hM
            refine cw_ret (kw_retc1 (fun w hm => ret_of hm rfl))
          ·
            replace hM := (ite_f hc11).symm.trans hM
            refine cw_skip (hK13 _ _ ?_); clear hK13
            refine cw_seq fun K16 hK16 => ?_
            refine cw_region ?_
            refine ow_ev ev_move ?_
            obtain ⟨x12, hx13, hM⟩ := bind_some hM
            refine ow_ev (ev_aidx (r := (⟨some ⟨b3, 0, none⟩, 40, fun _ => ()⟩ : SR (GoRep.R Bool))) (xs := lseen_1) 1 (Kn.trow (e := 100) (r := (⟨some ⟨b3, 0, none⟩, 40, fun _ => ()⟩ : SR (GoRep.R Bool))) (by repeat (first | exact Has.head | apply Has.tail))) (fun hg => let h := idx_some hx13; ⟨h.1, h.2.1⟩)) ?_
            refine ow_cons (st_set (r := (⟨some ⟨b3, 0, none⟩, 40, fun _ => ()⟩ : SR (GoRep.R Bool))) (i := x6) (xs := lseen_1) (u := x12) (vs := [.bool true]) 0 true hx13 rfl (fun _ _ h => h) (by repeat (first | exact Upd.head | apply Upd.tail)) ?_)
            refine ow_nil (hK16 _ _ ?_); clear hK16
            refine cw_seq fun K17 hK17 => ?_
            refine cw_region_any _ (List.Sublist.refl _) ?_
            refine aw_ev 0 rfl (ev_load_all (b := b1)) ?_
            refine aw_ev 1 rfl ev_move ?_
            refine aw_ev 2 rfl ev_move ?_
            obtain ⟨x14, hx15, hM⟩ := bind_some hM
            refine aw_ev 3 rfl (ev_idx (xs := tasks0) 5 (Kn.imm (α := List Task) (r := r_tasks0) (x := tasks0) (by repeat (first | exact Has.head | apply Has.tail))) (fun hg => let h := idx_some hx15; ⟨h.1, h.2.1⟩)) ?_
            refine aw_ev 4 rfl (ev_lds (m := 5) (i := (t19_1 : Int)) (xs := tasks0) (y := x14) (l := [.int .i64 x14.Type_, .int .i64 x14.From, .int .i64 x14.To, .int .i64 x14.Start, .int .i64 x14.End]) 0 (Kn.imm (α := List Task) (r := r_tasks0) (x := tasks0) (by repeat (first | exact Has.head | apply Has.tail))) (fun _ => hx15)) ?_
            refine aw_ev 5 rfl ev_move ?_
            refine aw_ev 6 rfl ev_move ?_
            obtain ⟨x16, hx17, hM⟩ := bind_some hM
            refine aw_ev 7 rfl (ev_idx (xs := tasks0) 5 (Kn.imm (α := List Task) (r := r_tasks0) (x := tasks0) (by repeat (first | exact Has.head | apply Has.tail))) (fun hg => let h := idx_some hx17; ⟨h.1, h.2.1⟩)) ?_
            refine aw_ev 8 rfl (ev_lds (m := 5) (i := x6) (xs := tasks0) (y := x16) (l := [.int .i64 x16.Type_, .int .i64 x16.From, .int .i64 x16.To, .int .i64 x16.Start, .int .i64 x16.End]) 0 (Kn.imm (α := List Task) (r := r_tasks0) (x := tasks0) (by repeat (first | exact Has.head | apply Has.tail))) (fun _ => hx17)) ?_
            obtain ⟨y18, hy19, hM⟩ := bind_some hM
            refine aw_one 9 rfl (st_callv (fun w hm => let ⟨S, hs⟩ := hm; ref24_Follows_spec _ w r0 r_r0 x14 x16 y18 hy19 (lend_lt hs) ⟨(Kn.lend (Kn.imm (α := List EmptyT) (r := r_r0.1) (x := r0.Empties) (by repeat (first | exact Has.head | apply Has.tail))) hs), (Kn.lend (Kn.imm (α := List Int) (r := r_r0.2) (x := r0.Shops) (by repeat (first | exact Has.head | apply Has.tail))) hs)⟩) ⟨fun w hm => hm.sub (by repeat (first | exact List.Sublist.refl _ | apply List.Sublist.cons_cons | apply List.Sublist.cons)), ?_⟩)
            refine aw_ev 10 rfl ev_move ?_
            refine aw_ev 11 rfl (ev_extract (vs := [.int .i64 y18.1, .bool y18.2])) ?_
            refine aw_ev 12 rfl (ev_extract (vs := [.int .i64 y18.1, .bool y18.2])) ?_
            refine aw_ev 13 rfl ev_assign ?_
            refine aw_ev 14 rfl ev_assign ?_
            refine aw_done (hK17 _ _ ?_); clear hK17
            refine cw_seq fun K18 hK18 => ?_
            refine cw_region ?_
            refine ow_ev ev_move ?_
            refine ow_ev ev_not ?_
            refine ow_nil (hK18 _ _ ?_); clear hK18
            refine cw_cond rfl (fun hc20 => ?_) (fun hc20 => ?_)
            ·
              replace hM := (ite_t hc20).symm.trans hM
              refine cw_seq fun K19 hK19 => ?_
              refine cw_region ?_
              refine ow_ev ev_assign ?_
              refine ow_nil (hK19 _ _ ?_); clear hK19
              obtain rfl := some_inj hM
              refine cw_ret (kw_retc1 (fun w hm => ret_of hm rfl))
            ·
              replace hM := (ite_f hc20).symm.trans hM
              refine cw_skip (hJ2 ((lseen_1.set x6.toNat true), ()) _ _ hM ⟨rfl, rfl, rfl, rfl, rfl, rfl, trivial⟩ (fun w hm => hm.reord))
      ·
        clear hM
        intro g hM
        obtain ⟨lseen_j2, ⟨⟩⟩ := g
        dsimp only at hM ⊢
        dsimp only [ref24_Circulation_k2] at hM
        refine cw_region ?_
        refine ow_ev (ev_add (hr := fun _ => by unfold I64; omega)) ?_
        refine ow_ev ev_move ?_
        refine ow_nil (hL1 (nn1, (lseen_j2, t19_1 + 1), ()) _ _ (eqc hcont1 hM) (Nat.lt_succ_self _) ⟨rfl, rfl, rfl, rfl, rfl, rfl, trivial⟩ (fun w hm => hm.reord))
    ·
      replace hM := (ite_f hc5).symm.trans hM
      refine cw_exit (hK6 _ _ ?_); clear hK6
      dsimp only [ref24_Circulation_k1] at hM
      refine cw_seq fun K20 hK20 => ?_
      refine cw_region ?_
      refine ow_ev ev_assign ?_
      refine ow_nil (hK20 _ _ ?_); clear hK20
      obtain rfl := some_inj hM
      refine cw_ret (kw_retc1 (fun w hm => ret_of hm rfl))

def ref24_Joined_k2 (cont1 : (Int × Nat) → Option Int) (t8_1 : Nat) : Int → Option Int := fun k_j2 =>
  cont1 (k_j2, t8_1 + 1)
def ref24_Joined_k1 (k_1 : Int) : Unit → Option Int := fun _ =>
  some k_1
def ref24_Joined_b1 (next0 : List Int) (cont1 : (Int × Nat) → Option Int) : (Int × Nat) → Option Int := fun (k_1, t8_1) =>
  if decide ((t8_1 : Int) < (next0.length : Int)) then
    ((idx next0 (t8_1 : Int)).bind fun x3 =>
    if decide (x3 ≠ (-1)) then
      (chk (i64b (k_1 + 1)) <|
      ref24_Joined_k2 cont1 t8_1 (k_1 + 1))
    else
      (ref24_Joined_k2 cont1 t8_1 k_1))
  else
    (ref24_Joined_k1 k_1 ())
def ref24_Joined_m (next0 : List Int) : Option Int :=
  iter (ref24_Joined_b1 next0) FUEL (0, 0)
theorem ref24_Joined_spec (S : Soup) (w : World) (next0 : List Int) (r_next0 : GoRep.R (List Int)) (y : Int) (hM : ref24_Joined_m next0 = some y) (hS : ∀ k, S k → k < w.heap.size) (h_next0 : GoRep.ok S w r_next0 next0) :
    Calls Try.prog 45 #[.slice r_next0.a next0.length r_next0.cap] w (Ret w (.int .i64 y)) := by
  refine calls_cw (args := [_]) Try.func45 rfl ((pre_nil hS).start |>.immP (α := List Int) (r := r_next0) (x := next0) h_next0) rfl ?_
  unfold ref24_Joined_m at hM
  refine cw_seq fun K1 hK1 => ?_
  refine cw_region ?_
  refine ow_ev ev_assign ?_
  refine ow_nil (hK1 _ _ ?_); clear hK1
  refine cw_seq fun K2 hK2 => ?_
  refine cw_region ?_
  refine ow_ev ev_assign ?_
  refine ow_nil (hK2 _ _ ?_); clear hK2
  refine cw_seq fun K3 hK3 => ?_
  refine cw_seq fun K4 hK4 => ?_
  refine cw_region ?_
  refine ow_ev ev_move ?_
  refine ow_have (fun w hm => Kn.len (Kn.imm (α := List Int) (r := r_next0) (x := next0) (by repeat (first | exact Has.head | apply Has.tail))) hm) fun hl1 => ?_
  refine ow_ev ev_len ?_
  refine ow_ev ev_move ?_
  refine ow_nil (hK4 _ _ ?_); clear hK4
  refine cw_block ?_
  refine cw_loop (γ := Nat × (Int × Nat) × Unit) (env := fun (_, (k_1, t8_1), _) => [(3, .v (.int .i64 k_1)), (6, .v (.slice r_next0.a next0.length r_next0.cap)), (7, .v (.int .i64 (next0.length : Int))), (8, .v (.int .i64 (t8_1 : Int)))]) (mem := fun (_, (k_1, t8_1), _) => [imm (α := (List Int)) r_next0 next0]) (R := fun g => iter (ref24_Joined_b1 next0) g.1 g.2.1 = some y) (μ := fun g => g.1) (FUEL, (0, 0), ()) hM ⟨rfl, rfl, rfl, rfl, trivial⟩ (fun w hm => hm.reord) ?_
  clear hM
  intro g hM KL1 hL1
  obtain ⟨nn1, ⟨k_1, t8_1⟩, ⟨⟩⟩ := g
  dsimp only at hM ⊢
  obtain ⟨nn1, cont1, rfl, hcont1, hM⟩ := iter_open' hM
  dsimp only [ref24_Joined_b1] at hM
  refine cw_seq fun K5 hK5 => ?_
  refine cw_region ?_
  refine ow_ev ev_lss ?_
  refine ow_nil (hK5 _ _ ?_); clear hK5
  refine cw_seq fun K6 hK6 => ?_
  refine cw_cond rfl (fun hc2 => ?_) (fun hc2 => ?_)
  ·
    replace hM := (ite_t hc2).symm.trans hM
    have hc2d := of_decide_eq_true hc2
    refine cw_skip (hK6 _ _ ?_); clear hK6
    refine cw_cut (γ := Int × Unit) (env := fun (k_j2, _) => [(3, .v (.int .i64 k_j2)), (6, .v (.slice r_next0.a next0.length r_next0.cap)), (7, .v (.int .i64 (next0.length : Int))), (8, .v (.int .i64 (t8_1 : Int)))]) (mem := fun (k_j2, _) => [imm (α := (List Int)) r_next0 next0]) (R := fun g => ref24_Joined_k2 cont1 t8_1 g.1 = some y) ?_ ?_
    · intro KJ2 hJ2
      refine cw_block ?_
      refine cw_seq fun K7 hK7 => ?_
      refine cw_region ?_
      obtain ⟨x3, hx4, hM⟩ := bind_some hM
      refine ow_ev (ev_idx (xs := next0) 1 (Kn.imm (α := List Int) (r := r_next0) (x := next0) (by repeat (first | exact Has.head | apply Has.tail))) (fun hg => let h := idx_some hx4; ⟨h.1, h.2.1⟩)) ?_
      refine ow_ev (ev_ld (i := (t8_1 : Int)) (xs := next0) (y := x3) 0 (Kn.imm (α := List Int) (r := r_next0) (x := next0) (by repeat (first | exact Has.head | apply Has.tail))) (fun _ => hx4)) ?_
      refine ow_ev ev_assign ?_
      refine ow_nil (hK7 _ _ ?_); clear hK7
      refine cw_seq fun K8 hK8 => ?_
      refine cw_region ?_
      refine ow_ev ev_move ?_
      refine ow_ev ev_neq ?_
      refine ow_nil (hK8 _ _ ?_); clear hK8
      refine cw_cond rfl (fun hc5 => ?_) (fun hc5 => ?_)
      ·
        replace hM := (ite_t hc5).symm.trans hM
        refine cw_region ?_
        refine ow_ev ev_move ?_
        obtain ⟨hI6, hM⟩ := chk_some hM
        refine ow_ev (ev_add (hr := fun hg => i64b_I64 hI6)) ?_
        refine ow_ev ev_assign ?_
        refine ow_nil (hJ2 ((k_1 + 1), ()) _ _ hM ⟨rfl, rfl, rfl, rfl, trivial⟩ (fun w hm => hm.reord))
      ·
        replace hM := (ite_f hc5).symm.trans hM
        refine cw_skip (hJ2 (k_1, ()) _ _ hM ⟨rfl, rfl, rfl, rfl, trivial⟩ (fun w hm => hm.reord))
    ·
      clear hM
      intro g hM
      obtain ⟨k_j2, ⟨⟩⟩ := g
      dsimp only at hM ⊢
      dsimp only [ref24_Joined_k2] at hM
      refine cw_region ?_
      refine ow_ev (ev_add (hr := fun _ => by unfold I64; omega)) ?_
      refine ow_ev ev_move ?_
      refine ow_nil (hL1 (nn1, (k_j2, t8_1 + 1), ()) _ _ (eqc hcont1 hM) (Nat.lt_succ_self _) ⟨rfl, rfl, rfl, rfl, trivial⟩ (fun w hm => hm.reord))
  ·
    replace hM := (ite_f hc2).symm.trans hM
    refine cw_exit (hK3 _ _ ?_); clear hK3
    dsimp only [ref24_Joined_k1] at hM
    refine cw_seq fun K9 hK9 => ?_
    refine cw_region ?_
    refine ow_ev ev_move ?_
    refine ow_ev ev_assign ?_
    refine ow_nil (hK9 _ _ ?_); clear hK9
    obtain rfl := some_inj hM
    refine cw_ret (kw_retc1 (fun w hm => ret_of hm rfl))

def ref24_ascending_k1 : Unit → Option Bool := fun _ =>
  some true
def ref24_ascending_b1 (l0 : List Int) (n0 : Int) (cont1 : Nat → Option Bool) : Nat → Option Bool := fun t9_1 =>
  if decide ((t9_1 : Int) < (l0.length : Int)) then
    ((idx l0 (t9_1 : Int)).bind fun x3 =>
    chk (!((!(decide (x3 < 0) || decide (n0 ≤ x3))) && decide (0 < (t9_1 : Int))) || i64b ((t9_1 : Int) - 1)) <|
    (whn ((!(decide (x3 < 0) || decide (n0 ≤ x3))) && decide (0 < (t9_1 : Int))) default (idx l0 ((t9_1 : Int) - 1))).bind fun x6 =>
    if ((decide (x3 < 0) || decide (n0 ≤ x3)) || (decide (0 < (t9_1 : Int)) && decide (x3 ≤ x6))) then
      (some false)
    else
      (cont1 (t9_1 + 1)))
  else
    (ref24_ascending_k1 ())
def ref24_ascending_m (l0 : List Int) (n0 : Int) : Option Bool :=
  iter (ref24_ascending_b1 l0 n0) FUEL 0
theorem ref24_ascending_spec (S : Soup) (w : World) (l0 : List Int) (r_l0 : GoRep.R (List Int)) (n0 : Int) (y : Bool) (hM : ref24_ascending_m l0 n0 = some y) (hS : ∀ k, S k → k < w.heap.size) (h_l0 : GoRep.ok S w r_l0 l0) :
    Calls Try.prog 68 #[.slice r_l0.a l0.length r_l0.cap, .int .i64 n0] w (Ret w (.bool y)) := by
  refine calls_cw (args := [_, _]) Try.func68 rfl ((pre_nil hS).start |>.immP (α := List Int) (r := r_l0) (x := l0) h_l0) rfl ?_
  unfold ref24_ascending_m at hM
  refine cw_seq fun K1 hK1 => ?_
  refine cw_region ?_
  refine ow_ev ev_assign ?_
  refine ow_nil (hK1 _ _ ?_); clear hK1
  refine cw_seq fun K2 hK2 => ?_
  refine cw_seq fun K3 hK3 => ?_
  refine cw_region ?_
  refine ow_ev ev_move ?_
  refine ow_have (fun w hm => Kn.len (Kn.imm (α := List Int) (r := r_l0) (x := l0) (by repeat (first | exact Has.head | apply Has.tail))) hm) fun hl1 => ?_
  refine ow_ev ev_len ?_
  refine ow_ev ev_move ?_
  refine ow_nil (hK3 _ _ ?_); clear hK3
  refine cw_block ?_
  refine cw_loop (γ := Nat × Nat × Unit) (env := fun (_, t9_1, _) => [(0, .v (.slice r_l0.a l0.length r_l0.cap)), (1, .v (.int .i64 n0)), (7, .v (.slice r_l0.a l0.length r_l0.cap)), (8, .v (.int .i64 (l0.length : Int))), (9, .v (.int .i64 (t9_1 : Int)))]) (mem := fun (_, t9_1, _) => [imm (α := (List Int)) r_l0 l0]) (R := fun g => iter (ref24_ascending_b1 l0 n0) g.1 g.2.1 = some y) (μ := fun g => g.1) (FUEL, 0, ()) hM ⟨rfl, rfl, rfl, rfl, rfl, trivial⟩ (fun w hm => hm.reord) ?_
  clear hM
  intro g hM KL1 hL1
  obtain ⟨nn1, t9_1, ⟨⟩⟩ := g
  dsimp only at hM ⊢
  obtain ⟨nn1, cont1, rfl, hcont1, hM⟩ := iter_open' hM
  dsimp only [ref24_ascending_b1] at hM
  refine cw_seq fun K4 hK4 => ?_
  refine cw_region ?_
  refine ow_ev ev_lss ?_
  refine ow_nil (hK4 _ _ ?_); clear hK4
  refine cw_seq fun K5 hK5 => ?_
  refine cw_cond rfl (fun hc2 => ?_) (fun hc2 => ?_)
  ·
    replace hM := (ite_t hc2).symm.trans hM
    have hc2d := of_decide_eq_true hc2
    refine cw_skip (hK5 _ _ ?_); clear hK5
    refine cw_seq fun K6 hK6 => ?_
    refine cw_block ?_
    refine cw_seq fun K7 hK7 => ?_
    refine cw_region ?_
    refine ow_ev ev_move ?_
    obtain ⟨x3, hx4, hM⟩ := bind_some hM
    refine ow_ev (ev_idx (xs := l0) 1 (Kn.imm (α := List Int) (r := r_l0) (x := l0) (by repeat (first | exact Has.head | apply Has.tail))) (fun hg => let h := idx_some hx4; ⟨h.1, h.2.1⟩)) ?_
    refine ow_ev (ev_ld (i := (t9_1 : Int)) (xs := l0) (y := x3) 0 (Kn.imm (α := List Int) (r := r_l0) (x := l0) (by repeat (first | exact Has.head | apply Has.tail))) (fun _ => hx4)) ?_
    refine ow_ev ev_assign ?_
    refine ow_ev ev_assign ?_
    refine ow_nil (hK7 _ _ ?_); clear hK7
    refine cw_seq fun K8 hK8 => ?_
    refine cw_region ?_
    refine ow_ev ev_move ?_
    refine ow_ev ev_lss ?_
    refine ow_ev ev_move ?_
    refine ow_evg rfl ev_move ?_
    refine ow_evg rfl ev_move ?_
    refine ow_evg rfl ev_geq ?_
    refine ow_ev ev_or ?_
    refine ow_ev ev_move ?_
    refine ow_evg rfl ev_move ?_
    refine ow_evg rfl ev_gtr ?_
    refine ow_evg rfl ev_move ?_
    refine ow_evg rfl ev_move ?_
    refine ow_evg rfl ev_move ?_
    refine ow_evg rfl ev_move ?_
    obtain ⟨hI5, hM⟩ := chk_some hM
    refine ow_evg rfl (ev_sub (hr := fun hg => i64b_I64 (gor hI5 hg))) ?_
    obtain ⟨x6, hx7, hM⟩ := bind_some hM
    refine ow_evg rfl (ev_idx (xs := l0) 1 (Kn.imm (α := List Int) (r := r_l0) (x := l0) (by repeat (first | exact Has.head | apply Has.tail))) (fun hg => let h := idx_some (whn_some hx7 hg); ⟨h.1, h.2.1⟩)) ?_
    refine ow_evg rfl (ev_ld (i := ((t9_1 : Int) - 1)) (xs := l0) (y := x6) 0 (Kn.imm (α := List Int) (r := r_l0) (x := l0) (by repeat (first | exact Has.head | apply Has.tail))) (fun hg => whn_some hx7 hg)) ?_
    refine ow_evg rfl ev_leq ?_
    refine ow_evg rfl ev_and ?_
    refine ow_ev ev_or ?_
    refine ow_nil (hK8 _ _ ?_); clear hK8
    refine cw_cond rfl (fun hc8 => ?_) (fun hc8 => ?_)
    ·
      replace hM := (ite_t hc8).symm.trans hM
      refine cw_seq fun K9 hK9 => ?_
      refine cw_region ?_
      refine ow_ev ev_assign ?_
      refine ow_nil (hK9 _ _ ?_); clear hK9
      obtain rfl := some_inj hM
      refine cw_ret (kw_retc1 (fun w hm => ret_of hm rfl))
    ·
      replace hM := (ite_f hc8).symm.trans hM
      refine cw_skip (hK6 _ _ ?_); clear hK6
      refine cw_region ?_
      refine ow_ev (ev_add (hr := fun _ => by unfold I64; omega)) ?_
      refine ow_ev ev_move ?_
      refine ow_nil (hL1 (nn1, (t9_1 + 1), ()) _ _ (eqc hcont1 hM) (Nat.lt_succ_self _) ⟨rfl, rfl, rfl, rfl, rfl, trivial⟩ (fun w hm => hm.reord))
  ·
    replace hM := (ite_f hc2).symm.trans hM
    refine cw_exit (hK2 _ _ ?_); clear hK2
    dsimp only [ref24_ascending_k1] at hM
    refine cw_seq fun K10 hK10 => ?_
    refine cw_region ?_
    refine ow_ev ev_assign ?_
    refine ow_nil (hK10 _ _ ?_); clear hK10
    obtain rfl := some_inj hM
    refine cw_ret (kw_retc1 (fun w hm => ret_of hm rfl))

def ref24_member_k1 : Unit → Option Bool := fun _ =>
  some false
def ref24_member_b1 (l0 : List Int) (v0 : Int) (cont1 : Nat → Option Bool) : Nat → Option Bool := fun t9_1 =>
  if decide ((t9_1 : Int) < (l0.length : Int)) then
    ((idx l0 (t9_1 : Int)).bind fun x3 =>
    if decide (x3 = v0) then
      (some true)
    else
      (cont1 (t9_1 + 1)))
  else
    (ref24_member_k1 ())
def ref24_member_m (l0 : List Int) (v0 : Int) : Option Bool :=
  iter (ref24_member_b1 l0 v0) FUEL 0
theorem ref24_member_spec (S : Soup) (w : World) (l0 : List Int) (r_l0 : GoRep.R (List Int)) (v0 : Int) (y : Bool) (hM : ref24_member_m l0 v0 = some y) (hS : ∀ k, S k → k < w.heap.size) (h_l0 : GoRep.ok S w r_l0 l0) :
    Calls Try.prog 69 #[.slice r_l0.a l0.length r_l0.cap, .int .i64 v0] w (Ret w (.bool y)) := by
  refine calls_cw (args := [_, _]) Try.func69 rfl ((pre_nil hS).start |>.immP (α := List Int) (r := r_l0) (x := l0) h_l0) rfl ?_
  unfold ref24_member_m at hM
  refine cw_seq fun K1 hK1 => ?_
  refine cw_region ?_
  refine ow_ev ev_assign ?_
  refine ow_nil (hK1 _ _ ?_); clear hK1
  refine cw_seq fun K2 hK2 => ?_
  refine cw_seq fun K3 hK3 => ?_
  refine cw_region ?_
  refine ow_ev ev_move ?_
  refine ow_have (fun w hm => Kn.len (Kn.imm (α := List Int) (r := r_l0) (x := l0) (by repeat (first | exact Has.head | apply Has.tail))) hm) fun hl1 => ?_
  refine ow_ev ev_len ?_
  refine ow_ev ev_move ?_
  refine ow_nil (hK3 _ _ ?_); clear hK3
  refine cw_block ?_
  refine cw_loop (γ := Nat × Nat × Unit) (env := fun (_, t9_1, _) => [(1, .v (.int .i64 v0)), (7, .v (.slice r_l0.a l0.length r_l0.cap)), (8, .v (.int .i64 (l0.length : Int))), (9, .v (.int .i64 (t9_1 : Int)))]) (mem := fun (_, t9_1, _) => [imm (α := (List Int)) r_l0 l0]) (R := fun g => iter (ref24_member_b1 l0 v0) g.1 g.2.1 = some y) (μ := fun g => g.1) (FUEL, 0, ()) hM ⟨rfl, rfl, rfl, rfl, trivial⟩ (fun w hm => hm.reord) ?_
  clear hM
  intro g hM KL1 hL1
  obtain ⟨nn1, t9_1, ⟨⟩⟩ := g
  dsimp only at hM ⊢
  obtain ⟨nn1, cont1, rfl, hcont1, hM⟩ := iter_open' hM
  dsimp only [ref24_member_b1] at hM
  refine cw_seq fun K4 hK4 => ?_
  refine cw_region ?_
  refine ow_ev ev_lss ?_
  refine ow_nil (hK4 _ _ ?_); clear hK4
  refine cw_seq fun K5 hK5 => ?_
  refine cw_cond rfl (fun hc2 => ?_) (fun hc2 => ?_)
  ·
    replace hM := (ite_t hc2).symm.trans hM
    have hc2d := of_decide_eq_true hc2
    refine cw_skip (hK5 _ _ ?_); clear hK5
    refine cw_seq fun K6 hK6 => ?_
    refine cw_block ?_
    refine cw_seq fun K7 hK7 => ?_
    refine cw_region ?_
    obtain ⟨x3, hx4, hM⟩ := bind_some hM
    refine ow_ev (ev_idx (xs := l0) 1 (Kn.imm (α := List Int) (r := r_l0) (x := l0) (by repeat (first | exact Has.head | apply Has.tail))) (fun hg => let h := idx_some hx4; ⟨h.1, h.2.1⟩)) ?_
    refine ow_ev (ev_ld (i := (t9_1 : Int)) (xs := l0) (y := x3) 0 (Kn.imm (α := List Int) (r := r_l0) (x := l0) (by repeat (first | exact Has.head | apply Has.tail))) (fun _ => hx4)) ?_
    refine ow_ev ev_assign ?_
    refine ow_nil (hK7 _ _ ?_); clear hK7
    refine cw_seq fun K8 hK8 => ?_
    refine cw_region ?_
    refine ow_ev ev_move ?_
    refine ow_ev ev_move ?_
    refine ow_ev ev_eql ?_
    refine ow_nil (hK8 _ _ ?_); clear hK8
    refine cw_cond rfl (fun hc5 => ?_) (fun hc5 => ?_)
    ·
      replace hM := (ite_t hc5).symm.trans hM
      refine cw_seq fun K9 hK9 => ?_
      refine cw_region ?_
      refine ow_ev ev_assign ?_
      refine ow_nil (hK9 _ _ ?_); clear hK9
      obtain rfl := some_inj hM
      refine cw_ret (kw_retc1 (fun w hm => ret_of hm rfl))
    ·
      replace hM := (ite_f hc5).symm.trans hM
      refine cw_skip (hK6 _ _ ?_); clear hK6
      refine cw_region ?_
      refine ow_ev (ev_add (hr := fun _ => by unfold I64; omega)) ?_
      refine ow_ev ev_move ?_
      refine ow_nil (hL1 (nn1, (t9_1 + 1), ()) _ _ (eqc hcont1 hM) (Nat.lt_succ_self _) ⟨rfl, rfl, rfl, rfl, trivial⟩ (fun w hm => hm.reord))
  ·
    replace hM := (ite_f hc2).symm.trans hM
    refine cw_exit (hK2 _ _ ?_); clear hK2
    dsimp only [ref24_member_k1] at hM
    refine cw_seq fun K10 hK10 => ?_
    refine cw_region ?_
    refine ow_ev ev_assign ?_
    refine ow_nil (hK10 _ _ ?_); clear hK10
    obtain rfl := some_inj hM
    refine cw_ret (kw_retc1 (fun w hm => ret_of hm rfl))

def ref24_VerifyCover_k2 (cont1 : Nat → Option Bool) (t54_1 : Nat) : Unit → Option Bool := fun _ =>
  cont1 (t54_1 + 1)
def ref24_VerifyCover_b2 (tasks0 : List Task) (t54_1 : Nat) (r0 : Rules) (c0 : Cover) (cont1 : Nat → Option Bool) (cont2 : Nat → Option Bool) : Nat → Option Bool := fun t59_2 =>
  if decide ((t59_2 : Int) < (tasks0.length : Int)) then
    ((idx tasks0 (t54_1 : Int)).bind fun x19 =>
    (idx tasks0 (t59_2 : Int)).bind fun x21 =>
    (ref24_Follows_m r0 x19 x21).bind fun y23 =>
    (whn y23.2 default (ref24_member_m c0.Left (t54_1 : Int))).bind fun y25 =>
    (whn (y23.2 && (!y25)) default (ref24_member_m c0.Right (t59_2 : Int))).bind fun y27 =>
    if ((y23.2 && (!y25)) && (!y27)) then
      (some false)
    else
      (cont2 (t59_2 + 1)))
  else
    (ref24_VerifyCover_k2 cont1 t54_1 ())
def ref24_VerifyCover_k1 : Unit → Option Bool := fun _ =>
  some true
def ref24_VerifyCover_b1 (tasks0 : List Task) (r0 : Rules) (c0 : Cover) (cont1 : Nat → Option Bool) : Nat → Option Bool := fun t54_1 =>
  if decide ((t54_1 : Int) < (tasks0.length : Int)) then
    (iter (ref24_VerifyCover_b2 tasks0 t54_1 r0 c0 cont1) FUEL 0)
  else
    (ref24_VerifyCover_k1 ())
def ref24_VerifyCover_m (tasks0 : List Task) (r0 : Rules) (next0 : List Int) (c0 : Cover) : Option Bool :=
  (ref24_CheckTasks_m tasks0 r0).bind fun y3 =>
  (whn (!(!y3)) default (ref24_Circulation_m tasks0 r0 next0)).bind fun y5 =>
  (whn (!((!y3) || (!y5))) default (ref24_ascending_m c0.Left (tasks0.length : Int))).bind fun y7 =>
  (whn (!(((!y3) || (!y5)) || (!y7))) default (ref24_ascending_m c0.Right (tasks0.length : Int))).bind fun y9 =>
  chk (!(!((((!y3) || (!y5)) || (!y7)) || (!y9))) || i64b ((c0.Left.length : Int) + (c0.Right.length : Int))) <|
  (whn (!((((!y3) || (!y5)) || (!y7)) || (!y9))) default (ref24_Joined_m next0)).bind fun y12 =>
  if (((((!y3) || (!y5)) || (!y7)) || (!y9)) || decide (((c0.Left.length : Int) + (c0.Right.length : Int)) ≠ y12)) then
    (some false)
  else
    (iter (ref24_VerifyCover_b1 tasks0 r0 c0) FUEL 0)
theorem ref24_VerifyCover_spec (S : Soup) (w : World) (tasks0 : List Task) (r_tasks0 : GoRep.R (List Task)) (r0 : Rules) (r_r0 : GoRep.R Rules) (next0 : List Int) (r_next0 : GoRep.R (List Int)) (c0 : Cover) (r_c0 : GoRep.R Cover) (y : Bool) (hM : ref24_VerifyCover_m tasks0 r0 next0 c0 = some y) (hS : ∀ k, S k → k < w.heap.size) (h_tasks0 : GoRep.ok S w r_tasks0 tasks0) (h_r0 : GoRep.ok S w r_r0 r0) (h_next0 : GoRep.ok S w r_next0 next0) (h_c0 : GoRep.ok S w r_c0 c0) :
    Calls Try.prog 46 #[.slice r_tasks0.a tasks0.length r_tasks0.cap, .agg #[.int .i64 r0.Turn, .slice r_r0.1.a r0.Empties.length r_r0.1.cap, .slice r_r0.2.a r0.Shops.length r_r0.2.cap, .int .i64 r0.Service, .int .i64 r0.Limit], .slice r_next0.a next0.length r_next0.cap, .agg #[.slice r_c0.1.a c0.Left.length r_c0.1.cap, .slice r_c0.2.a c0.Right.length r_c0.2.cap]] w (Ret w (.bool y)) := by
  refine calls_cw (args := [_, _, _, _]) Try.func46 rfl ((pre_nil hS).start |>.immP (α := List Task) (r := r_tasks0) (x := tasks0) h_tasks0|>.immP (α := List EmptyT) (r := r_r0.1) (x := r0.Empties) h_r0.1|>.immP (α := List Int) (r := r_r0.2) (x := r0.Shops) h_r0.2|>.immP (α := List Int) (r := r_next0) (x := next0) h_next0|>.immP (α := List Int) (r := r_c0.1) (x := c0.Left) h_c0.1|>.immP (α := List Int) (r := r_c0.2) (x := c0.Right) h_c0.2) rfl ?_
  unfold ref24_VerifyCover_m at hM
  refine cw_seq fun K1 hK1 => ?_
  refine cw_region ?_
  refine ow_cons (st_box (l := [.int .i64 r0.Turn, .slice r_r0.1.a r0.Empties.length r_r0.1.cap, .slice r_r0.2.a r0.Shops.length r_r0.2.cap, .int .i64 r0.Service, .int .i64 r0.Limit]) (k := fun b1 => ?_))
  refine ow_cons (st_box (l := [.slice r_c0.1.a c0.Left.length r_c0.1.cap, .slice r_c0.2.a c0.Right.length r_c0.2.cap]) (k := fun b2 => ?_))
  refine ow_ev ev_assign ?_
  refine ow_nil (hK1 _ _ ?_); clear hK1
  refine cw_seq fun K2 hK2 => ?_
  refine cw_seq fun K3 hK3 => ?_
  refine cw_region_any _ (List.Sublist.refl _) ?_
  refine aw_ev 0 rfl ev_move ?_
  refine aw_ev 1 rfl (ev_load_all (b := b1)) ?_
  obtain ⟨y3, hy4, hM⟩ := bind_some hM
  refine aw_one 2 rfl (st_callv (fun w hm => let ⟨S, hs⟩ := hm; ref24_CheckTasks_spec _ w tasks0 r_tasks0 r0 r_r0 y3 hy4 (lend_lt hs) (Kn.lend (Kn.imm (α := List Task) (r := r_tasks0) (x := tasks0) (by repeat (first | exact Has.head | apply Has.tail))) hs) ⟨(Kn.lend (Kn.imm (α := List EmptyT) (r := r_r0.1) (x := r0.Empties) (by repeat (first | exact Has.head | apply Has.tail))) hs), (Kn.lend (Kn.imm (α := List Int) (r := r_r0.2) (x := r0.Shops) (by repeat (first | exact Has.head | apply Has.tail))) hs)⟩) ⟨fun w hm => hm.sub (by repeat (first | exact List.Sublist.refl _ | apply List.Sublist.cons_cons | apply List.Sublist.cons)), ?_⟩)
  refine aw_ev 3 rfl ev_not ?_
  refine aw_ev 4 rfl ev_move ?_
  refine aw_evg 5 rfl rfl ev_move ?_
  refine aw_evg 6 rfl rfl (ev_load_all (b := b1)) ?_
  refine aw_evg 7 rfl rfl ev_move ?_
  obtain ⟨y5, hy6, hM⟩ := bind_some hM
  refine aw_callg 8 rfl rfl (fun hg w hm => let ⟨S, hs⟩ := hm; ref24_Circulation_spec _ w tasks0 r_tasks0 r0 r_r0 next0 r_next0 y5 (whn_some hy6 hg) (lend_lt hs) (Kn.lend (Kn.imm (α := List Task) (r := r_tasks0) (x := tasks0) (by repeat (first | exact Has.head | apply Has.tail))) hs) ⟨(Kn.lend (Kn.imm (α := List EmptyT) (r := r_r0.1) (x := r0.Empties) (by repeat (first | exact Has.head | apply Has.tail))) hs), (Kn.lend (Kn.imm (α := List Int) (r := r_r0.2) (x := r0.Shops) (by repeat (first | exact Has.head | apply Has.tail))) hs)⟩ (Kn.lend (Kn.imm (α := List Int) (r := r_next0) (x := next0) (by repeat (first | exact Has.head | apply Has.tail))) hs)) ?_
  refine aw_evg 9 rfl rfl ev_not ?_
  refine aw_ev 10 rfl ev_or ?_
  refine aw_ev 11 rfl ev_move ?_
  refine aw_evg 12 rfl rfl (ev_field_addr 0) ?_
  refine aw_evg 13 rfl rfl (ev_load_own (b := b2)) ?_
  refine aw_evg 14 rfl rfl ev_move ?_
  refine aw_evg 15 rfl rfl ev_len ?_
  obtain ⟨y7, hy8, hM⟩ := bind_some hM
  refine aw_callg 16 rfl rfl (fun hg w hm => let ⟨S, hs⟩ := hm; ref24_ascending_spec _ w c0.Left r_c0.1 (tasks0.length : Int) y7 (whn_some hy8 hg) (lend_lt hs) (Kn.lend (Kn.imm (α := List Int) (r := r_c0.1) (x := c0.Left) (by repeat (first | exact Has.head | apply Has.tail))) hs)) ?_
  refine aw_evg 17 rfl rfl ev_not ?_
  refine aw_ev 18 rfl ev_or ?_
  refine aw_ev 19 rfl ev_move ?_
  refine aw_evg 20 rfl rfl (ev_field_addr 1) ?_
  refine aw_evg 21 rfl rfl (ev_load_own (b := b2)) ?_
  refine aw_evg 22 rfl rfl ev_move ?_
  refine aw_evg 23 rfl rfl ev_len ?_
  obtain ⟨y9, hy10, hM⟩ := bind_some hM
  refine aw_callg 24 rfl rfl (fun hg w hm => let ⟨S, hs⟩ := hm; ref24_ascending_spec _ w c0.Right r_c0.2 (tasks0.length : Int) y9 (whn_some hy10 hg) (lend_lt hs) (Kn.lend (Kn.imm (α := List Int) (r := r_c0.2) (x := c0.Right) (by repeat (first | exact Has.head | apply Has.tail))) hs)) ?_
  refine aw_evg 25 rfl rfl ev_not ?_
  refine aw_ev 26 rfl ev_or ?_
  refine aw_ev 27 rfl ev_move ?_
  refine aw_evg 28 rfl rfl (ev_field_addr 0) ?_
  refine aw_evg 29 rfl rfl (ev_load_own (b := b2)) ?_
  refine aw_evg 30 rfl rfl ev_len ?_
  refine aw_evg 31 rfl rfl (ev_field_addr 1) ?_
  refine aw_evg 32 rfl rfl (ev_load_own (b := b2)) ?_
  refine aw_evg 33 rfl rfl ev_len ?_
  obtain ⟨hI11, hM⟩ := chk_some hM
  refine aw_evg 34 rfl rfl (ev_add (hr := fun hg => i64b_I64 (gor hI11 hg))) ?_
  refine aw_evg 35 rfl rfl ev_move ?_
  obtain ⟨y12, hy13, hM⟩ := bind_some hM
  refine aw_callg 36 rfl rfl (fun hg w hm => let ⟨S, hs⟩ := hm; ref24_Joined_spec _ w next0 r_next0 y12 (whn_some hy13 hg) (lend_lt hs) (Kn.lend (Kn.imm (α := List Int) (r := r_next0) (x := next0) (by repeat (first | exact Has.head | apply Has.tail))) hs)) ?_
  refine aw_evg 37 rfl rfl ev_neq ?_
  refine aw_ev 38 rfl ev_or ?_
  refine aw_done (hK3 _ _ ?_); clear hK3
  refine cw_cond rfl (fun hc14 => ?_) (fun hc14 => ?_)
  ·
    replace hM := (ite_t hc14).symm.trans hM
    refine cw_seq fun K4 hK4 => ?_
    refine cw_region ?_
    refine ow_ev ev_assign ?_
    refine ow_nil (hK4 _ _ ?_); clear hK4
    obtain rfl := some_inj hM
    refine cw_ret (kw_retc1 (fun w hm => ret_of hm rfl))
  ·
    replace hM := (ite_f hc14).symm.trans hM
    refine cw_skip (hK2 _ _ ?_); clear hK2
    refine cw_seq fun K5 hK5 => ?_
    refine cw_seq fun K6 hK6 => ?_
    refine cw_region ?_
    refine ow_ev ev_move ?_
    refine ow_have (fun w hm => Kn.len (Kn.imm (α := List Task) (r := r_tasks0) (x := tasks0) (by repeat (first | exact Has.head | apply Has.tail))) hm) fun hl15 => ?_
    refine ow_ev ev_len ?_
    refine ow_ev ev_move ?_
    refine ow_nil (hK6 _ _ ?_); clear hK6
    refine cw_block ?_
    refine cw_loop (γ := Nat × Nat × Unit) (env := fun (_, t54_1, _) => [(0, .v (.slice r_tasks0.a tasks0.length r_tasks0.cap)), (5, .v (.pointer (some ⟨b1, 0, none⟩))), (7, .v (.pointer (some ⟨b2, 0, none⟩))), (53, .v (.int .i64 (tasks0.length : Int))), (54, .v (.int .i64 (t54_1 : Int)))]) (mem := fun (_, t54_1, _) => [imm (α := (List Task)) r_tasks0 tasks0, imm (α := (List EmptyT)) r_r0.1 r0.Empties, imm (α := (List Int)) r_r0.2 r0.Shops, own b1 53 [.int .i64 r0.Turn, .slice r_r0.1.a r0.Empties.length r_r0.1.cap, .slice r_r0.2.a r0.Shops.length r_r0.2.cap, .int .i64 r0.Service, .int .i64 r0.Limit], imm (α := (List Int)) r_c0.1 c0.Left, imm (α := (List Int)) r_c0.2 c0.Right, own b2 72 [.slice r_c0.1.a c0.Left.length r_c0.1.cap, .slice r_c0.2.a c0.Right.length r_c0.2.cap]]) (R := fun g => iter (ref24_VerifyCover_b1 tasks0 r0 c0) g.1 g.2.1 = some y) (μ := fun g => g.1) (FUEL, 0, ()) hM ⟨rfl, rfl, rfl, rfl, rfl, trivial⟩ (fun w hm => hm.reord) ?_
    clear hM
    intro g hM KL1 hL1
    obtain ⟨nn1, t54_1, ⟨⟩⟩ := g
    dsimp only at hM ⊢
    obtain ⟨nn1, cont1, rfl, hcont1, hM⟩ := iter_open' hM
    dsimp only [ref24_VerifyCover_b1] at hM
    refine cw_seq fun K7 hK7 => ?_
    refine cw_region ?_
    refine ow_ev ev_lss ?_
    refine ow_nil (hK7 _ _ ?_); clear hK7
    refine cw_seq fun K8 hK8 => ?_
    refine cw_cond rfl (fun hc16 => ?_) (fun hc16 => ?_)
    ·
      replace hM := (ite_t hc16).symm.trans hM
      have hc16d := of_decide_eq_true hc16
      refine cw_skip (hK8 _ _ ?_); clear hK8
      refine cw_seq fun K9 hK9 => ?_
      refine cw_block ?_
      refine cw_seq fun K10 hK10 => ?_
      refine cw_region ?_
      refine ow_ev ev_move ?_
      refine ow_ev ev_assign ?_
      refine ow_nil (hK10 _ _ ?_); clear hK10
      refine cw_seq fun K11 hK11 => ?_
      refine cw_region ?_
      refine ow_ev ev_move ?_
      refine ow_have (fun w hm => Kn.len (Kn.imm (α := List Task) (r := r_tasks0) (x := tasks0) (by repeat (first | exact Has.head | apply Has.tail))) hm) fun hl17 => ?_
      refine ow_ev ev_len ?_
      refine ow_ev ev_move ?_
      refine ow_nil (hK11 _ _ ?_); clear hK11
      refine cw_block ?_
      refine cw_loop (γ := Nat × Nat × Unit) (env := fun (_, t59_2, _) => [(0, .v (.slice r_tasks0.a tasks0.length r_tasks0.cap)), (5, .v (.pointer (some ⟨b1, 0, none⟩))), (7, .v (.pointer (some ⟨b2, 0, none⟩))), (9, .v (.int .i64 (t54_1 : Int))), (53, .v (.int .i64 (tasks0.length : Int))), (54, .v (.int .i64 (t54_1 : Int))), (58, .v (.int .i64 (tasks0.length : Int))), (59, .v (.int .i64 (t59_2 : Int)))]) (mem := fun (_, t59_2, _) => [imm (α := (List Task)) r_tasks0 tasks0, imm (α := (List EmptyT)) r_r0.1 r0.Empties, imm (α := (List Int)) r_r0.2 r0.Shops, own b1 53 [.int .i64 r0.Turn, .slice r_r0.1.a r0.Empties.length r_r0.1.cap, .slice r_r0.2.a r0.Shops.length r_r0.2.cap, .int .i64 r0.Service, .int .i64 r0.Limit], imm (α := (List Int)) r_c0.1 c0.Left, imm (α := (List Int)) r_c0.2 c0.Right, own b2 72 [.slice r_c0.1.a c0.Left.length r_c0.1.cap, .slice r_c0.2.a c0.Right.length r_c0.2.cap]]) (R := fun g => iter (ref24_VerifyCover_b2 tasks0 t54_1 r0 c0 cont1) g.1 g.2.1 = some y) (μ := fun g => g.1) (FUEL, 0, ()) hM ⟨rfl, rfl, rfl, rfl, rfl, rfl, rfl, rfl, trivial⟩ (fun w hm => hm.reord) ?_
      clear hM
      intro g hM KL2 hL2
      obtain ⟨nn2, t59_2, ⟨⟩⟩ := g
      dsimp only at hM ⊢
      obtain ⟨nn2, cont2, rfl, hcont2, hM⟩ := iter_open' hM
      dsimp only [ref24_VerifyCover_b2] at hM
      refine cw_seq fun K12 hK12 => ?_
      refine cw_region ?_
      refine ow_ev ev_lss ?_
      refine ow_nil (hK12 _ _ ?_); clear hK12
      refine cw_seq fun K13 hK13 => ?_
      refine cw_cond rfl (fun hc18 => ?_) (fun hc18 => ?_)
      ·
        replace hM := (ite_t hc18).symm.trans hM
        have hc18d := of_decide_eq_true hc18
        refine cw_skip (hK13 _ _ ?_); clear hK13
        refine cw_seq fun K14 hK14 => ?_
        refine cw_block ?_
        refine cw_seq fun K15 hK15 => ?_
        refine cw_region ?_
        refine ow_ev ev_move ?_
        refine ow_ev ev_assign ?_
        refine ow_nil (hK15 _ _ ?_); clear hK15
        refine cw_seq fun K16 hK16 => ?_
        refine cw_region_any _ (List.Sublist.refl _) ?_
        refine aw_ev 0 rfl (ev_load_all (b := b1)) ?_
        refine aw_ev 1 rfl ev_move ?_
        refine aw_ev 2 rfl ev_move ?_
        obtain ⟨x19, hx20, hM⟩ := bind_some hM
        refine aw_ev 3 rfl (ev_idx (xs := tasks0) 5 (Kn.imm (α := List Task) (r := r_tasks0) (x := tasks0) (by repeat (first | exact Has.head | apply Has.tail))) (fun hg => let h := idx_some hx20; ⟨h.1, h.2.1⟩)) ?_
        refine aw_ev 4 rfl (ev_lds (m := 5) (i := (t54_1 : Int)) (xs := tasks0) (y := x19) (l := [.int .i64 x19.Type_, .int .i64 x19.From, .int .i64 x19.To, .int .i64 x19.Start, .int .i64 x19.End]) 0 (Kn.imm (α := List Task) (r := r_tasks0) (x := tasks0) (by repeat (first | exact Has.head | apply Has.tail))) (fun _ => hx20)) ?_
        refine aw_ev 5 rfl ev_move ?_
        refine aw_ev 6 rfl ev_move ?_
        obtain ⟨x21, hx22, hM⟩ := bind_some hM
        refine aw_ev 7 rfl (ev_idx (xs := tasks0) 5 (Kn.imm (α := List Task) (r := r_tasks0) (x := tasks0) (by repeat (first | exact Has.head | apply Has.tail))) (fun hg => let h := idx_some hx22; ⟨h.1, h.2.1⟩)) ?_
        refine aw_ev 8 rfl (ev_lds (m := 5) (i := (t59_2 : Int)) (xs := tasks0) (y := x21) (l := [.int .i64 x21.Type_, .int .i64 x21.From, .int .i64 x21.To, .int .i64 x21.Start, .int .i64 x21.End]) 0 (Kn.imm (α := List Task) (r := r_tasks0) (x := tasks0) (by repeat (first | exact Has.head | apply Has.tail))) (fun _ => hx22)) ?_
        obtain ⟨y23, hy24, hM⟩ := bind_some hM
        refine aw_one 9 rfl (st_callv (fun w hm => let ⟨S, hs⟩ := hm; ref24_Follows_spec _ w r0 r_r0 x19 x21 y23 hy24 (lend_lt hs) ⟨(Kn.lend (Kn.imm (α := List EmptyT) (r := r_r0.1) (x := r0.Empties) (by repeat (first | exact Has.head | apply Has.tail))) hs), (Kn.lend (Kn.imm (α := List Int) (r := r_r0.2) (x := r0.Shops) (by repeat (first | exact Has.head | apply Has.tail))) hs)⟩) ⟨fun w hm => hm.sub (by repeat (first | exact List.Sublist.refl _ | apply List.Sublist.cons_cons | apply List.Sublist.cons)), ?_⟩)
        refine aw_ev 10 rfl ev_move ?_
        refine aw_ev 11 rfl (ev_extract (vs := [.int .i64 y23.1, .bool y23.2])) ?_
        refine aw_ev 12 rfl (ev_extract (vs := [.int .i64 y23.1, .bool y23.2])) ?_
        refine aw_ev 13 rfl ev_assign ?_
        refine aw_ev 14 rfl ev_assign ?_
        refine aw_done (hK16 _ _ ?_); clear hK16
        refine cw_seq fun K17 hK17 => ?_
        refine cw_region ?_
        refine ow_ev ev_move ?_
        refine ow_ev ev_move ?_
        refine ow_evg rfl (ev_field_addr 0) ?_
        refine ow_evg rfl (ev_load_own (b := b2)) ?_
        refine ow_evg rfl ev_move ?_
        obtain ⟨y25, hy26, hM⟩ := bind_some hM
        refine ow_callg rfl (fun hg w hm => let ⟨S, hs⟩ := hm; ref24_member_spec _ w c0.Left r_c0.1 (t54_1 : Int) y25 (whn_some hy26 hg) (lend_lt hs) (Kn.lend (Kn.imm (α := List Int) (r := r_c0.1) (x := c0.Left) (by repeat (first | exact Has.head | apply Has.tail))) hs)) ?_
        refine ow_evg rfl ev_not ?_
        refine ow_ev ev_and ?_
        refine ow_ev ev_move ?_
        refine ow_evg rfl (ev_field_addr 1) ?_
        refine ow_evg rfl (ev_load_own (b := b2)) ?_
        refine ow_evg rfl ev_move ?_
        obtain ⟨y27, hy28, hM⟩ := bind_some hM
        refine ow_callg rfl (fun hg w hm => let ⟨S, hs⟩ := hm; ref24_member_spec _ w c0.Right r_c0.2 (t59_2 : Int) y27 (whn_some hy28 hg) (lend_lt hs) (Kn.lend (Kn.imm (α := List Int) (r := r_c0.2) (x := c0.Right) (by repeat (first | exact Has.head | apply Has.tail))) hs)) ?_
        refine ow_evg rfl ev_not ?_
        refine ow_ev ev_and ?_
        refine ow_nil (hK17 _ _ ?_); clear hK17
        refine cw_cond rfl (fun hc29 => ?_) (fun hc29 => ?_)
        ·
          replace hM := (ite_t hc29).symm.trans hM
          refine cw_seq fun K18 hK18 => ?_
          refine cw_region ?_
          refine ow_ev ev_assign ?_
          refine ow_nil (hK18 _ _ ?_); clear hK18
          obtain rfl := some_inj hM
          refine cw_ret (kw_retc1 (fun w hm => ret_of hm rfl))
        ·
          replace hM := (ite_f hc29).symm.trans hM
          refine cw_skip (hK14 _ _ ?_); clear hK14
          refine cw_region ?_
          refine ow_ev (ev_add (hr := fun _ => by unfold I64; omega)) ?_
          refine ow_ev ev_move ?_
          refine ow_nil (hL2 (nn2, (t59_2 + 1), ()) _ _ (eqc hcont2 hM) (Nat.lt_succ_self _) ⟨rfl, rfl, rfl, rfl, rfl, rfl, rfl, rfl, trivial⟩ (fun w hm => hm.reord))
      ·
        replace hM := (ite_f hc18).symm.trans hM
        refine cw_exit (hK9 _ _ ?_); clear hK9
        dsimp only [ref24_VerifyCover_k2] at hM
        refine cw_region ?_
        refine ow_ev (ev_add (hr := fun _ => by unfold I64; omega)) ?_
        refine ow_ev ev_move ?_
        refine ow_nil (hL1 (nn1, (t54_1 + 1), ()) _ _ (eqc hcont1 hM) (Nat.lt_succ_self _) ⟨rfl, rfl, rfl, rfl, rfl, trivial⟩ (fun w hm => hm.reord))
    ·
      replace hM := (ite_f hc16).symm.trans hM
      refine cw_exit (hK5 _ _ ?_); clear hK5
      dsimp only [ref24_VerifyCover_k1] at hM
      refine cw_seq fun K19 hK19 => ?_
      refine cw_region ?_
      refine ow_ev ev_assign ?_
      refine ow_nil (hK19 _ _ ?_); clear hK19
      obtain rfl := some_inj hM
      refine cw_ret (kw_retc1 (fun w hm => ret_of hm rfl))

def law28_example_m  : Option ((List Task) × Rules) :=
  some (([(Task.mk 0 1 2 0 10), (Task.mk 0 2 1 15 25), (Task.mk 0 1 2 20 30)] : List Task), (Rules.mk 5 ([] : List EmptyT) ([] : List Int) 0 100))
theorem law28_example_spec (S : Soup) (w : World)  (y : (List Task) × Rules) (hM : law28_example_m  = some y) (hS : ∀ k, S k → k < w.heap.size)  :
    Calls Try.prog 65 #[] w (Post (β := (GoRep.R (List Task)) × (GoRep.R Rules)) S [] (fun g => .tuple #[.slice g.1.a y.1.length g.1.cap, .agg #[.int .i64 y.2.Turn, .slice g.2.1.a y.2.Empties.length g.2.1.cap, .slice g.2.2.a y.2.Shops.length g.2.2.cap, .int .i64 y.2.Service, .int .i64 y.2.Limit]]) (fun g => [trow 60 g.1 y.1, trow 58 g.2.1 y.2.Empties, trow 3 g.2.2 y.2.Shops]) w) := by
  refine calls_cw (args := []) Try.func65 rfl ((pre_nil hS).start) rfl ?_
  unfold law28_example_m at hM
  refine cw_seq fun K1 hK1 => ?_
  refine cw_region ?_
  refine ow_ev ev_assign ?_
  refine ow_cons (st_alloc rfl (k := fun b1 => ?_))
  refine ow_nil (hK1 _ _ ?_); clear hK1
  refine cw_seq fun K2 hK2 => ?_
  refine cw_region ?_
  refine ow_ev (ev_build [.int .i64 0, .int .i64 1, .int .i64 2, .int .i64 0, .int .i64 10]) ?_
  refine ow_ev (ev_build [.int .i64 0, .int .i64 2, .int .i64 1, .int .i64 15, .int .i64 25]) ?_
  refine ow_ev (ev_build [.int .i64 0, .int .i64 1, .int .i64 2, .int .i64 20, .int .i64 30]) ?_
  refine ow_cons (st_bslice (α := Task) 60 (fun _ => ()) ([(Task.mk 0 1 2 0 10), (Task.mk 0 2 1 15 25), (Task.mk 0 1 2 20 30)] : List Task) (OkL.flat (fun _ _ _ _ => trivial)) (fun r2 => ?_))
  refine ow_ev (ev_build [.int .i64 5, .slice none 0 0, .slice none 0 0, .int .i64 0, .int .i64 100]) ?_
  refine ow_ev ev_assign ?_
  refine ow_cons (st_store_all (b := b1) (vs := [.int .i64 5, .slice none 0 0, .slice none 0 0, .int .i64 0, .int .i64 100]) (k := ?_))
  refine ow_nil (hK2 _ _ ?_); clear hK2
  refine cw_imp (fun w hm => hm.row_nil (α := EmptyT) 58 (fun _ => ())) ?_
  refine cw_imp (fun w hm => hm.row_nil (α := Int) 3 (fun _ => ())) ?_
  obtain rfl := some_inj hM
  refine cw_ret (kw_retc2 (fun w hm => post_of (r2, ((⟨none, 0, (fun _ => ())⟩ : SR (GoRep.R EmptyT) ), (⟨none, 0, (fun _ => ())⟩ : SR (GoRep.R Int)  ))) hm rfl))

end Go.Proofs.Ytedocibniankjaa
